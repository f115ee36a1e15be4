/- Regions whose order is drawn. -/
import Derived.Test.YtaoanbebgeeicaaGreatDoorG8
namespace Go.Proofs.YtaoanbebgeeicaaGreatDoor.G
open Go Go.RowKit
set_option linter.unusedVariables false
set_option linter.unusedSimpArgs false

/-- i is told to go ahead of j. -/
def Edg (ops : Array Oper) (i j : Nat) : Prop := ∃ o, ops[j]? = some o ∧ ∃ e ∈ o.after.toList, Region.binds .any e = true ∧ e.on = i
inductive Anc (ops : Array Oper) : Nat → Nat → Prop where
  | one {i j} : Edg ops i j → Anc ops i j
  | step {i k j} : Anc ops i k → Edg ops k j → Anc ops i j
def Closed (ops : Array Oper) (D : Nat → Prop) : Prop := ∀ i j, Edg ops i j → D j → D i
theorem Closed.anc {ops : Array Oper} {D : Nat → Prop} (h : Closed ops D) {i j : Nat} (ha : Anc ops i j) : D j → D i := by
  induction ha with
  | one e => exact h _ _ e
  | step _ e ih => exact fun hd => ih (h _ _ e hd)
theorem anc_lt {ops : Array Oper} (hlt : ∀ i j, Edg ops i j → i < j) {i j : Nat} (ha : Anc ops i j) : i < j := by
  induction ha with
  | one e => exact hlt _ _ e
  | step _ e ih => exact Nat.lt_trans ih (hlt _ _ e)

/-- Each operation's part of a drawn region. -/
structure Parts (P : Program) (N : Nat) (ops : Array Oper) (T : Nat → Nat → AV) (S : Nat → Hp) (nn : Nat → Nat) (v : Nat → AV) (F F' : Nat → Hp) : Prop where
  op : ∀ (i : Nat) (o : Oper), ops[i]? = some o → okOper P N o = true ∧ (∀ g c og d, o.guard = some (g, c) → ops[g]? = some og → og.dst = some d → d < N) ∧ T (i + 1) = putT (T i) o.dst (v i) ∧
    ((wantG ops (T i) o = some true ∧ OpOk P o (evalAV (T i)) (F i) (nn i) (v i) (F' i) (nn (i + 1))) ∨ (wantG ops (T i) o = some false ∧ v i = .tup [] ∧ F i = (fun _ _ => none) ∧ F' i = (fun _ _ => none) ∧ nn (i + 1) = nn i))
  sub : ∀ i, i < ops.size → (F i).sub (S i)
  heap : ∀ i, i < ops.size → S (i + 1) = (F' i).over (S i)
  lt : ∀ i j, Edg ops i j → i < j
  apart : ∀ i j, i < j → j < ops.size → ¬ Anc ops i j → ∀ m o, (F' i m o ≠ F i m o → F j m o = none ∧ F' j m o = none) ∧ (F' j m o ≠ F j m o → F i m o = none ∧ F' i m o = none)
  dst : ∀ (i j : Nat) (oi oj : Oper) (d : Tmp), i < j → ops[i]? = some oi → ops[j]? = some oj → oi.dst = some d → oj.dst ≠ some d
  looks : ∀ (i j : Nat) (oi oj : Oper) (d : Tmp), i ≠ j → ops[i]? = some oi → ops[j]? = some oj → oi.dst = some d → d ∈ oj.looksAt ops → Anc ops i j ∨ Anc ops j i

section
variable {P : Program} {N : Nat} {ops : Array Oper} {T : Nat → Nat → AV} {S : Nat → Hp} {nn : Nat → Nat} {v : Nat → AV} {F F' : Nat → Hp}
open Classical in
/-- The heap behind some of the operations. -/
noncomputable def Gh (F F' : Nat → Hp) (H : Hp) (D : Nat → Prop) : Nat → Hp
  | 0 => H
  | m + 1 => fun a b => if D m ∧ F' m a b ≠ F m a b then F' m a b else Gh F F' H D m a b
open Classical in
noncomputable def Tt (ops : Array Oper) (v : Nat → AV) (T0 : Nat → AV) (D : Nat → Prop) : Nat → Nat → AV
  | 0 => T0
  | m + 1 => fun t => if D m ∧ ((ops[m]?).bind (·.dst)) = some t then v m else Tt ops v T0 D m t

theorem Parts.ext (h : Parts P N ops T S nn v F F') {i : Nat} (hi : i < ops.size) : Ext (F i) (nn i) (F' i) (nn (i + 1)) := by
  obtain ⟨_, _, _, h1 | ⟨_, _, h2, h3, h4⟩⟩ := h.op i ops[i] (Array.getElem?_eq_getElem hi)
  · exact h1.2.ext
  · rw [h2, h3, h4]; exact .refl _ _
/-- What all ahead of j have made is what those made that j waits for, where j looks. -/
theorem Parts.same (h : Parts P N ops T S nn v F F') {H : Hp} {D : Nat → Prop} (hc : Closed ops D) {j : Nat} (hj : j < ops.size) (hd : ¬ D j) (ha : ∀ i, Anc ops i j → D i) {a b : Nat} (hf : F j a b ≠ none ∨ F' j a b ≠ none) :
    ∀ m, m ≤ ops.size → Gh F F' H D m a b = Gh F F' H (fun i => i < j) m a b
  | 0, _ => rfl
  | m + 1, hm => by
    have ih := Parts.same h (H := H) hc hj hd ha hf m (by omega)
    simp only [Gh, ih]
    by_cases hmod : F' m a b ≠ F m a b
    · have hDm : D m ↔ m < j := by
        rcases Nat.lt_trichotomy m j with hlt | heq | hgt
        · refine ⟨fun _ => hlt, fun _ => ?_⟩
          refine Classical.byContradiction fun hn => ?_
          have hna : ¬ Anc ops m j := fun hanc => hn (ha m hanc)
          have := (h.apart m j hlt hj hna a b).1 hmod
          rcases hf with hf | hf
          · exact hf this.1
          · exact hf this.2
        · subst heq; exact ⟨fun hx => absurd hx hd, fun hx => absurd hx (Nat.lt_irrefl _)⟩
        · refine ⟨fun hx => ?_, fun hx => by omega⟩
          have hna : ¬ Anc ops j m := fun hanc => hd (hc.anc hanc hx)
          have := (h.apart j m hgt (by omega) hna a b).2 hmod
          rcases hf with hf | hf
          · exact absurd this.1 hf
          · exact absurd this.2 hf
      by_cases hlt : m < j
      · rw [if_pos ⟨hDm.mpr hlt, hmod⟩, if_pos ⟨hlt, hmod⟩]
      · rw [if_neg (fun hx => hlt (hDm.mp hx.1)), if_neg (fun hx => hlt hx.1)]
    · rw [if_neg (fun hx => hmod hx.2), if_neg (fun hx => hmod hx.2)]
theorem Parts.all (h : Parts P N ops T S nn v F F') {H : Hp} (h0 : (S 0).sub H) {D : Nat → Prop} : ∀ m, m ≤ ops.size → (∀ i, i < m → D i) → Gh F F' H D m = (S m).over H
  | 0, _, _ => (Hp.over_of_sub h0).symm
  | m + 1, hm, hD => by
    have ih := Parts.all h h0 m (by omega) (fun i hi => hD i (by omega))
    funext a b
    simp only [Gh, ih]
    have hS := congrFun (congrFun (h.heap m (by omega)) a) b
    simp only [Hp.over] at hS ⊢
    rw [hS]
    by_cases hmod : F' m a b ≠ F m a b
    · rw [if_pos ⟨hD m (by omega), hmod⟩]
      cases e : F' m a b with
      | some c => rfl
      | none =>
        cases e2 : F m a b with
        | none => rw [e, e2] at hmod; exact absurd rfl hmod
        | some c => obtain ⟨c', h'⟩ := (h.ext (by omega)).dom a b c e2; rw [e] at h'; cases h'
    · rw [if_neg (fun hx => hmod hx.2)]
      have he : F' m a b = F m a b := Classical.not_not.mp hmod
      rw [he]
      cases e : F m a b with
      | none => rfl
      | some c => rw [h.sub m (by omega) a b c e]
theorem Gh.lt {H : Hp} {j : Nat} : ∀ m, j ≤ m → Gh F F' H (fun i => i < j) m = Gh F F' H (fun i => i < j) j
  | 0, h => by have : j = 0 := by omega
               subst this; rfl
  | m + 1, h => by
    by_cases e : j = m + 1
    · subst e; rfl
    · have ih : Gh F F' H (fun i => i < j) m = Gh F F' H (fun i => i < j) j := Gh.lt m (by omega)
      rw [← ih]; funext a b; simp only [Gh]
      rw [if_neg (fun hx => by omega)]
theorem Gh.congr {H : Hp} {D D' : Nat → Prop} : ∀ m, (∀ i, i < m → (D i ↔ D' i)) → Gh F F' H D m = Gh F F' H D' m
  | 0, _ => rfl
  | m + 1, h => by
    have ih : Gh F F' H D m = Gh F F' H D' m := Gh.congr m (fun i hi => h i (by omega))
    funext a b; simp only [Gh, ih]
    by_cases hy : D m ∧ F' m a b ≠ F m a b
    · rw [if_pos hy, if_pos ⟨(h m (by omega)).mp hy.1, hy.2⟩]
    · rw [if_neg hy, if_neg (fun hx => hy ⟨(h m (by omega)).mpr hx.1, hx.2⟩)]
/-- Where j looks, there lies what it looks for. -/
theorem Parts.foot (h : Parts P N ops T S nn v F F') {H : Hp} (h0 : (S 0).sub H) {D : Nat → Prop} (hc : Closed ops D) {j : Nat} (hj : j < ops.size) (hd : ¬ D j) (ha : ∀ i, Anc ops i j → D i) : (F j).sub (Gh F F' H D ops.size) := fun a b c e => by
  rw [h.same hc hj hd ha (.inl (by rw [e]; simp)) _ (Nat.le_refl _), Gh.lt _ (Nat.le_of_lt hj), h.all h0 j (Nat.le_of_lt hj) (fun i hi => hi)]
  exact Hp.sub_over _ _ _ _ _ (h.sub j hj a b c e)
theorem Parts.add (h : Parts P N ops T S nn v F F') {H : Hp} (h0 : (S 0).sub H) {D : Nat → Prop} (hc : Closed ops D) {j : Nat} (hj : j < ops.size) (hd : ¬ D j) (ha : ∀ i, Anc ops i j → D i) :
    Gh F F' H (fun i => D i ∨ i = j) ops.size = (F' j).over (Gh F F' H D ops.size) := by
  funext a b
  by_cases hmod : F' j a b ≠ F j a b
  · have key : ∀ m, j < m → m ≤ ops.size → Gh F F' H (fun i => D i ∨ i = j) m a b = F' j a b := fun m => by
      induction m with
      | zero => intro h1; omega
      | succ m ih =>
        intro h1 h2
        simp only [Gh]
        by_cases e : m = j
        · subst e; rw [if_pos ⟨.inr rfl, hmod⟩]
        · rw [if_neg, ih (by omega) (by omega)]
          rintro ⟨hx, hm2⟩
          have hDm : D m := hx.resolve_right e
          have hna : ¬ Anc ops j m := fun hanc => hd (hc.anc hanc hDm)
          have hz := (h.apart j m (by omega) (by omega) hna a b).1 hmod
          rw [hz.1, hz.2] at hm2; exact hm2 rfl
    rw [key _ hj (Nat.le_refl _)]
    unfold Hp.over
    cases e : F' j a b with
    | some c => rfl
    | none =>
      cases e2 : F j a b with
      | none => rw [e, e2] at hmod; exact absurd rfl hmod
      | some c => obtain ⟨c', h'⟩ := (h.ext hj).dom a b c e2; rw [e] at h'; cases h'
  · have he : F' j a b = F j a b := Classical.not_not.mp hmod
    have key : ∀ m, Gh F F' H (fun i => D i ∨ i = j) m a b = Gh F F' H D m a b := fun m => by
      induction m with
      | zero => rfl
      | succ m ih =>
        simp only [Gh, ih]
        by_cases e : m = j
        · subst e; rw [if_neg (fun hx => hmod hx.2), if_neg (fun hx => hmod hx.2)]
        · by_cases hy : D m ∧ F' m a b ≠ F m a b
          · rw [if_pos ⟨.inl hy.1, hy.2⟩, if_pos hy]
          · rw [if_neg (fun hx => hy ⟨hx.1.resolve_right e, hx.2⟩), if_neg hy]
    rw [key]
    unfold Hp.over
    rw [he]
    cases e : F j a b with
    | none => rfl
    | some c => exact h.foot h0 hc hj hd ha a b c e

/-- Slots. -/
theorem Parts.slot (h : Parts P N ops T S nn v F F') {D : Nat → Prop} (hc : Closed ops D) {j : Nat} {oj : Oper} (hj : ops[j]? = some oj) (hd : ¬ D j) (ha : ∀ i, Anc ops i j → D i) {t : Nat} (ht : t ∈ oj.looksAt ops) :
    ∀ m, m ≤ ops.size → Tt ops v (T 0) D m t = T (min m j) t
  | 0, _ => by rw [Nat.zero_min]; rfl
  | m + 1, hm => by
    have ih := Parts.slot h hc hj hd ha ht m (by omega)
    have hjs : j < ops.size := by
      rcases Nat.lt_or_ge j ops.size with hx | hx
      · exact hx
      · rw [Array.getElem?_eq_none hx] at hj; cases hj
    have hom : ops[m]? = some ops[m] := Array.getElem?_eq_getElem (by omega)
    have hwr : ((ops[m]?).bind (·.dst)) = some t ↔ (ops[m]'(by omega)).dst = some t := by rw [hom]; rfl
    simp only [Tt]
    by_cases hw : (ops[m]'(by omega)).dst = some t
    · rcases Nat.lt_trichotomy m j with hlt | heq | hgt
      · have hD : D m := by
          rcases h.looks m j _ oj t (by omega) hom hj hw ht with hx | hx
          · exact ha m hx
          · have := anc_lt h.lt hx; omega
        rw [if_pos ⟨hD, hwr.mpr hw⟩, show min (m + 1) j = m + 1 by omega, (h.op m _ hom).2.2.1, hw]
        simp [putT]
      · subst heq; rw [if_neg (fun hx => hd hx.1), ih, show min (m + 1) m = min m m by omega]
      · rw [if_neg, ih, show min (m + 1) j = min m j by omega]
        rintro ⟨hx, _⟩
        rcases h.looks m j _ oj t (by omega) hom hj hw ht with hy | hy
        · have := anc_lt h.lt hy; omega
        · exact hd (hc.anc hy hx)
    · rw [if_neg (fun hx => hw (hwr.mp hx.2)), ih]
      rcases Nat.lt_or_ge m j with hlt | hge
      · rw [show min (m + 1) j = m + 1 by omega, show min m j = m by omega, (h.op m _ hom).2.2.1]
        cases hdd : (ops[m]'(by omega)).dst with
        | none => rfl
        | some d =>
          simp only [putT]
          rw [if_neg]; intro e; subst e; exact hw hdd
      · rw [show min (m + 1) j = min m j by omega]
theorem Parts.slotAdd (h : Parts P N ops T S nn v F F') {D : Nat → Prop} {j : Nat} {oj : Oper} (hj : ops[j]? = some oj) (hd : ¬ D j) : Tt ops v (T 0) (fun i => D i ∨ i = j) ops.size = putT (Tt ops v (T 0) D ops.size) oj.dst (v j) := by
  have hjs : j < ops.size := by
    rcases Nat.lt_or_ge j ops.size with hx | hx
    · exact hx
    · rw [Array.getElem?_eq_none hx] at hj; cases hj
  funext t
  by_cases hw : oj.dst = some t
  · rw [hw]; simp only [putT, if_true]
    have key : ∀ m, j < m → m ≤ ops.size → Tt ops v (T 0) (fun i => D i ∨ i = j) m t = v j := fun m => by
      induction m with
      | zero => intro h1; omega
      | succ m ih =>
        intro h1 h2
        have hom : ops[m]? = some ops[m] := Array.getElem?_eq_getElem (by omega)
        have hwr : ((ops[m]?).bind (·.dst)) = some t ↔ (ops[m]'(by omega)).dst = some t := by rw [hom]; rfl
        simp only [Tt]
        by_cases e : m = j
        · subst e; rw [if_pos ⟨.inr rfl, by rw [hj]; exact hw⟩]
        · rw [if_neg, ih (by omega) (by omega)]
          rintro ⟨_, hx⟩
          exact h.dst j m oj _ t (by omega) hj hom hw (hwr.mp hx)
    exact key _ hjs (Nat.le_refl _)
  · have key : ∀ m, m ≤ ops.size → Tt ops v (T 0) (fun i => D i ∨ i = j) m t = Tt ops v (T 0) D m t := fun m => by
      induction m with
      | zero => intro _; rfl
      | succ m ih =>
        intro h2
        simp only [Tt, ih (by omega)]
        by_cases e : m = j
        · subst e
          have hwr : ((ops[m]?).bind (·.dst)) = some t ↔ oj.dst = some t := by rw [hj]; rfl
          rw [if_neg (fun hx => hw (hwr.mp hx.2)), if_neg (fun hx => hw (hwr.mp hx.2))]
        · by_cases hy : D m ∧ ((ops[m]?).bind (·.dst)) = some t
          · rw [if_pos ⟨.inl hy.1, hy.2⟩, if_pos hy]
          · rw [if_neg (fun hx => hy ⟨hx.1.resolve_right e, hx.2⟩), if_neg hy]
    rw [key _ (Nat.le_refl _)]
    cases hdd : oj.dst with
    | none => rfl
    | some d => simp only [putT]; rw [if_neg]; intro e; subst e; exact hw hdd
theorem Parts.slots (h : Parts P N ops T S nn v F F') {D : Nat → Prop} : ∀ m, m ≤ ops.size → (∀ i, i < m → D i) → Tt ops v (T 0) D m = T m
  | 0, _, _ => rfl
  | m + 1, hm, hD => by
    have ih := Parts.slots h m (by omega) (fun i hi => hD i (by omega))
    have hom : ops[m]? = some ops[m] := Array.getElem?_eq_getElem (by omega)
    funext t
    have hwr : ((ops[m]?).bind (·.dst)) = some t ↔ (ops[m]'(by omega)).dst = some t := by rw [hom]; rfl
    simp only [Tt, ih, (h.op m _ hom).2.2.1]
    cases hdd : (ops[m]'(by omega)).dst with
    | none => rw [if_neg (fun hx => by have := hwr.mp hx.2; rw [hdd] at this; cases this)]; rfl
    | some d =>
      simp only [putT]
      by_cases e : t = d
      · subst e; rw [if_pos ⟨hD m (by omega), hwr.mpr hdd⟩, if_pos rfl]
      · rw [if_neg (fun hx => by have := hwr.mp hx.2; rw [hdd] at this; exact e (Option.some.inj this).symm), if_neg e]

def Li (listed : Array Bool) (i : Nat) : Prop := listed.getD i false = true
theorem ready_iff {ops : Array Oper} {listed : Array Bool} (hsz : listed.size = ops.size) {i : Nat} : i ∈ Region.ready .any ops listed ↔ i < ops.size ∧ ¬ Li listed i ∧ ∀ k, Edg ops k i → Li listed k := by
  unfold Region.ready
  rw [List.mem_filter, List.mem_range]
  constructor
  · rintro ⟨hi, hb⟩
    simp only [Bool.and_eq_true, Bool.not_eq_true'] at hb
    have hlt : i < listed.size := by omega
    refine ⟨hi, ?_, fun k ⟨o, ho, e, he, hbind, hon⟩ => ?_⟩
    · unfold Li; have := hb.1; simp [hlt] at this ⊢; exact this
    · have h2 := hb.2
      rw [ho] at h2
      simp only [Option.map_some, Option.getD_some] at h2
      rw [← Array.all_toList, List.all_eq_true] at h2
      have := h2 e he
      rw [hbind] at this
      unfold Li; rw [← hon]; simpa using this
  · rintro ⟨hi, hn, hk⟩
    refine ⟨hi, ?_⟩
    have hlt : i < listed.size := by omega
    have ho : ops[i]? = some ops[i] := Array.getElem?_eq_getElem hi
    simp only [Bool.and_eq_true, Bool.not_eq_true']
    refine ⟨by unfold Li at hn; simp [hlt] at hn ⊢; exact hn, ?_⟩
    rw [ho]
    simp only [Option.map_some, Option.getD_some]
    rw [← Array.all_toList, List.all_eq_true]
    intro e he
    by_cases hb : Region.binds .any e = true
    · have := hk e.on ⟨_, ho, e, he, hb, rfl⟩
      unfold Li at this; rw [this]; simp
    · simp at hb; rw [hb]; rfl
/-- The region as a whole. -/
theorem Parts.any (h : Parts P N ops T S nn v F F') {H : Hp} {r0 : Rho} {w0 : World} (h0 : (S 0).sub H) {Q : Exit → Act → World → Prop}
    (hq : ∀ r' w' a', Tie r' N (T ops.size) a' → Rel P r' ((S ops.size).over H) w' → Adv (nn 0) (nn ops.size) r0 H w0 r' ((S ops.size).over H) w' → Q .normal a' w') :
    ∀ (fuel : Nat) (listed : Array Bool) (r : Rho) (w : World) (a : Act), listed.size = ops.size → listed.toList.count false = fuel → Closed ops (Li listed) →
      Tie r N (Tt ops v (T 0) (Li listed) ops.size) a → Rel P r (Gh F F' H (Li listed) ops.size) w → Adv (nn 0) (nn ops.size) r0 H w0 r (Gh F F' H (Li listed) ops.size) w →
      (∀ i, i < ops.size → ¬ Li listed i → Fresh r (Gh F F' H (Li listed) ops.size) (nn i) (nn (i + 1))) → wpAny P .any ops Q fuel listed a w := by
  have hmono : ∀ j i, i ≤ j → j ≤ ops.size → nn i ≤ nn j := fun j => by
    induction j with
    | zero => intro i h1 _; have : i = 0 := by omega
              subst this; exact Nat.le_refl _
    | succ j ih =>
      intro i h1 h2
      rcases Nat.lt_or_ge i (j + 1) with hlt | hge
      · exact Nat.le_trans (ih i (by omega) (by omega)) (h.ext (by omega)).le
      · have : i = j + 1 := by omega
        subst this; exact Nat.le_refl _
  have full : ∀ listed : Array Bool, listed.size = ops.size → Region.ready .any ops listed = [] → ∀ i, i < ops.size → Li listed i := fun listed hsz hr i => by
    induction i using Nat.strongRecOn with
    | _ i ih =>
      intro hi
      refine Classical.byContradiction fun hn => ?_
      have : i ∈ Region.ready .any ops listed := (ready_iff hsz).mpr ⟨hi, hn, fun k hk => ih k (h.lt k i hk) (by have := h.lt k i hk; omega)⟩
      rw [hr] at this; cases this
  have done : ∀ (listed : Array Bool) (r : Rho) (w : World) (a : Act), listed.size = ops.size → Region.ready .any ops listed = [] → Tie r N (Tt ops v (T 0) (Li listed) ops.size) a → Rel P r (Gh F F' H (Li listed) ops.size) w →
      Adv (nn 0) (nn ops.size) r0 H w0 r (Gh F F' H (Li listed) ops.size) w → Q .normal a w := fun listed r w a hsz hr ht h1 h2 => by
    have hall := full listed hsz hr
    rw [h.slots _ (Nat.le_refl _) hall] at ht
    rw [h.all h0 _ (Nat.le_refl _) hall] at h1 h2
    exact hq r w a ht h1 h2
  intro fuel
  induction fuel with
  | zero =>
    intro listed r w a hsz hcnt hc ht h1 h2 hf
    have hr : Region.ready .any ops listed = [] := by
      cases hl : Region.ready .any ops listed with
      | nil => rfl
      | cons i l =>
        have hi := (ready_iff hsz).mp (by rw [hl]; exact List.mem_cons_self)
        have : false ∈ listed.toList := by
          have hlt : i < listed.size := by omega
          have hn := hi.2.1; unfold Li at hn; simp [hlt] at hn
          rw [← hn]; simp
        have := List.count_pos_iff.mpr this; omega
    exact ⟨hr, done listed r w a hsz hr ht h1 h2⟩
  | succ fuel ih =>
    intro listed r w a hsz hcnt hc ht h1 h2 hf
    refine ⟨fun hr => done listed r w a hsz hr ht h1 h2, fun j hj => ?_⟩
    obtain ⟨hjs, hjn, hje⟩ := (ready_iff hsz).mp hj
    have ho : ops[j]? = some ops[j] := Array.getElem?_eq_getElem hjs
    have hanc : ∀ i, Anc ops i j → Li listed i := fun i ha => by
      cases ha with
      | one e => exact hje _ e
      | step ha e => exact hc.anc ha (hje _ e)
    have hlt : j < listed.size := by omega
    -- what is listed then
    have hli : ∀ i, Li (listed.setIfInBounds j true) i ↔ (Li listed i ∨ i = j) := fun i => by
      unfold Li
      by_cases e : i = j
      · subst e; simp [hlt]
      · rw [show (listed.setIfInBounds j true).getD i false = listed.getD i false by simp [Array.getElem?_setIfInBounds_ne (Ne.symm e)]]; simp [e]
    have hG : Gh F F' H (Li (listed.setIfInBounds j true)) ops.size = Gh F F' H (fun i => Li listed i ∨ i = j) ops.size := Gh.congr _ fun i _ => hli i
    have hT : Tt ops v (T 0) (Li (listed.setIfInBounds j true)) ops.size = Tt ops v (T 0) (fun i => Li listed i ∨ i = j) ops.size := by
      have : Li (listed.setIfInBounds j true) = fun i => Li listed i ∨ i = j := funext fun i => propext (hli i)
      rw [this]
    have hadd := h.add h0 hc hjs hjn hanc (H := H)
    have hadT := h.slotAdd (D := Li listed) ho hjn
    have hsz' : (listed.setIfInBounds j true).size = ops.size := by simp [hsz]
    have hcnt' : (listed.setIfInBounds j true).toList.count false = fuel := by
      have hn := hjn; unfold Li at hn; simp [hlt] at hn
      rw [Array.toList_setIfInBounds, List.count_set (by simpa using hlt)]
      simp [hn, hcnt]
    have hc' : Closed ops (Li (listed.setIfInBounds j true)) := fun i k e hk => (hli i).mpr (by
      rcases (hli k).mp hk with hk | rfl
      · exact .inl (hc i k e hk)
      · exact .inl (hje i e))
    obtain ⟨hok, hgd, _, hcase⟩ := h.op j _ ho
    have hlook : ∀ t, t ∈ (ops[j]).looksAt ops → Tt ops v (T 0) (Li listed) ops.size t = T j t := fun t ht0 => by
      have := h.slot hc ho hjn hanc ht0 ops.size (Nat.le_refl _)
      rwa [show min ops.size j = j by omega] at this
    have hwant : ∀ b, wantG ops (T j) ops[j] = some b → Region.wanted ops[j] (yielded ops a.tmps) = b := fun b hb => wantG_ok (a := a) (N := N) (r := r) hb fun g c og d e1 e2 e3 => by
      refine ⟨by rw [ht.size]; exact hgd g c og d e1 e2 e3, ?_⟩
      rw [← hlook d (by unfold Oper.looksAt; rw [e1]; simp [e2, e3])]
      exact ht.val d
    -- what is left is fresh still
    have hfresh : ∀ (r' : Rho) (w' : World), Adv (nn j) (nn (j + 1)) r (Gh F F' H (Li listed) ops.size) w r' ((F' j).over (Gh F F' H (Li listed) ops.size)) w' → ∀ i, i < ops.size → ¬ Li (listed.setIfInBounds j true) i →
        Fresh r' ((F' j).over (Gh F F' H (Li listed) ops.size)) (nn i) (nn (i + 1)) := fun r' w' ha i hi hn m hm1 hm2 => by
      have hn1 : ¬ Li listed i := fun hx => hn ((hli i).mpr (.inl hx))
      have hn2 : i ≠ j := fun hx => hn ((hli i).mpr (.inr hx))
      have hfi := hf i hi hn1 m hm1 hm2
      have hout : m < nn j ∨ nn (j + 1) ≤ m := by
        rcases Nat.lt_or_gt_of_ne hn2 with hx | hx
        · left; have := hmono j (i + 1) (by omega) (by omega); omega
        · right; have := hmono i (j + 1) (by omega) (by omega); omega
      refine ⟨by rw [ha.only m hout]; exact hfi.1, fun o => ?_⟩
      unfold Hp.over
      cases e : F' j m o with
      | none => exact hfi.2 o
      | some c =>
        rcases (h.ext hjs).new m o c e with ⟨c', e'⟩ | ⟨x, y⟩
        · have := h.foot h0 hc hjs hjn hanc m o c' e'; rw [hfi.2 o] at this; cases this
        · omega
    rcases hcase with ⟨hw, hop⟩ | ⟨hw, hv, hF, hF', hnn⟩
    · unfold wpOp
      rw [ho]
      simp only [hwant true hw, if_true]
      refine .inl (hop.run _ r w a (fun x hx => ?_) (h.foot h0 hc hjs hjn hanc) h1 (hf j hjs hjn) _ _ fun r1 w1 v1 hv1 k1 k2 => ?_)
      · have hx1 := (okOper_ok hok).1 x hx
        have := ht.eval h1 hx1
        cases x with
        | tmp t =>
          simp only [evalAV] at this ⊢
          rw [← hlook t (by unfold Oper.looksAt; exact List.mem_append_left _ (List.mem_filterMap.mpr ⟨.tmp t, by simpa using hx, rfl⟩))]; exact this
        | _ => exact this
      · refine ih _ r1 w1 _ hsz' hcnt' hc' ?_ ?_ ?_ ?_
        · rw [hT, hadT]; exact (ht.mono k2.le).put (okOper_ok hok).2 hv1
        · rw [hG, hadd]; exact k1
        · rw [hG, hadd]
          refine ⟨h2.le.trans k2.le, fun m hm => ?_, k2.os.trans h2.os, k2.tape.trans h2.tape, k2.output.trans h2.output, Nat.le_trans h2.size k2.size,
            fun b hb hno => (k2.block b (Nat.lt_of_lt_of_le hb h2.size) fun o1 => hno (h2.own b hb o1)).trans (h2.block b hb hno), fun b hb o2 => h2.own b hb (k2.own b (Nat.lt_of_lt_of_le hb h2.size) o2)⟩
          have e1 := hmono j 0 (Nat.zero_le _) (by omega)
          have e2 := hmono ops.size (j + 1) (by omega) (Nat.le_refl _)
          rw [k2.only m (by omega), h2.only m hm]
        · intro i hi hn; rw [hG, hadd]; exact hfresh r1 w1 k2 i hi hn
    · unfold wpOp
      rw [ho]
      simp only [hwant false hw, Bool.false_eq_true, if_false]
      have hid : (F' j).over (Gh F F' H (Li listed) ops.size) = Gh F F' H (Li listed) ops.size := by rw [hF']; rfl
      refine ih _ r w _ hsz' hcnt' hc' ?_ ?_ ?_ ?_
      · rw [hT, hadT, hv]; exact ht.put (okOper_ok hok).2 (.undef r)
      · rw [hG, hadd, hid]; exact h1
      · rw [hG, hadd, hid]; exact h2
      · intro i hi hn; rw [hG, hadd]
        refine hfresh r w ?_ i hi hn
        rw [hid, hnn]; exact .refl _ _ _ _
end
end Go.Proofs.YtaoanbebgeeicaaGreatDoor.G
