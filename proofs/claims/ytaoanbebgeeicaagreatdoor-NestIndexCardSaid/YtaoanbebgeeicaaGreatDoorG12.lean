/- The evaluator. -/
import Derived.Test.YtaoanbebgeeicaaGreatDoorG11
namespace Go.Proofs.YtaoanbebgeeicaaGreatDoor.G
open Go Go.RowKit
set_option linter.unusedVariables false
set_option linter.unusedSimpArgs false

structure FI where
  ntmps : Nat
  body : Code
  res : List ResultVar
structure Env where
  P : Program
  ft : FuncId → Option FI
  orc : FuncId → List AV → GH → Nat → Option (AV × GH × Nat)

noncomputable def replL {β : Type} (vs : List AV) : List Cell → (List Cell → β) → β :=
  List.rec (motive := fun _ => List Cell → (List Cell → β) → β) (fun l c => c l) (fun v _ ih l c => List.rec (c []) (fun _ t _ => ih t fun t => c (.rw v :: t)) l) vs
noncomputable def setsL {β : Type} (vs : List AV) (o : Nat) : List Cell → (List Cell → β) → β :=
  Nat.rec (motive := fun _ => List Cell → (List Cell → β) → β) (fun l c => replL vs l c) (fun _ ih l c => List.rec (c []) (fun x t _ => ih t fun t => c (x :: t)) l) o
noncomputable def killL {β : Type} (k o : Nat) : List Cell → (List Cell → β) → β :=
  Nat.rec (motive := fun _ => List Cell → (List Cell → β) → β)
    (Nat.rec (motive := fun _ => List Cell → (List Cell → β) → β) (fun l c => c l) (fun _ ih l c => List.rec (c []) (fun _ t _ => ih t fun t => c (.dead :: t)) l) k)
    (fun _ ih l c => List.rec (c []) (fun x t _ => ih t fun t => c (x :: t)) l) o
noncomputable def takeC {β : Type} (k : Nat) : List Cell → List Cell → (List Cell → β) → β :=
  Nat.rec (motive := fun _ => List Cell → List Cell → (List Cell → β) → β) (fun _ e c => c e) (fun _ ih l e c => List.rec (c e) (fun x t _ => ih t e fun t => c (x :: t)) l) k
theorem replL_ok : ∀ (vs : List AV) (l : List Cell), vs.length ≤ l.length → ∃ l' : List Cell, (∀ (β : Type) (c : List Cell → β), replL vs l c = c l') ∧ l'.length = l.length ∧ ∀ j : Nat, l'[j]? = if j < vs.length then (vs.map Cell.rw)[j]? else l[j]?
  | [], l, _ => ⟨l, fun β c => rfl, rfl, fun j => by simp⟩
  | v :: vs, [], h => by simp at h
  | v :: vs, x :: t, h => by
    obtain ⟨l', h1, h2, h3⟩ := replL_ok vs t (by simpa using h)
    refine ⟨.rw v :: l', fun β c => h1 β _, by simp [h2], fun j => ?_⟩
    cases j with
    | zero => simp
    | succ j =>
      simp only [List.getElem?_cons_succ, List.map_cons, List.length_cons, h3]
      by_cases e : j < vs.length
      · rw [if_pos e, if_pos (by omega)]
      · rw [if_neg e, if_neg (by omega)]
theorem setsL_ok (vs : List AV) : ∀ (o : Nat) (l : List Cell), o + vs.length ≤ l.length → ∃ l' : List Cell, (∀ (β : Type) (c : List Cell → β), setsL vs o l c = c l') ∧ l'.length = l.length ∧
    ∀ j : Nat, l'[j]? = if o ≤ j ∧ j < o + vs.length then (vs.map Cell.rw)[j - o]? else l[j]?
  | 0, l, h => by
    obtain ⟨l', h1, h2, h3⟩ := replL_ok vs l (by omega)
    exact ⟨l', fun β c => h1 β c, h2, fun j => by rw [h3]; simp⟩
  | o + 1, [], h => by simp at h
  | o + 1, x :: t, h => by
    obtain ⟨l', h1, h2, h3⟩ := setsL_ok vs o t (by simp at h; omega)
    refine ⟨x :: l', fun β c => h1 β _, by simp [h2], fun j => ?_⟩
    cases j with
    | zero => rw [if_neg (by omega)]; rfl
    | succ j =>
      simp only [List.getElem?_cons_succ, h3]
      by_cases e : o ≤ j ∧ j < o + vs.length
      · rw [if_pos e, if_pos (by omega), show j + 1 - (o + 1) = j - o by omega]
      · rw [if_neg e, if_neg (by omega)]
theorem killL_ok (k : Nat) : ∀ (o : Nat) (l : List Cell), o + k ≤ l.length → ∃ l' : List Cell, (∀ (β : Type) (c : List Cell → β), killL k o l c = c l') ∧ ∀ j : Nat, l'[j]? = if o ≤ j ∧ j < o + k then some .dead else l[j]?
  | 0, l, h => by
    have key : ∀ (k : Nat) (l : List Cell), k ≤ l.length → ∃ l' : List Cell, (∀ (β : Type) (c : List Cell → β), killL k 0 l c = c l') ∧ ∀ j : Nat, l'[j]? = if j < k then some .dead else l[j]? := fun k => by
      induction k with
      | zero => intro l _; exact ⟨l, fun β c => rfl, fun j => by simp⟩
      | succ k ih =>
        intro l h
        cases l with
        | nil => simp at h
        | cons x t =>
          obtain ⟨l', h1, h2⟩ := ih t (by simpa using h)
          refine ⟨.dead :: l', fun β c => h1 β _, fun j => ?_⟩
          cases j with
          | zero => simp
          | succ j =>
            simp only [List.getElem?_cons_succ, h2]
            by_cases e : j < k
            · rw [if_pos e, if_pos (by omega)]
            · rw [if_neg e, if_neg (by omega)]
    obtain ⟨l', h1, h2⟩ := key k l (by omega)
    exact ⟨l', h1, fun j => by rw [h2]; simp⟩
  | o + 1, [], h => by simp at h
  | o + 1, x :: t, h => by
    obtain ⟨l', h1, h3⟩ := killL_ok k o t (by simp at h; omega)
    refine ⟨x :: l', fun β c => h1 β _, fun j => ?_⟩
    cases j with
    | zero => rw [if_neg (by omega)]; rfl
    | succ j =>
      simp only [List.getElem?_cons_succ, h3]
      by_cases e : o ≤ j ∧ j < o + k
      · rw [if_pos e, if_pos (by omega)]
      · rw [if_neg e, if_neg (by omega)]
theorem takeC_ok {β : Type} : ∀ (k : Nat) (l e : List Cell) (c : List Cell → β), takeC k l e c = c (l.take k ++ e)
  | 0, l, e, c => rfl
  | k + 1, [], e, c => rfl
  | k + 1, x :: t, e, c => by
    have := takeC_ok k t e (fun t => c (x :: t))
    rw [List.take_succ_cons, List.cons_append]; exact this

/-- What an event does, done. -/
noncomputable def applyD (d : Dl) (h : GH) (n : Nat) (c : GH → Nat → Bool) : Bool :=
  Dl.casesOn d (c h n)
    (fun m o vs => setsL vs o (trGet [] h m) fun l => trSet [] l h m fun h => c h n)
    (fun cells => fList cells fun l => trSet [] l h n fun h => fNat (Nat.succ n) fun n => c h n)
    (fun n0 off L sz vs => fList (vs.map Cell.rw ++ [.tail sz]) fun e => takeC L (dropL off (trGet [] h n0)) e fun l => killL (Nat.succ L) off (trGet [] h n0) fun l0 => trSet [] l0 h n0 fun h => trSet [] l h n fun h => fNat (Nat.succ n) fun n => c h n)
def Supp (h : GH) (n : Nat) : Prop := ∀ m, n ≤ m → trGet [] h m = []
theorem Supp.none {h : GH} {n : Nat} (hs : Supp h n) {m : Nat} (hm : n ≤ m) (o : Nat) : den h m o = none := by unfold den; rw [hs m hm]; rfl
theorem len_of_den {h : GH} {m o k : Nat} (hk : ∀ j, j < k → ∃ c, den h m (o + j) = some c) (h0 : 0 < k) : o + k ≤ (trGet [] h m).length := by
  obtain ⟨c, hc⟩ := hk (k - 1) (by omega)
  have := (List.getElem?_eq_some_iff.mp hc).1; omega
theorem applyD_ok {d : Dl} {h : GH} {n : Nat} (hs : Supp h n) (hn : d.need (den h)) (hne : ∀ n0 off L sz vs, d = .grow n0 off L sz vs → n0 ≠ n) : ∃ h', (∀ c, applyD d h n c = c h' (d.next n)) ∧ den h' = d.app (den h) n ∧ Supp h' (d.next n) := by
  cases d with
  | id => exact ⟨h, fun c => rfl, rfl, hs⟩
  | sets m o vs =>
    have hl : o + vs.length ≤ (trGet [] h m).length ∨ vs = [] := by
      cases vs with
      | nil => exact .inr rfl
      | cons v vs => exact .inl (len_of_den hn (by simp))
    have hset : ∃ l' : List Cell, (∀ (β : Type) (c : List Cell → β), setsL vs o (trGet [] h m) c = c l') ∧ (∀ j : Nat, l'[j]? = if o ≤ j ∧ j < o + vs.length then (vs.map Cell.rw)[j - o]? else (trGet [] h m)[j]?) ∧ (trGet [] h m = [] → l' = []) := by
      rcases hl with hl | rfl
      · obtain ⟨l', h1, h2, h3⟩ := setsL_ok vs o _ hl
        exact ⟨l', h1, h3, fun e => List.length_eq_zero_iff.mp (by rw [h2, e]; rfl)⟩
      · have key : ∀ (o : Nat) (l : List Cell) (β : Type) (c : List Cell → β), setsL [] o l c = c (l.take o ++ l.drop o) := fun o => by
          induction o with
          | zero => intro l β c; rfl
          | succ o ih => intro l β c; cases l with
            | nil => rfl
            | cons x t => exact ih t β _
        refine ⟨trGet [] h m, fun β c => by rw [key, List.take_append_drop], fun j => by rw [if_neg (fun hx => by have := hx.2; rw [List.length_nil] at this; omega)], fun e => e⟩
    obtain ⟨l', h1, h2, h3⟩ := hset
    obtain ⟨h', g1, g2⟩ := trSet_ok [] l' h m
    refine ⟨h', fun c => by show setsL vs o (trGet [] h m) _ = _; rw [h1, g1]; rfl, ?_, fun j hj => ?_⟩
    · funext a b
      simp only [den, Dl.app, sets_at, g2]
      by_cases e : a = m
      · subst e; rw [if_pos rfl, h2]; simp
      · rw [if_neg e, if_neg (fun hx => e hx.1)]
    · rw [g2]; split
      · rename_i e; subst e; exact h3 (hs j hj)
      · exact hs j hj
  | row cells =>
    obtain ⟨h', g1, g2⟩ := trSet_ok [] cells h n
    refine ⟨h', fun c => by show fList cells _ = _; rw [fList_ok, g1, fNat_ok]; rfl, ?_, fun j hj => ?_⟩
    · funext a b
      simp only [den, Dl.app, Hp.row, g2]
      split <;> rfl
    · simp only [Dl.next] at hj
      rw [g2, if_neg (by omega)]; exact hs j (by omega)
  | grow n0 off L sz vs =>
    have hne := hne n0 off L sz vs rfl
    have hl : off + (L + 1) ≤ (trGet [] h n0).length := len_of_den (fun j hj => hn j (by omega)) (by omega)
    obtain ⟨l0, k1, k2⟩ := killL_ok (L + 1) off _ hl
    obtain ⟨h1, g1, g2⟩ := trSet_ok [] l0 h n0
    obtain ⟨h2, g3, g4⟩ := trSet_ok [] (((trGet [] h n0).drop off).take L ++ (vs.map Cell.rw ++ [.tail sz])) h1 n
    refine ⟨h2, fun c => ?_, ?_, fun j hj => ?_⟩
    · show fList (vs.map Cell.rw ++ [.tail sz]) _ = _
      rw [fList_ok, takeC_ok, dropL_ok, k1, g1, g3, fNat_ok]; rfl
    · funext a b
      simp only [den, Dl.app, Hp.grown, g4]
      by_cases e : a = n
      · subst e; rw [if_pos rfl, if_pos rfl]
        have hlt : (((trGet [] h n0).drop off).take L).length = L := by simp; omega
        by_cases e1 : b < L
        · rw [if_pos e1, List.getElem?_append_left (by omega), List.getElem?_take, if_pos e1, List.getElem?_drop]
        · rw [if_neg e1, List.getElem?_append_right (by omega), hlt]
          by_cases e2 : b = L + vs.length
          · rw [if_pos e2]; subst e2; simp
          · rw [if_neg e2]
            by_cases e3 : b - L < vs.length
            · rw [List.getElem?_append_left (by simpa using e3)]
            · rw [List.getElem?_eq_none (by simp; omega), List.getElem?_eq_none (by simp; omega)]
      · rw [if_neg e, if_neg e, g2]
        by_cases e1 : a = n0
        · subst e1; rw [if_pos rfl, k2]
          by_cases e2 : off ≤ b ∧ b < off + (L + 1)
          · rw [if_pos e2, if_pos ⟨rfl, e2.1, by omega⟩]
          · rw [if_neg e2, if_neg (fun hx => e2 ⟨hx.2.1, by omega⟩)]
        · rw [if_neg e1, if_neg (fun hx => e1 hx.1)]
    · simp only [Dl.next] at hj
      rw [g4, if_neg (by omega), g2]
      split
      · rename_i e; subst e
        have := hs j (by omega); rw [this] at hl; simp at hl
      · exact hs j (by omega)

abbrev KV := AV → GH → Nat → Bool
abbrev CF := FuncId → List AV → GH → Nat → KV → Bool
noncomputable def genE (ev : Ev) (h : GH) (n : Nat) (k : KV) : Bool :=
  Option.rec false (fun x => fVal x.1 fun v => applyD x.2 h n fun h n => k v h n) (Ev.step (hiG h) n ev)
noncomputable def stepE (ev : Ev) (h : GH) (n : Nat) (cf : CF) (k : KV) : Bool :=
  Ev.casesOn ev (fun v => fVal v fun v => k v h n) (fun a b c d => genE (.load a b c d) h n k) (fun a b c => genE (.store a b c) h n k) (fun a => genE (.newP a) h n k) (fun a b => genE (.newS a b) h n k)
    (fun a b c d => genE (.app a b c d) h n k) (fun a b c => genE (.bytes a b c) h n k) (fun f args => fAVs args fun args => cf f args h n k) false
noncomputable def putK {β : Type} (t : Tr AV) (d : Option Tmp) (v : AV) (c : Tr AV → β) : β := Option.rec (c t) (fun d => trSet (.tup []) v t d c) d
noncomputable def opsU (P : Program) (ops : Array Oper) (cf : CF) (l : List Oper) : St → (St → Bool) → Bool :=
  List.rec (motive := fun _ => St → (St → Bool) → Bool) (fun s k => k s)
    (fun o _ ih s k => Option.rec false (fun b => Bool.rec (putK s.t o.dst (.tup []) fun t => ih ⟨t, s.h, s.n⟩ k)
      (stepE (evOp P (evalAV (denT s.t)) o.op) s.h s.n cf fun v h n => putK s.t o.dst v fun t => ih ⟨t, h, n⟩ k) b) (wantG ops (denT s.t) o)) l

/-- What has been done in a drawn region. -/
inductive Lg where
  | ld (i n o k : Nat) | nw (i m : Nat) | ef (i : Nat) (hb ha : GH)
def Lg.idx : Lg → Nat
  | .ld i _ _ _ | .nw i _ | .ef i _ _ => i
mutual
def beqAV : AV → AV → Bool
  | .bool a, .bool b => a == b
  | .int k a, .int k' b => decide (k = k') && decide (a = b)
  | .str a, .str b => eqNs a b
  | .nilPtr, .nilPtr => true
  | .ptr n o, .ptr m p => Nat.beq n m && Nat.beq o p
  | .nilSlice, .nilSlice => true
  | .slice n o l e c, .slice n' o' l' e' c' => Nat.beq n n' && (Nat.beq o o' && (Nat.beq l l' && ((e == e') && Nat.beq c c')))
  | .nilFunc, .nilFunc => true
  | .iface t v, .iface u x => Nat.beq t u && beqAV v x
  | .nilIface, .nilIface => true
  | .agg l, .agg m => beqAVs l m
  | .tup l, .tup m => beqAVs l m
  | .rty a b c, .rty a' b' c' => Nat.beq a a' && (Nat.beq b b' && Nat.beq c c')
  | _, _ => false
def beqAVs : List AV → List AV → Bool
  | [], [] => true
  | x :: xs, y :: ys => beqAV x y && beqAVs xs ys
  | _, _ => false
end
theorem eqNs_eq : ∀ {a b : List Nat}, eqNs a b = true → a = b
  | [], [], _ => rfl
  | [], _ :: _, h => by cases h
  | _ :: _, [], h => by cases h
  | x :: xs, y :: ys, h => by
    simp only [eqNs] at h
    split at h
    · rename_i e; rw [Nat.eq_of_beq_eq_true e, eqNs_eq h]
    · cases h
mutual
theorem beqAV_eq : ∀ (x y : AV), beqAV x y = true → x = y
  | .bool a, y, h => by cases y <;> simp [beqAV] at h; subst h; rfl
  | .int k a, y, h => by cases y <;> simp [beqAV] at h; obtain ⟨rfl, rfl⟩ := h; rfl
  | .str a, y, h => by cases y <;> simp only [beqAV, Bool.false_eq_true] at h; rw [eqNs_eq h]
  | .nilPtr, y, h => by cases y <;> simp [beqAV] at h; rfl
  | .ptr n o, y, h => by
    cases y <;> simp only [beqAV, Bool.false_eq_true, Bool.and_eq_true] at h
    rw [Nat.eq_of_beq_eq_true h.1, Nat.eq_of_beq_eq_true h.2]
  | .nilSlice, y, h => by cases y <;> simp [beqAV] at h; rfl
  | .slice n o l e c, y, h => by
    cases y <;> simp only [beqAV, Bool.false_eq_true, Bool.and_eq_true] at h
    obtain ⟨h1, h2, h3, h4, h5⟩ := h
    rw [Nat.eq_of_beq_eq_true h1, Nat.eq_of_beq_eq_true h2, Nat.eq_of_beq_eq_true h3, eq_of_beq h4, Nat.eq_of_beq_eq_true h5]
  | .func _ _ _, y, h => by cases y <;> simp [beqAV] at h
  | .sy _ _ _ _, y, h => by cases y <;> simp [beqAV] at h
  | .nilFunc, y, h => by cases y <;> simp [beqAV] at h; rfl
  | .iface t v, y, h => by
    cases y <;> simp only [beqAV, Bool.false_eq_true, Bool.and_eq_true] at h
    rw [Nat.eq_of_beq_eq_true h.1, beqAV_eq v _ h.2]
  | .nilIface, y, h => by cases y <;> simp [beqAV] at h; rfl
  | .agg l, y, h => by cases y <;> simp only [beqAV, Bool.false_eq_true] at h; rw [beqAVs_eq l _ h]
  | .tup l, y, h => by cases y <;> simp only [beqAV, Bool.false_eq_true] at h; rw [beqAVs_eq l _ h]
  | .rty a b c, y, h => by
    cases y <;> simp only [beqAV, Bool.false_eq_true, Bool.and_eq_true] at h
    rw [Nat.eq_of_beq_eq_true h.1, Nat.eq_of_beq_eq_true h.2.1, Nat.eq_of_beq_eq_true h.2.2]
theorem beqAVs_eq : ∀ (x y : List AV), beqAVs x y = true → x = y
  | [], [], _ => rfl
  | [], _ :: _, h => by simp [beqAVs] at h
  | _ :: _, [], h => by simp [beqAVs] at h
  | x :: xs, y :: ys, h => by
    simp only [beqAVs, Bool.and_eq_true] at h
    rw [beqAV_eq x y h.1, beqAVs_eq xs ys h.2]
end
def beqC : Cell → Cell → Bool
  | .rw a, .rw b => beqAV a b
  | .ro a, .ro b => beqAV a b
  | .tail a, .tail b => Nat.beq a b
  | .dead, .dead => true
  | _, _ => false
theorem beqC_eq {x y : Cell} (h : beqC x y = true) : x = y := by
  cases x <;> cases y <;> simp only [beqC, Bool.false_eq_true] at h
  · rw [beqAV_eq _ _ h]
  · rw [beqAV_eq _ _ h]
  · rw [Nat.eq_of_beq_eq_true h]
  · rfl
/-- The first k of both are the same. -/
def eqK : Nat → List Cell → List Cell → Bool
  | 0, _, _ => true
  | k + 1, x :: xs, y :: ys => beqC x y && eqK k xs ys
  | _, _, _ => false
theorem eqK_ok : ∀ (k : Nat) (l m : List Cell), eqK k l m = true → ∀ j, j < k → l[j]? = m[j]?
  | 0, l, m, _, j, hj => by omega
  | k + 1, [], m, h, j, hj => by cases m <;> simp [eqK] at h
  | k + 1, x :: xs, [], h, j, hj => by simp [eqK] at h
  | k + 1, x :: xs, y :: ys, h, j, hj => by
    simp only [eqK, Bool.and_eq_true] at h
    cases j with
    | zero => rw [beqC_eq h.1]; rfl
    | succ j => simpa using eqK_ok k xs ys h.2 j (by omega)
noncomputable def eqCells (hb ha : GH) (n o k : Nat) : Bool := eqK k (dropL o (trGet [] hb n)) (dropL o (trGet [] ha n))
theorem eqCells_ok {hb ha : GH} {n o k : Nat} (h : eqCells hb ha n o k = true) (j : Nat) (h1 : o ≤ j) (h2 : j < o + k) : den hb n j = den ha n j := by
  unfold eqCells at h
  rw [dropL_ok, dropL_ok] at h
  have := eqK_ok _ _ _ h (j - o) (by omega)
  rw [List.getElem?_drop, List.getElem?_drop, show o + (j - o) = j by omega] at this
  exact this
noncomputable def chk1 (e x : Lg) : Bool :=
  match e, x with
  | .ld _ n o k, .ef _ hb ha => eqCells hb ha n o k
  | .ld _ n _ _, .nw _ m => !(Nat.beq n m)
  | .ld _ _ _ _, .ld _ _ _ _ => true
  | .nw _ _, _ => true
  | .ef _ hb ha, .ld _ n o k => eqCells hb ha n o k
  | .ef _ _ _, _ => false
noncomputable def chk (mask : Nat) (e : Lg) (lg : List Lg) : Bool := List.rec true (fun x _ ih => Bool.rec false ih (Bool.rec (chk1 e x) true (Nat.testBit mask x.idx))) lg
def Ev.kind : Ev → Nat → Nat → GH → GH → Option Lg
  | .val _, _, _, _, _ => none
  | .load n o k _, i, _, _, _ => some (.ld i n o k)
  | .bytes n o k, i, _, _, _ => some (.ld i n o k)
  | .newP _, i, m, _, _ => some (.nw i m)
  | .newS _ _, i, m, _, _ => some (.nw i m)
  | _, i, _, hb, ha => some (.ef i hb ha)
def maskOf (acc : List Nat) (o : Oper) : Nat := o.after.toList.foldl (fun s e => if Region.binds .any e then s ||| (1 <<< e.on) ||| (acc[e.on]?).getD 0 else s) 0
def masks : List Oper → List Nat → List Nat
  | [], acc => acc
  | o :: l, acc => masks l (acc ++ [maskOf acc o])
noncomputable def opsD (P : Program) (ops : Array Oper) (cf : CF) (l : List Oper) : Nat → List Nat → List Lg → St → (St → Bool) → Bool :=
  List.rec (motive := fun _ => Nat → List Nat → List Lg → St → (St → Bool) → Bool) (fun _ _ _ s k => k s)
    (fun o _ ih i ms lg s k => List.rec false (fun m ms _ => Option.rec false (fun b => Bool.rec (putK s.t o.dst (.tup []) fun t => ih (Nat.succ i) ms lg ⟨t, s.h, s.n⟩ k)
      (stepE (evOp P (evalAV (denT s.t)) o.op) s.h s.n cf fun v h n => Option.rec (putK s.t o.dst v fun t => ih (Nat.succ i) ms lg ⟨t, h, n⟩ k)
        (fun e => Bool.rec false (putK s.t o.dst v fun t => ih (Nat.succ i) ms (e :: lg) ⟨t, h, n⟩ k) (chk m e lg)) ((evOp P (evalAV (denT s.t)) o.op).kind i s.n s.h h)) b) (wantG ops (denT s.t) o)) ms) l

noncomputable def mkT {β : Type} (l : List AV) : Nat → Tr AV → (Tr AV → β) → β := List.rec (motive := fun _ => Nat → Tr AV → (Tr AV → β) → β) (fun _ t c => c t) (fun v _ ih i t c => trSet (.tup []) v t i fun t => ih (Nat.succ i) t c) l
noncomputable def callB (E : Env) (ih : GC → St → (Ex → St → Bool) → Bool) : CF := fun f args h n k =>
  Option.rec false
    (fun fi => Bool.rec false (mkT args 0 .nil fun t => ih (.c fi.body) ⟨t, h, n⟩ fun ex s =>
      Ex.casesOn ex (Option.rec false (fun vs => fVal (oneAV vs) fun v => k v s.h s.n) (resAV E.P (hiG s.h) (denT s.t) fi.res)) (fun _ => false) (Option.rec false (fun vs => fVal (oneAV vs) fun v => k v s.h s.n) (resAV E.P (hiG s.h) (denT s.t) fi.res)))
      (Nat.ble args.length fi.ntmps)) (E.ft f)
noncomputable def callF (E : Env) (ih : GC → St → (Ex → St → Bool) → Bool) : CF := fun f args h n k => Option.rec (callB E ih f args h n k) (fun x => k x.1 x.2.1 x.2.2) (E.orc f args h n)
noncomputable def onB (v : AV) (f : Bool → Bool) : Bool := AV.casesOn v f (fun _ _ => false) (fun _ => false) false (fun _ _ => false) false (fun _ _ _ _ _ => false) (fun _ _ _ => false) false (fun _ _ => false) false (fun _ => false) (fun _ => false) (fun _ _ _ => false) (fun _ _ _ _ => false)
theorem onB_ok {v : AV} {f : Bool → Bool} (h : onB v f = true) : ∃ t, v = .bool t ∧ f t = true := by cases v <;> first | exact ⟨_, rfl, h⟩ | cases h
noncomputable def run (E : Env) (fuel : Nat) : GC → St → (Ex → St → Bool) → Bool :=
  Nat.rec (motive := fun _ => GC → St → (Ex → St → Bool) → Bool) (fun _ _ _ => false) (fun _ ih g s k =>
    GC.casesOn g
      (fun c => Code.casesOn c (k .normal s)
        (fun _ ops draw => Bool.rec (opsU E.P ops (callF E ih) ops.toList s (k .normal)) (opsD E.P ops (callF E ih) ops.toList 0 (masks ops.toList []) [] s (k .normal)) draw)
        (fun a b => ih (.c a) s fun ex s => Ex.casesOn ex (ih (.c b) s k) (fun id => k (.exit id) s) (k .ret s))
        (fun c a b => onB (evalAV (denT s.t) c) fun t => Bool.rec (ih (.c b) s k) (ih (.c a) s k) t)
        (fun id a => ih (.c a) s fun ex s => k (ex.block id) s)
        (fun a => ih (.l a) s k)
        (fun _ _ _ _ => false)
        (fun id => k (.exit id) s)
        (fun _ => false)
        (fun _ => k .normal s)
        (fun _ => false)
        (k .ret s)
        (fun _ => false))
      (fun a => ih (.c a) s fun ex s => Ex.casesOn ex (ih (.l a) s k) (fun id => k (.exit id) s) (k .ret s))) fuel
end Go.Proofs.YtaoanbebgeeicaaGreatDoor.G
