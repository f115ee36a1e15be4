/- What the evaluator says holds. -/
import Derived.Test.YtaoanbebgeeicaaGreatDoorG12
namespace Go.Proofs.YtaoanbebgeeicaaGreatDoor.G
open Go Go.RowKit
set_option linter.unusedVariables false
set_option linter.unusedSimpArgs false

def okGuard (ops : Array Oper) (N : Nat) (o : Oper) : Bool :=
  match o.guard with
  | none => true
  | some (g, _) => (match ops[g]? with | some og => (match og.dst with | some d => Nat.blt d N | none => true) | none => true)
def okEdges (ops : Array Oper) : Bool := ops.toList.zipIdx.all fun x => x.1.after.toList.all fun e => !(Region.binds .any e) || Nat.blt e.on x.2
def okDsts (ops : Array Oper) : Bool := ops.toList.zipIdx.all fun x => ops.toList.zipIdx.all fun y => (!(Nat.blt x.2 y.2)) || (match x.1.dst, y.1.dst with | some a, some b => !(Nat.beq a b) | _, _ => true)
def okLooks (ops : Array Oper) (ms : List Nat) : Bool := ops.toList.zipIdx.all fun x => (match x.1.dst with
  | none => true
  | some d => ops.toList.zipIdx.all fun y => Nat.beq x.2 y.2 || (!((y.1.looksAt ops).any (Nat.beq d)) || (if Nat.blt x.2 y.2 then Nat.testBit ((ms[y.2]?).getD 0) x.2 else Nat.testBit ((ms[x.2]?).getD 0) y.2)))
def okRegion (P : Program) (N : Nat) (ops : Array Oper) (draw : Bool) : Bool :=
  ops.toList.all (fun o => okOper P N o && okGuard ops N o) && (!draw || (okEdges ops && (okDsts ops && okLooks ops (masks ops.toList []))))
def okCode (P : Program) (N : Nat) : Code → Bool
  | .region _ ops draw => okRegion P N ops draw
  | .seq a b => okCode P N a && okCode P N b
  | .cond c a b => okOpd P c && (okCode P N a && okCode P N b)
  | .block _ a => okCode P N a
  | .loop a => okCode P N a
  | _ => true
structure EnvOk (E : Env) : Prop where
  mixed : E.P.follows .mixedOrders = true
  ft : ∀ f fi, E.ft f = some fi → ∃ fn, E.P.funcs[f]? = some fn ∧ fn.body = some fi.body ∧ fn.ntmps = fi.ntmps ∧ fn.results.toList = fi.res ∧ fn.name ≠ "runtime.NumGoroutine" ∧ okCode E.P fi.ntmps fi.body = true
  orc : ∀ f args h n v h' n', E.orc f args h n = some (v, h', n') → Supp h n → callable E.P f ∧ FunOk E.P f args (den h) n v (den h') n' ∧ Supp h' n'

theorem okGuard_ok {ops : Array Oper} {N : Nat} {o : Oper} (h : okGuard ops N o = true) : ∀ g c og d, o.guard = some (g, c) → ops[g]? = some og → og.dst = some d → d < N := fun g c og d h1 h2 h3 => by
  unfold okGuard at h; rw [h1] at h; simp only at h; rw [h2] at h; simp only at h; rw [h3] at h; exact Nat.le_of_ble_eq_true h
theorem okRegion_op {P : Program} {N : Nat} {ops : Array Oper} {draw : Bool} (h : okRegion P N ops draw = true) {i : Nat} {o : Oper} (hi : ops[i]? = some o) : okOper P N o = true ∧ okGuard ops N o = true := by
  unfold okRegion at h
  simp only [Bool.and_eq_true, List.all_eq_true] at h
  have := h.1 o (by rw [← Array.getElem?_toList] at hi; exact List.mem_of_getElem? hi)
  simpa using this
theorem mem_zip {ops : Array Oper} {i : Nat} {o : Oper} (hi : ops[i]? = some o) : (o, i) ∈ ops.toList.zipIdx := by
  rw [List.mem_zipIdx_iff_getElem?]; rw [← Array.getElem?_toList] at hi; simpa using hi

theorem maskOf_ok {ops : Array Oper} {acc : List Nat} {j : Nat} {o : Oper} (ho : ops[j]? = some o) (ha : ∀ (k m : Nat), acc[k]? = some m → ∀ i, Nat.testBit m i = true → Anc ops i k) {i : Nat} (hb : Nat.testBit (maskOf acc o) i = true) : Anc ops i j := by
  unfold maskOf at hb
  have key : ∀ (l : List Edge) (s : Nat), (∀ e ∈ l, e ∈ o.after.toList) → (∀ i, Nat.testBit s i = true → Anc ops i j) → ∀ i, Nat.testBit (l.foldl (fun s e => if Region.binds .any e then s ||| (1 <<< e.on) ||| (acc[e.on]?).getD 0 else s) s) i = true → Anc ops i j := fun l => by
    induction l with
    | nil => intro s _ hs i h; exact hs i h
    | cons e l ih =>
      intro s hl hs
      refine ih _ (fun e he => hl e (by simp [he])) fun i h => ?_
      simp only at h
      split at h
      · rename_i hbind
        rw [Nat.testBit_or, Nat.testBit_or] at h
        simp only [Bool.or_eq_true] at h
        have hedge : Edg ops e.on j := ⟨o, ho, e, hl e (by simp), hbind, rfl⟩
        rcases h with (h | h) | h
        · exact hs i h
        · rw [Nat.one_shiftLeft, Nat.testBit_two_pow] at h
          have : e.on = i := by simpa using h
          subst this; exact .one hedge
        · cases hk : acc[e.on]? with
          | none => rw [hk] at h; simp at h
          | some m => rw [hk] at h; exact .step (ha _ _ hk i (by simpa using h)) hedge
      · exact hs i h
  exact key o.after.toList 0 (fun e he => he) (fun i h => by simp at h) i hb
theorem masks_ok {ops : Array Oper} : ∀ (l : List Oper) (acc : List Nat), (∀ (k : Nat) o, l[k]? = some o → ops[acc.length + k]? = some o) → (∀ (k m : Nat), acc[k]? = some m → ∀ i, Nat.testBit m i = true → Anc ops i k) →
    (masks l acc).length = acc.length + l.length ∧ ∀ (k m : Nat), (masks l acc)[k]? = some m → ∀ i, Nat.testBit m i = true → Anc ops i k
  | [], acc, _, ha => ⟨rfl, ha⟩
  | o :: l, acc, hl, ha => by
    have h0 := hl 0 o rfl
    rw [Nat.add_zero] at h0
    obtain ⟨h1, h2⟩ := masks_ok l (acc ++ [maskOf acc o]) (fun k o hk => by have := hl (k + 1) o (by simpa using hk); rw [List.length_append]; simpa [Nat.add_assoc, Nat.add_comm 1 k] using this) (fun k m hk i hb => by
      rw [List.getElem?_append] at hk
      split at hk
      · exact ha k m hk i hb
      · rename_i hge
        have hk0 : k = acc.length := by
          have := (List.getElem?_eq_some_iff.mp hk).1
          simp at this; omega
        subst hk0
        simp at hk; subst hk
        exact maskOf_ok h0 ha hb)
    exact ⟨by rw [masks, h1]; simp; omega, h2⟩

theorem putK_ok {β : Type} (t : Tr AV) (d : Option Tmp) (v : AV) : ∃ t' : Tr AV, (∀ (β : Type) (c : Tr AV → β), putK t d v c = c t') ∧ denT t' = putT (denT t) d v := by
  cases d with
  | none => exact ⟨t, fun β c => rfl, rfl⟩
  | some d =>
    obtain ⟨t', h1, h2⟩ := trSet_ok (.tup []) v t d
    exact ⟨t', fun β c => h1 β c, funext fun j => h2 j⟩
theorem rec_some {α : Type} {x : Option α} {f : α → Bool} (h : (Option.rec false f x : Bool) = true) : ∃ a, x = some a ∧ f a = true := by
  cases x with
  | none => cases h
  | some a => exact ⟨a, rfl, h⟩
theorem rec_true {b : Bool} {p : Bool} (h : (Bool.rec false p b : Bool) = true) : b = true ∧ p = true := by
  cases b with
  | false => cases h
  | true => exact ⟨rfl, h⟩

def CfOk (P : Program) (cf : CF) : Prop := ∀ f args h n k, Supp h n → cf f args h n k = true → ∃ v h' n', callable P f ∧ FunOk P f args (den h) n v (den h') n' ∧ Supp h' n' ∧ k v h' n' = true
theorem grow_ne {g : HI} {n : Nat} {ev : Ev} {v : AV} {d : Dl} {F : Hp} (hg : g.Ok F) (hs : ∀ o, F n o = none) (he : ev.step g n = some (v, d)) : ∀ n0 off L sz vs, d = .grow n0 off L sz vs → n0 ≠ n := fun n0 off L sz vs hd e => by
  have := step_need hg he
  rw [hd] at this
  obtain ⟨c, hc⟩ := this 0 (Nat.zero_le _)
  rw [e, hs] at hc; cases hc
/-- An event that is no call. -/
theorem genE_ok {ev : Ev} {h : GH} {n : Nat} {k : KV} (hs : Supp h n) (hr : genE ev h n k = true) : ∃ v d h', ev.step (hiG h) n = some (v, d) ∧ den h' = d.app (den h) n ∧ Supp h' (d.next n) ∧ k v h' (d.next n) = true := by
  obtain ⟨⟨v, d⟩, he, hk⟩ := rec_some hr
  rw [fVal_ok] at hk
  obtain ⟨h', h1, h2, h3⟩ := applyD_ok hs (step_need (hiG_ok h) he) (grow_ne (hiG_ok h) (fun o => hs.none (Nat.le_refl _) o) he)
  rw [h1] at hk
  exact ⟨v, d, h', he, h2, h3, hk⟩
theorem stepE_ok {P : Program} {cf : CF} (hcf : CfOk P cf) {o : Oper} {e : Operand → AV} {h : GH} {n : Nat} {k : KV} (hs : Supp h n) (hr : stepE (evOp P e o.op) h n cf k = true) :
    ∃ v h' n', OpOk P o e (den h) n v (den h') n' ∧ Supp h' n' ∧ k v h' n' = true := by
  have gen : ∀ ev, evOp P e o.op = ev → genE ev h n k = true → ∃ v h' n', OpOk P o e (den h) n v (den h') n' ∧ Supp h' n' ∧ k v h' n' = true := fun ev hev hg => by
    obtain ⟨v, d, h', h1, h2, h3, h4⟩ := genE_ok hs hg
    refine ⟨v, h', d.next n, ?_, h3, h4⟩
    rw [h2]
    exact OpOk.of_step (hiG_ok h) (by rw [hev]; exact h1) (fun _ o => hs.none (Nat.le_refl _) o)
  cases hev : evOp P e o.op with
  | val v =>
    rw [hev] at hr
    have hr : fVal v (fun v => k v h n) = true := hr
    rw [fVal_ok] at hr
    exact ⟨v, h, n, OpOk.of_step (g := hiG h) (hiG_ok h) (d := .id) (by rw [hev]; rfl) (fun hx => absurd rfl hx), hs, hr⟩
  | call f args =>
    rw [hev] at hr
    have hr : fAVs args (fun args => cf f args h n k) = true := hr
    rw [fAVs_ok] at hr
    obtain ⟨v, h', n', h1, h2, h3, h4⟩ := hcf f args h n k hs hr
    exact ⟨v, h', n', .of_call hev h1 h2, h3, h4⟩
  | bad => rw [hev] at hr; cases hr
  | load a b c d => rw [hev] at hr; exact gen _ hev hr
  | store a b c => rw [hev] at hr; exact gen _ hev hr
  | newP a => rw [hev] at hr; exact gen _ hev hr
  | newS a b => rw [hev] at hr; exact gen _ hev hr
  | app a b c d => rw [hev] at hr; exact gen _ hev hr
  | bytes a b c => rw [hev] at hr; exact gen _ hev hr
theorem opsU_ok {P : Program} {N : Nat} {cf : CF} (hcf : CfOk P cf) {ops : Array Oper} {draw : Bool} (hok : okRegion P N ops draw = true) : ∀ (l : List Oper) (i : Nat) (s : St) (k : St → Bool), i + l.length = ops.size → (∀ (j : Nat) o, l[j]? = some o → ops[i + j]? = some o) →
    Supp s.h s.n → opsU P ops cf l s k = true → ∃ s', RunOps P N ops (List.range' i l.length) (denT s.t) (den s.h) s.n (denT s'.t) (den s'.h) s'.n ∧ Supp s'.h s'.n ∧ k s' = true
  | [], i, s, k, _, _, hs, h => ⟨s, .nil _ _ _, hs, h⟩
  | o :: l, i, s, k, hlen, hl, hs, h => by
    have ho : ops[i]? = some o := by simpa using hl 0 o rfl
    obtain ⟨k1, k2⟩ := okRegion_op hok ho
    have hl' : ∀ (j : Nat) o, l[j]? = some o → ops[i + 1 + j]? = some o := fun j o hj => by have := hl (j + 1) o (by simpa using hj); rwa [show i + 1 + j = i + (j + 1) by omega]
    obtain ⟨b, hb, h⟩ := rec_some h
    cases b with
    | false =>
      obtain ⟨t', h1, h2⟩ := putK_ok (β := Bool) s.t o.dst (.tup [])
      have h : putK s.t o.dst (.tup []) (fun t => opsU P ops cf l ⟨t, s.h, s.n⟩ k) = true := h
      rw [h1] at h
      obtain ⟨s', r1, r2, r3⟩ := opsU_ok hcf hok l (i + 1) ⟨t', s.h, s.n⟩ k (by simp at hlen; omega) hl' hs h
      refine ⟨s', ?_, r2, r3⟩
      rw [List.length_cons, List.range'_succ]
      rw [h2] at r1
      exact .skip ho k1 (okGuard_ok k2) hb r1
    | true =>
      obtain ⟨v, h', n', q1, q2, q3⟩ := stepE_ok hcf hs h
      obtain ⟨t', h1, h2⟩ := putK_ok (β := Bool) s.t o.dst v
      have h : putK s.t o.dst v (fun t => opsU P ops cf l ⟨t, h', n'⟩ k) = true := q3
      rw [h1] at h
      obtain ⟨s', r1, r2, r3⟩ := opsU_ok hcf hok l (i + 1) ⟨t', h', n'⟩ k (by simp at hlen; omega) hl' q2 h
      refine ⟨s', ?_, r2, r3⟩
      rw [List.length_cons, List.range'_succ]
      rw [h2] at r1
      exact .op ho k1 (okGuard_ok k2) hb q1 r1

/-- An operation's own cells. -/
def Ev.foot (ev : Ev) (S : Hp) : Hp :=
  match ev with
  | .val _ | .newP _ | .newS _ _ => fun _ _ => none
  | .load n o k _ | .bytes n o k => fun m j => if m = n ∧ o ≤ j ∧ j < o + k then S m j else none
  | _ => S
def noHI : HI := ⟨fun _ _ _ => none, fun _ _ _ => false, fun _ _ _ => false⟩
theorem noHI_ok (S : Hp) : noHI.Ok S := ⟨fun _ _ _ _ e => (by cases e), fun _ _ _ e => (by cases e), fun _ _ _ e => (by cases e)⟩
theorem foot_sub (ev : Ev) (S : Hp) : (ev.foot S).sub S := fun n o c e => by
  cases ev <;> simp only [Ev.foot] at e <;> first
    | exact e
    | cases e
    | (split at e <;> first | exact e | cases e)
theorem foot_step {g : HI} {S : Hp} (hg : g.Ok S) {n : Nat} {ev : Ev} {v : AV} {d : Dl} (he : ev.step g n = some (v, d)) : ∃ g' : HI, g'.Ok (ev.foot S) ∧ ev.step g' n = some (v, d) := by
  have rdc : ∀ n0 o0 k0 l, g.rd n0 o0 k0 = some l → ∃ g' : HI, g'.Ok (fun m j => if m = n0 ∧ o0 ≤ j ∧ j < o0 + k0 then S m j else none) ∧ g'.rd n0 o0 k0 = some l := fun n0 o0 k0 l hl => by
    refine ⟨⟨fun a b c => if a = n0 ∧ b = o0 ∧ c = k0 then some l else none, fun _ _ _ => false, fun _ _ _ => false⟩, ⟨fun a b c l' e => ?_, fun _ _ _ e => (by cases e), fun _ _ _ e => (by cases e)⟩, by simp⟩
    simp only at e
    split at e
    · rename_i hx; obtain ⟨rfl, rfl, rfl⟩ := hx; cases e
      obtain ⟨h1, h2⟩ := hg.rd _ _ _ _ hl
      refine ⟨h1, fun j v hj => ?_⟩
      obtain ⟨c', hc, hv⟩ := h2 j v hj
      have := (List.getElem?_eq_some_iff.mp hj).1
      exact ⟨c', by rw [if_pos ⟨rfl, by omega, by omega⟩]; exact hc, hv⟩
    · cases e
  cases ev with
  | val x => exact ⟨noHI, noHI_ok _, he⟩
  | newP x => exact ⟨noHI, noHI_ok _, he⟩
  | newS x y => exact ⟨noHI, noHI_ok _, he⟩
  | load a b c ag =>
    simp only [Ev.step] at he
    split at he
    · rename_i l hl
      obtain ⟨g', h1, h2⟩ := rdc _ _ _ _ hl
      exact ⟨g', h1, by simp only [Ev.step, h2]; exact he⟩
    · cases he
  | bytes a b c =>
    simp only [Ev.step] at he
    split at he
    · rename_i l hl
      obtain ⟨g', h1, h2⟩ := rdc _ _ _ _ hl
      exact ⟨g', h1, by simp only [Ev.step, h2]; exact he⟩
    · cases he
  | store a b c => exact ⟨g, hg, he⟩
  | app a b c e => exact ⟨g, hg, he⟩
  | call f a => exact ⟨g, hg, he⟩
  | bad => exact ⟨g, hg, he⟩
/-- What the log says of an operation's cells. -/
def LgOk (x : Lg) (F F' : Hp) : Prop :=
  match x with
  | .ld _ n o k => F' = F ∧ ∀ m j, F m j ≠ none → m = n ∧ o ≤ j ∧ j < o + k
  | .nw _ m => (∀ a b, F a b = none) ∧ ∀ a b, F' a b ≠ none → a = m
  | .ef _ hb ha => F = den hb ∧ F' = den ha
def Apart (Fe Fe' F F' : Hp) : Prop := ∀ m o, (Fe' m o ≠ Fe m o → F m o = none ∧ F' m o = none) ∧ (F' m o ≠ F m o → Fe m o = none ∧ Fe' m o = none)
theorem chk1_ok {x y : Lg} {Fe Fe' F F' : Hp} {nb : Nat} (hc : chk1 y x = true) (hx : LgOk x Fe Fe') (hy : LgOk y F F') (hbe : ∀ m o, Fe m o ≠ none ∨ Fe' m o ≠ none → m < nb) (hnw : ∀ i m, y = .nw i m → m = nb) : Apart Fe Fe' F F' := by
  intro m o
  cases y with
  | ld i n p k =>
    obtain ⟨rfl, h2⟩ := hy
    refine ⟨fun hne => ?_, fun hne => absurd rfl hne⟩
    have : F' m o = none := by
      refine Classical.byContradiction fun hz => ?_
      obtain ⟨rfl, h3, h4⟩ := h2 m o hz
      cases x with
      | ld _ _ _ _ => exact hne (by rw [hx.1])
      | nw _ a =>
        have h5 := hx.1 m o
        rw [h5] at hne
        have := hx.2 m o hne
        subst this
        simp [chk1] at hc
      | ef _ hb ha => obtain ⟨rfl, rfl⟩ := hx; exact hne (eqCells_ok hc o h3 h4).symm
    exact ⟨this, this⟩
  | nw i a =>
    have ha := hnw i a rfl
    subst ha
    refine ⟨fun hne => ⟨hy.1 m o, ?_⟩, fun hne => ?_⟩
    · refine Classical.byContradiction fun hz => ?_
      have := hy.2 m o hz
      subst this
      have := hbe m o (by
        by_cases e : Fe m o = none
        · right; rw [e] at hne; exact hne
        · exact .inl e)
      omega
    · rw [hy.1 m o] at hne
      have := hy.2 m o hne
      subst this
      refine ⟨Classical.byContradiction fun hz => ?_, Classical.byContradiction fun hz => ?_⟩
      · have := hbe m o (.inl hz); omega
      · have := hbe m o (.inr hz); omega
  | ef i hb ha =>
    cases x with
    | ld j n p k =>
      obtain ⟨rfl, h2⟩ := hx
      obtain ⟨rfl, rfl⟩ := hy
      refine ⟨fun hne => absurd rfl hne, fun hne => ?_⟩
      have : Fe' m o = none := by
        refine Classical.byContradiction fun hz => ?_
        obtain ⟨rfl, h3, h4⟩ := h2 m o hz
        exact hne (eqCells_ok hc o h3 h4).symm
      exact ⟨this, this⟩
    | nw _ _ => simp [chk1] at hc
    | ef _ _ _ => simp [chk1] at hc
theorem chk_ok {mask : Nat} {e : Lg} : ∀ {lg : List Lg}, chk mask e lg = true → ∀ x ∈ lg, Nat.testBit mask x.idx = true ∨ chk1 e x = true
  | [], _, x, hx => by simp at hx
  | y :: l, h, x, hx => by
    obtain ⟨h1, h2⟩ := rec_true h
    rcases List.mem_cons.mp hx with rfl | hx
    · cases hb : Nat.testBit mask x.idx with
      | true => exact .inl rfl
      | false =>
        have h2 : (Bool.rec (chk1 e x) true (Nat.testBit mask x.idx) : Bool) = true := by
          first | exact h1 | exact h2
        rw [hb] at h2; exact .inr h2
    · exact chk_ok (by first | exact h2 | exact h1) x hx
end Go.Proofs.YtaoanbebgeeicaaGreatDoor.G
