/- Regions: in any order that the program's form lets in, the same comes out. -/
import Derived.Test.YtaoanbebgeeicaaGreatDoorG7
namespace Go.Proofs.YtaoanbebgeeicaaGreatDoor.G
open Go Go.RowKit
set_option linter.unusedVariables false
set_option linter.unusedSimpArgs false

def evalAV (T : Nat → AV) : Operand → AV
  | .tmp t => T t
  | .const v => (toAV v).getD .nilPtr
  | .global g => .ptr g 0
  | .func f => .func (.func f) [] []
def okOpd (P : Program) : Operand → Bool
  | .const v => (toAV v).isSome
  | .global g => Nat.blt g P.globals.size
  | _ => true
/-- The slots' values. -/
structure Tie (r : Rho) (N : Nat) (T : Nat → AV) (a : Act) : Prop where
  size : a.tmps.size = N
  val : ∀ t, RV r (T t) (a.tmps.getD t undef)
  defers : a.defers = []
theorem Tie.mono {r s : Rho} {N : Nat} {T : Nat → AV} {a : Act} (h : Tie r N T a) (hs : r.le s) : Tie s N T a := ⟨h.size, fun t => (h.val t).mono hs, h.defers⟩
theorem Tie.eval {P : Program} {r : Rho} {N : Nat} {T : Nat → AV} {a : Act} {H : Hp} {w : World} (h : Tie r N T a) (hr : Rel P r H w) {x : Operand} (hx : okOpd P x = true) : RV r (evalAV T x) (a.eval x) := by
  cases x with
  | tmp t => exact h.val t
  | const v =>
    simp only [okOpd] at hx
    cases hv : toAV v with
    | none => rw [hv] at hx; cases hx
    | some x => simp only [evalAV, hv, Option.getD_some]; exact toAV_ok hv
  | global g =>
    obtain ⟨p, hp, h1, h2⟩ := hr.glob g (Nat.le_of_ble_eq_true hx)
    refine ⟨p, hp, ?_⟩
    simp only [Act.eval, h1, h2, Nat.zero_add]
  | func f => exact ⟨#[], #[], rfl, by simp [RVs], by simp [RVs]⟩
def putT (T : Nat → AV) (d : Option Tmp) (v : AV) : Nat → AV := match d with | some d => fun t => if t = d then v else T t | none => T
theorem Tie.put {r : Rho} {N : Nat} {T : Nat → AV} {a : Act} (h : Tie r N T a) {d : Option Tmp} {v : AV} {v' : Value} (hd : ∀ x, d = some x → x < N) (hv : RV r v v') : Tie r N (putT T d v) (a.put d v') := by
  cases d with
  | none => exact h
  | some d =>
    have hlt := hd d rfl
    refine ⟨by simp [Act.put, h.size], fun t => ?_, h.defers⟩
    simp only [putT, Act.put]
    split
    · rename_i e; subst e
      have : (a.tmps.setIfInBounds t v').getD t Go.undef = v' := by simp [h.size, hlt]
      rw [this]; exact hv
    · rename_i e
      have : (a.tmps.setIfInBounds d v').getD t Go.undef = a.tmps.getD t Go.undef := by
        simp [Array.getElem?_setIfInBounds_ne (Ne.symm e)]
      rw [this]; exact h.val t
def okOper (P : Program) (N : Nat) (o : Oper) : Bool := o.op.operands.toList.all (okOpd P) && (match o.dst with | some d => Nat.blt d N | none => true)
theorem okOper_ok {P : Program} {N : Nat} {o : Oper} (h : okOper P N o = true) : (∀ x ∈ o.op.operands, okOpd P x = true) ∧ ∀ d, o.dst = some d → d < N := by
  simp only [okOper, Bool.and_eq_true, List.all_eq_true] at h
  refine ⟨fun x hx => h.1 x (by simpa using hx), fun d hd => ?_⟩
  have := h.2; rw [hd] at this; exact Nat.le_of_ble_eq_true this
/-- Whether an operation is wanted, by what its guard's slot holds. -/
def wantG (ops : Array Oper) (T : Nat → AV) (o : Oper) : Option Bool :=
  match o.guard with
  | none => some true
  | some (g, b) => (match ops[g]? with
    | some og => (match og.dst with | some d => (match T d with | .bool c => some (c == b) | _ => none) | none => none)
    | none => none)
theorem wantG_ok {r : Rho} {N : Nat} {ops : Array Oper} {T : Nat → AV} {a : Act} {o : Oper} {b : Bool} (h : wantG ops T o = some b) (ht : ∀ g c og d, o.guard = some (g, c) → ops[g]? = some og → og.dst = some d → d < a.tmps.size ∧ RV r (T d) (a.tmps.getD d undef)) :
    Region.wanted o (yielded ops a.tmps) = b := by
  unfold wantG at h
  unfold Region.wanted
  split at h
  · rename_i hg; simp only [hg]; cases h; rfl
  · rename_i g c hg
    simp only [hg]
    split at h
    · rename_i og hog
      split at h
      · rename_i d hd
        obtain ⟨hlt, hv⟩ := ht g c og d hg hog hd
        split at h
        · rename_i x hx
          cases h
          rw [hx, RV] at hv
          have : a.tmps[d]? = some (.bool x) := by rw [Array.getElem?_eq_getElem hlt]; simp [hlt] at hv; rw [hv]
          have hy : yielded ops a.tmps g = some x := by simp only [yielded, hog, Option.bind_some, hd, this]
          rw [hy]; cases x <;> cases c <;> rfl
        · cases h
      · cases h
    · cases h

/-- From a heap to a later one. -/
structure Ext (S : Hp) (n : Nat) (S' : Hp) (n' : Nat) : Prop where
  le : n ≤ n'
  dom : ∀ m j c, S m j = some c → ∃ c', S' m j = some c'
  new : ∀ m j c, S' m j = some c → (∃ c', S m j = some c') ∨ (n ≤ m ∧ m < n')
theorem Ext.refl (S : Hp) (n : Nat) : Ext S n S n := ⟨Nat.le_refl _, fun m j c h => ⟨c, h⟩, fun m j c h => .inl ⟨c, h⟩⟩
theorem Ext.trans {S S1 S2 : Hp} {n n1 n2 : Nat} (h : Ext S n S1 n1) (k : Ext S1 n1 S2 n2) : Ext S n S2 n2 :=
  ⟨Nat.le_trans h.le k.le, fun m j c e => by obtain ⟨c', e'⟩ := h.dom m j c e; exact k.dom m j c' e', fun m j c e => by
    rcases k.new m j c e with ⟨c', e'⟩ | ⟨a, b⟩
    · rcases h.new m j c' e' with h' | ⟨a, b⟩
      · exact .inl h'
      · exact .inr ⟨a, Nat.lt_of_lt_of_le b k.le⟩
    · exact .inr ⟨Nat.le_trans h.le a, b⟩⟩
theorem OpOk.ext {P : Program} {o : Oper} {e : Operand → AV} {F F' : Hp} {n n' : Nat} {v : AV} (h : OpOk P o e F n v F' n') : Ext F n F' n' := ⟨h.le, h.dom, h.new⟩
theorem Hp.sub_over (S H : Hp) : S.sub (S.over H) := fun n o c e => by unfold Hp.over; rw [e]
theorem Hp.over_over {S S1 H : Hp} (hd : ∀ m j c, S m j = some c → ∃ c', S1 m j = some c') : S1.over (S.over H) = S1.over H := by
  funext m j; unfold Hp.over
  cases e : S1 m j with
  | some c => rfl
  | none =>
    cases e2 : S m j with
    | none => rfl
    | some c => obtain ⟨c', h⟩ := hd m j c e2; rw [e] at h; cases h
theorem Fresh.next {r r1 : Rho} {S S1 H : Hp} {w w1 : World} {n n1 n2 : Nat} (h : Fresh r H n n2) (he : Ext S n S1 n1) (hs : S.sub H) (ha : Adv n n1 r H w r1 (S1.over H) w1) : Fresh r1 (S1.over H) n1 n2 := fun m h1 h2 => by
  have hf := h m (Nat.le_trans he.le h1) h2
  refine ⟨by rw [ha.only m (.inr h1)]; exact hf.1, fun o => ?_⟩
  unfold Hp.over
  cases e : S1 m o with
  | none => exact hf.2 o
  | some c =>
    rcases he.new m o c e with ⟨c', e'⟩ | ⟨a, b⟩
    · have := hs _ _ _ e'; rw [hf.2 o] at this; cases this
    · omega
theorem Fresh.le {r : Rho} {H : Hp} {n n1 n2 : Nat} (h : Fresh r H n n2) (hl : n1 ≤ n2) : Fresh r H n n1 := fun m h1 h2 => h m h1 (Nat.lt_of_lt_of_le h2 hl)

/-- Operations one behind the other. -/
inductive RunOps (P : Program) (N : Nat) (ops : Array Oper) : List Nat → (Nat → AV) → Hp → Nat → (Nat → AV) → Hp → Nat → Prop where
  | nil (T S n) : RunOps P N ops [] T S n T S n
  | skip {i l o T S n T' S' n'} : ops[i]? = some o → okOper P N o = true → (∀ g c og d, o.guard = some (g, c) → ops[g]? = some og → og.dst = some d → d < N) → wantG ops T o = some false →
      RunOps P N ops l (putT T o.dst (.tup [])) S n T' S' n' → RunOps P N ops (i :: l) T S n T' S' n'
  | op {i l o T S n v S1 n1 T' S' n'} : ops[i]? = some o → okOper P N o = true → (∀ g c og d, o.guard = some (g, c) → ops[g]? = some og → og.dst = some d → d < N) → wantG ops T o = some true →
      OpOk P o (evalAV T) S n v S1 n1 → RunOps P N ops l (putT T o.dst v) S1 n1 T' S' n' → RunOps P N ops (i :: l) T S n T' S' n'
theorem RunOps.ext {P : Program} {N : Nat} {ops : Array Oper} {l : List Nat} {T T' : Nat → AV} {S S' : Hp} {n n' : Nat} (h : RunOps P N ops l T S n T' S' n') : Ext S n S' n' := by
  induction h with
  | nil T S n => exact .refl S n
  | skip _ _ _ _ _ ih => exact ih
  | op _ _ _ _ ho _ ih => exact ho.ext.trans ih
theorem RunOps.wp {P : Program} {N : Nat} {ops : Array Oper} {l : List Nat} {T T' : Nat → AV} {S S' : Hp} {n n' : Nat} (h : RunOps P N ops l T S n T' S' n') :
    ∀ (H : Hp) (r : Rho) (w : World) (a : Act), S.sub H → Rel P r H w → Fresh r H n n' → Tie r N T a → ∀ (Q : Exit → Act → World → Prop),
      (∀ r' w' a', Tie r' N T' a' → Rel P r' (S'.over H) w' → Adv n n' r H w r' (S'.over H) w' → Q .normal a' w') → wpOps P ops Q l a w := by
  induction h with
  | nil T S n =>
    intro H r w a hs hr hf ht Q hq
    rw [Hp.over_of_sub hs] at hq
    exact hq r w a ht hr (.refl _ _ _ _)
  | skip ho hok hg hw _ ih =>
    intro H r w a hs hr hf ht Q hq
    have hw' := wantG_ok (a := a) (N := N) hw (fun g c og d h1 h2 h3 => ⟨by rw [ht.size]; exact hg g c og d h1 h2 h3, ht.val d⟩)
    simp only [wpOps, ho, hw', Bool.false_eq_true, if_false]
    exact ih H r w _ hs hr hf (ht.put (okOper_ok hok).2 (.undef r)) Q hq
  | op ho hok hg hw hop hrest ih =>
    intro H r w a hs hr hf ht Q hq
    have hw' := wantG_ok (a := a) (N := N) hw (fun g c og d h1 h2 h3 => ⟨by rw [ht.size]; exact hg g c og d h1 h2 h3, ht.val d⟩)
    simp only [wpOps, ho, hw', if_true]
    refine .inl (hop.run H r w a (fun x hx => ht.eval hr ((okOper_ok hok).1 x hx)) hs hr (hf.le hrest.ext.le) _ _ fun r1 w1 v1 hv h1 ha => ?_)
    refine ih _ r1 w1 _ (Hp.sub_over _ _) h1 (hf.next hop.ext hs ha) ((ht.mono ha.le).put (okOper_ok hok).2 hv) Q fun r2 w2 a2 k1 k2 k3 => ?_
    rw [Hp.over_over hrest.ext.dom] at k2 k3
    exact hq r2 w2 a2 k1 k2 (ha.trans k3 hop.le hrest.ext.le)
end Go.Proofs.YtaoanbebgeeicaaGreatDoor.G
