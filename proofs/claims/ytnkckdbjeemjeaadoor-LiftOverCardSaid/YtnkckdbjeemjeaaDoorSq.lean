/- Short words for what stands at a later world; no conditions. -/
import Derived.Test.YtnkckdbjeemjeaaDoorFlt
import Derived.Test.YtnkckdbjeemjeaaDoorWMore
import Derived.Test.YtnkckdbjeemjeaaDoorWN
import Derived.KernelRfl
import Derived.WalkKit
import Derived.Test.YtnkckdbjeemjeaaDoorWLast
import Derived.Test.YtnkckdbjeemjeaaDoorWTab
namespace Go.Proofs.YtnkckdbjeemjeaaDoor.H
open Go.Proofs.YtnkckdbjeemjeaaDoor.Flt Go.RowKit Go.Proofs.YtnkckdbjeemjeaaDoorW.PrintWords Go.Proofs.YtnkckdbjeemjeaaDoorW.PrintLast Go.Proofs.YtnkckdbjeemjeaaDoorW.PrintMore
/-- W is w with new blocks and draws behind it. -/
class Up (w W : World) : Prop where
  below : Below w.heap.size w W
instance upRefl (w : World) : Up w w := ⟨Below.refl _ _⟩
instance upAlloc (w W : World) [h : Up w W] (o : Obj) : Up w (W.alloc o) := ⟨below_alloc h.below o⟩
instance upDrew (w W : World) [h : Up w W] : Up w W.drew := ⟨below_drew h.below⟩
instance upDrewN (w W : World) [h : Up w W] (n : Nat) : Up w (W.drewN n) := ⟨pw_below_drewN h.below n⟩
instance upSet (w W : World) [h : Up w W] (a : Addr) (v : Value) : Up (w.setCell a v) (W.setCell a v) :=
  ⟨⟨h.below.os, h.below.tape, h.below.output, by simpa [World.setCell] using h.below.size, fun k hk => by
    simp only [World.setCell, Array.getElem?_modify]
    rw [h.below.block k (by simpa [World.setCell] using hk)]⟩⟩
theorem uR {α : Type} {d : Kd α} {e : Nat} {w W : World} {base : Nat} {ok : Nat → Prop} {v : Value} {xs : List α} (h : Kd.R d e w base ok v xs) [u : Up w W] : Kd.R d e W base ok v xs := Kd.R_below h u.below
theorem uV {α : Type} {d : Kd α} {e : Nat} {w W : World} {base : Nat} {ok : Nat → Prop} {v : Value} {xs : List α} (h : Kd.V d e w base ok v xs) [u : Up w W] : Kd.V d e W base ok v xs := Kd.V_below h u.below
theorem uN {α : Type} {d : Kd α} {e : Nat} {w W : World} {base : Nat} {ok : Nat → Prop} {v : Value} {xs : List α} (h : Kd.N d e w base ok v xs) [u : Up w W] : Kd.N d e W base ok v xs := Kd.N_below h u.below
theorem uB {w W : World} {g : Nat} {o : Obj} (h : w.heap[g]? = some o) [u : Up w W] : W.heap[g]? = some o := blk_below h u.below
theorem uL {w W1 W : World} (h : Below w.heap.size w W1) [u : Up W1 W] : Below w.heap.size w W := h.trans (u.below.mono h.size)
theorem bA {w W : World} (h : Below w.heap.size w W) (o : Obj) : Below w.heap.size w (W.alloc o) := below_alloc h o
theorem bN {w W : World} (h : Below w.heap.size w W) (n : Nat) : Below w.heap.size w (W.drewN n) := pw_below_drewN h n
theorem bD {w W : World} (h : Below w.heap.size w W) : Below w.heap.size w W.drew := below_drew h
theorem bS {w W : World} {g j : Nat} {v : Value} (h : Below w.heap.size w W) (hg : Aside0 (w.heap.size ≤ g)) : Below w.heap.size w (W.setCell ⟨g, j, none⟩ v) := below_set h hg.out
theorem mk0 {p : Prop} (h : p) : Aside0 p := ⟨h⟩
/-- What a comparison of an error with nil comes to, where it is known: said of the comparison, not of the error, so that no frame turns. -/
def ErrCmp (v : Value) (b : Bool) : Prop :=
  (∀ x w, (eqGuard .eql 34 x (.const .nilIface) (errV v) .nilIface).run Tryd.prog w = .ok () w) ∧ (∀ x w, (eqGuard .neq 34 x (.const .nilIface) (errV v) .nilIface).run Tryd.prog w = .ok () w) ∧
  (∀ w, (binOp .eql 34 (errV v) .nilIface).run Tryd.prog w = .ok (.bool b) w) ∧ (∀ w, (binOp .neq 34 (errV v) .nilIface).run Tryd.prog w = .ok (.bool (!b)) w)
theorem cmp_nil (w : World) : (binOp .eql 34 .nilIface .nilIface).run Tryd.prog w = .ok (.bool true) w ∧ (binOp .neq 34 .nilIface .nilIface).run Tryd.prog w = .ok (.bool false) w := ⟨by kernel_rfl, by kernel_rfl⟩
theorem cmp_some (a : Addr) (w : World) : (binOp .eql 34 (.iface 58 (.pointer (some a))) .nilIface).run Tryd.prog w = .ok (.bool false) w ∧ (binOp .neq 34 (.iface 58 (.pointer (some a))) .nilIface).run Tryd.prog w = .ok (.bool true) w := ⟨by kernel_rfl, by kernel_rfl⟩
theorem cmp_no {v : Value} (h : errV v = .nilIface) : ErrCmp v true := by
  unfold ErrCmp
  rw [h]
  exact ⟨fun x _ => by cases x <;> kernel_rfl, fun x _ => by cases x <;> kernel_rfl, fun w => (cmp_nil w).1, fun w => (cmp_nil w).2⟩
theorem cmp_yes {v : Value} {a : Addr} (h : errV v = .iface 58 (.pointer (some a))) : ErrCmp v false := by
  unfold ErrCmp
  rw [h]
  exact ⟨fun x _ => by cases x <;> kernel_rfl, fun x _ => by cases x <;> kernel_rfl, fun w => (cmp_some a w).1, fun w => (cmp_some a w).2⟩
section
variable {e : Nat} {w : World} {base : Nat} {ok : Nat → Prop} {v : Value} {xs : List Flt}
theorem cmpV_no (h : Kd.R fltK e w base ok v xs) (c : ((xs.length : Int) == 0) = true) : (∀ x w, (eqGuard .eql 34 x (.const .nilIface) (errV v) .nilIface).run Tryd.prog w = .ok () w) ∧ (∀ x w, (eqGuard .neq 34 x (.const .nilIface) (errV v) .nilIface).run Tryd.prog w = .ok () w) ∧
    (∀ w, (binOp .eql 34 (errV v) .nilIface).run Tryd.prog w = .ok (.bool true) w) ∧ (∀ w, (binOp .neq 34 (errV v) .nilIface).run Tryd.prog w = .ok (.bool false) w) := cmp_no (errV_no h c)
theorem cmpV_yes (h : Kd.R fltK e w base ok v xs) (c : ((xs.length : Int) == 0) = false) : (∀ x w, (eqGuard .eql 34 x (.const .nilIface) (errV v) .nilIface).run Tryd.prog w = .ok () w) ∧ (∀ x w, (eqGuard .neq 34 x (.const .nilIface) (errV v) .nilIface).run Tryd.prog w = .ok () w) ∧
    (∀ w, (binOp .eql 34 (errV v) .nilIface).run Tryd.prog w = .ok (.bool false) w) ∧ (∀ w, (binOp .neq 34 (errV v) .nilIface).run Tryd.prog w = .ok (.bool true) w) := cmp_yes (errV_yes h c)
end
end Go.Proofs.YtnkckdbjeemjeaaDoor.H
namespace Go.Proofs.YtnkckdbjeemjeaaDoor.H
open Go.Proofs.YtnkckdbjeemjeaaDoor.Flt Go.RowKit Go.Proofs.YtnkckdbjeemjeaaDoorW.PrintWords Go.Proofs.YtnkckdbjeemjeaaDoorW.PrintLast Go.Proofs.YtnkckdbjeemjeaaDoorW.PrintMore
set_option linter.unusedVariables false
/-- The world now, by what is held of it. -/
theorem bH {p : Prop} (h : p := by repeat (first | (with_reducible first | exact HB.out | apply bA | apply bN | apply bD | refine bS ?_ (by assumption)) | exact HB.out)) : p := h
theorem rE {p : Prop} (h : p := by first | rfl | (simp [errW_none, errW_some] <;> rfl) | (simp [*, errW_none, errW_some] <;> rfl)) : p := h
theorem nK {p : Prop} (h : p := by first | exact Kd.R_nil _ _ _ _ _ | exact Kd.N_nil _ _ _ _ _ | exact Kd.V_nil _ _ _ _ _ | exact Kd.Q_nil _ _ _ _ _ | exact Kd.S_nil _ _ _ _ _) : p := h
section
variable {α : Type} {d : Kd α} {e : Nat} {w W W' : World} {base : Nat} {ok : Nat → Prop} {v : Value} {xs : List α} {g : Nat} {o : Obj}
theorem rB (h : Aside0 (Kd.R d e w base ok v xs)) (hb : Below W.heap.size W W') [u : Up w W] : Aside0 (Kd.R d e W' base ok v xs) := mk0 (Kd.R_below (uR h.out) hb)
theorem vB (h : Aside0 (Kd.V d e w base ok v xs)) (hb : Below W.heap.size W W') [u : Up w W] : Aside0 (Kd.V d e W' base ok v xs) := mk0 (Kd.V_below (uV h.out) hb)
theorem nB (h : Aside0 (Kd.N d e w base ok v xs)) (hb : Below W.heap.size W W') [u : Up w W] : Aside0 (Kd.N d e W' base ok v xs) := mk0 (Kd.N_below (uN h.out) hb)
theorem bB (h : Aside0 (w.heap[g]? = some o)) (hb : Below W.heap.size W W') [u : Up w W] : Aside0 (W'.heap[g]? = some o) := mk0 (blk_below (uB h.out) hb)
theorem uC {A : Option Addr} {n : Nat} (h : Kd.C d w A n xs) [u : Up w W] : Kd.C d W A n xs := Kd.C_below h u.below
theorem hbB {w0 : World} (h : Below w0.heap.size w0 W) (hb : Below W.heap.size W W') : Aside0 (Below w0.heap.size w0 W') := mk0 (below_step h hb)
theorem nL {g' : Nat} (h : Aside0 (w.heap[g]? = some o)) (hg : g' = W.heap.size) [u : Up w W] : Aside0 (g ≠ g') := mk0 (by rw [hg]; exact Nat.ne_of_lt (blk_lt (uB h.out)))
theorem nG {g' : Nat} (h : Aside0 (w.heap[g]? = some o)) (hg : g' = W.heap.size) [u : Up w W] : Aside0 (g' ≠ g) := mk0 (by rw [hg]; exact Nat.ne_of_gt (blk_lt (uB h.out)))
theorem gE {w0 : World} {g' : Nat} (h : Below w0.heap.size w0 W) (hg : g' = W.heap.size) : Aside0 (w0.heap.size ≤ g') := mk0 (by rw [hg]; exact below_size h)
end
section
variable {w : World} {g t : Nat} {a b c d e f a1 b1 : Value}
theorem cL1 (h : Aside0 (w.heap[g]? = some (.cells #[a] t (0, 0)))) : w.cell? ⟨g, 0, none⟩ = some a ∧ w.frozen? ⟨g, 0, none⟩ = false := ⟨blk_cell h.out 0, blk_frozen h.out 0⟩
theorem cL2 (h : Aside0 (w.heap[g]? = some (.cells #[a, b] t (0, 0)))) : w.cell? ⟨g, 0, none⟩ = some a ∧ w.cell? ⟨g, 1, none⟩ = some b ∧ w.frozen? ⟨g, 0, none⟩ = false ∧ w.frozen? ⟨g, 1, none⟩ = false := ⟨blk_cell h.out 0, blk_cell h.out 1, blk_frozen h.out 0, blk_frozen h.out 1⟩
theorem cL3 (h : Aside0 (w.heap[g]? = some (.cells #[a, b, c] t (0, 0)))) : w.cell? ⟨g, 0, none⟩ = some a ∧ w.cell? ⟨g, 1, none⟩ = some b ∧ w.cell? ⟨g, 2, none⟩ = some c ∧ w.frozen? ⟨g, 0, none⟩ = false ∧ w.frozen? ⟨g, 1, none⟩ = false ∧ w.frozen? ⟨g, 2, none⟩ = false := ⟨blk_cell h.out 0, blk_cell h.out 1, blk_cell h.out 2, blk_frozen h.out 0, blk_frozen h.out 1, blk_frozen h.out 2⟩
theorem cL4 (h : Aside0 (w.heap[g]? = some (.cells #[a, b, c, d] t (0, 0)))) : w.cell? ⟨g, 0, none⟩ = some a ∧ w.cell? ⟨g, 1, none⟩ = some b ∧ w.cell? ⟨g, 2, none⟩ = some c ∧ w.cell? ⟨g, 3, none⟩ = some d ∧ w.frozen? ⟨g, 0, none⟩ = false ∧ w.frozen? ⟨g, 1, none⟩ = false ∧ w.frozen? ⟨g, 2, none⟩ = false ∧ w.frozen? ⟨g, 3, none⟩ = false := ⟨blk_cell h.out 0, blk_cell h.out 1, blk_cell h.out 2, blk_cell h.out 3, blk_frozen h.out 0, blk_frozen h.out 1, blk_frozen h.out 2, blk_frozen h.out 3⟩
end
section
variable {P : Program} {ops : Array Oper} {Q : Exit → Act → World → Prop} {md : Region.Mode} {S : World → Prop} {ds : List Nat} {T : Bool × List (List Nat × List Nat)} {B : List Nat}
/-- What has come up: a number's bits. -/
def bts (n m : Nat) : Array Bool := ((List.range n).map fun i => m.testBit i).toArray
theorem pA (i : Nat) (N : Option Tmp) (m n m' : Nat) {oi : Oper} {v : Value} {fuel : Nat} {a : Act} {w : World} {a' : Act} (HT : Aside0 (rtab md ops = T))
    (h : wpAnyLast P md ops Q S ds fuel (bts n m') a' w)
    (hi : ops[i]? = some oi := by exact rfl) (hN : oi.dst = N := by exact rfl) (hc : anyT T (bts n m).toList (bts n m').toList i = true := by kernel_rfl)
    (hQ : ∀ c a w, Q (.panic c) (a.put oi.dst v) w → Q (.panic c) a w := by exact fun _ _ _ h => h)
    (hy : Yields P ops oi v a := by (refine Or.inl ⟨by rfl, ?_⟩; intro w'; go_simp; with_reducible rfl))
    (ha : a.put N v = a' := by (simp only [Act.put, List.setIfInBounds_toArray, List.set_cons_zero, List.set_cons_succ, i64_w, i32_w]; rfl)) : wpAnyLast P md ops Q S ds (fuel + 1) (bts n m) a w :=
  pure_ _ hi hN (any_of HT.out hc) hQ hy ha h
theorem pU (i : Nat) (N : Option Tmp) (m n m' : Nat) {oi : Oper} {fuel : Nat} {a : Act} {w : World} {a' : Act} (HT : Aside0 (rtab md ops = T))
    (h : wpAnyLast P md ops Q S ds fuel (bts n m') a' w)
    (hi : ops[i]? = some oi := by exact rfl) (hN : oi.dst = N := by exact rfl) (hc : anyT T (bts n m).toList (bts n m').toList i = true := by kernel_rfl)
    (hQ : ∀ c a w, Q (.panic c) (a.put oi.dst undef) w → Q (.panic c) a w := by exact fun _ _ _ h => h)
    (hy : Yields P ops oi undef a := by exact Or.inr ⟨by rfl, rfl⟩)
    (ha : a.put N undef = a' := by (simp only [Act.put, List.setIfInBounds_toArray, List.set_cons_zero, List.set_cons_succ, i64_w, i32_w]; rfl)) : wpAnyLast P md ops Q S ds (fuel + 1) (bts n m) a w :=
  pure_ _ hi hN (any_of HT.out hc) hQ hy ha h
theorem tA1 (i : Nat) (N : Option Tmp) (m n m' : Nat) {oi : Oper} {v : Value} {fuel : Nat} {a : Act} {w : World} {a' : Act} (HT : Aside0 (rtab md ops = T)) (HW : Aside0 (waitsOk T.2 B = true)) (hS : S w)
    (h : wpAnyLast P md ops Q S ds fuel (bts n m') a' w)
    (hi : ops[i]? = some oi := by exact rfl) (hN : oi.dst = N := by exact rfl) (hc : takeW T B ds (bts n m).toList (bts n m').toList i = true := by kernel_rfl)
    (hQ : ∀ c a w, Q (.panic c) (a.put oi.dst v) w → Q (.panic c) a w := by exact fun _ _ _ h => h)
    (hy : YieldsIf P ops S oi v a := by (refine Or.inl ⟨by rfl, ?_⟩; rintro w' s0; go_simp; with_reducible rfl))
    (ha : a.put N v = a' := by (simp only [Act.put, List.setIfInBounds_toArray, List.set_cons_zero, List.set_cons_succ, i64_w, i32_w]; rfl)) : wpAnyLast P md ops Q S ds (fuel + 1) (bts n m) a w :=
  take_ _ hi hN (take_ofW HT.out HW.out hc) hQ hy hS ha h
theorem tA2 (i : Nat) (N : Option Tmp) (m n m' : Nat) {oi : Oper} {v : Value} {fuel : Nat} {a : Act} {w : World} {a' : Act} (HT : Aside0 (rtab md ops = T)) (HW : Aside0 (waitsOk T.2 B = true)) (hS : S w)
    (h : wpAnyLast P md ops Q S ds fuel (bts n m') a' w)
    (hi : ops[i]? = some oi := by exact rfl) (hN : oi.dst = N := by exact rfl) (hc : takeW T B ds (bts n m).toList (bts n m').toList i = true := by kernel_rfl)
    (hQ : ∀ c a w, Q (.panic c) (a.put oi.dst v) w → Q (.panic c) a w := by exact fun _ _ _ h => h)
    (hy : YieldsIf P ops S oi v a := by (refine Or.inl ⟨by rfl, ?_⟩; rintro w' ⟨s0, s1⟩; go_simp; with_reducible rfl))
    (ha : a.put N v = a' := by (simp only [Act.put, List.setIfInBounds_toArray, List.set_cons_zero, List.set_cons_succ, i64_w, i32_w]; rfl)) : wpAnyLast P md ops Q S ds (fuel + 1) (bts n m) a w :=
  take_ _ hi hN (take_ofW HT.out HW.out hc) hQ hy hS ha h
theorem tA3 (i : Nat) (N : Option Tmp) (m n m' : Nat) {oi : Oper} {v : Value} {fuel : Nat} {a : Act} {w : World} {a' : Act} (HT : Aside0 (rtab md ops = T)) (HW : Aside0 (waitsOk T.2 B = true)) (hS : S w)
    (h : wpAnyLast P md ops Q S ds fuel (bts n m') a' w)
    (hi : ops[i]? = some oi := by exact rfl) (hN : oi.dst = N := by exact rfl) (hc : takeW T B ds (bts n m).toList (bts n m').toList i = true := by kernel_rfl)
    (hQ : ∀ c a w, Q (.panic c) (a.put oi.dst v) w → Q (.panic c) a w := by exact fun _ _ _ h => h)
    (hy : YieldsIf P ops S oi v a := by (refine Or.inl ⟨by rfl, ?_⟩; rintro w' ⟨s0, s1, s2⟩; go_simp; with_reducible rfl))
    (ha : a.put N v = a' := by (simp only [Act.put, List.setIfInBounds_toArray, List.set_cons_zero, List.set_cons_succ, i64_w, i32_w]; rfl)) : wpAnyLast P md ops Q S ds (fuel + 1) (bts n m) a w :=
  take_ _ hi hN (take_ofW HT.out HW.out hc) hQ hy hS ha h
theorem tA4 (i : Nat) (N : Option Tmp) (m n m' : Nat) {oi : Oper} {v : Value} {fuel : Nat} {a : Act} {w : World} {a' : Act} (HT : Aside0 (rtab md ops = T)) (HW : Aside0 (waitsOk T.2 B = true)) (hS : S w)
    (h : wpAnyLast P md ops Q S ds fuel (bts n m') a' w)
    (hi : ops[i]? = some oi := by exact rfl) (hN : oi.dst = N := by exact rfl) (hc : takeW T B ds (bts n m).toList (bts n m').toList i = true := by kernel_rfl)
    (hQ : ∀ c a w, Q (.panic c) (a.put oi.dst v) w → Q (.panic c) a w := by exact fun _ _ _ h => h)
    (hy : YieldsIf P ops S oi v a := by (refine Or.inl ⟨by rfl, ?_⟩; rintro w' ⟨s0, s1, s2, s3⟩; go_simp; with_reducible rfl))
    (ha : a.put N v = a' := by (simp only [Act.put, List.setIfInBounds_toArray, List.set_cons_zero, List.set_cons_succ, i64_w, i32_w]; rfl)) : wpAnyLast P md ops Q S ds (fuel + 1) (bts n m) a w :=
  take_ _ hi hN (take_ofW HT.out HW.out hc) hQ hy hS ha h
theorem tA5 (i : Nat) (N : Option Tmp) (m n m' : Nat) {oi : Oper} {v : Value} {fuel : Nat} {a : Act} {w : World} {a' : Act} (HT : Aside0 (rtab md ops = T)) (HW : Aside0 (waitsOk T.2 B = true)) (hS : S w)
    (h : wpAnyLast P md ops Q S ds fuel (bts n m') a' w)
    (hi : ops[i]? = some oi := by exact rfl) (hN : oi.dst = N := by exact rfl) (hc : takeW T B ds (bts n m).toList (bts n m').toList i = true := by kernel_rfl)
    (hQ : ∀ c a w, Q (.panic c) (a.put oi.dst v) w → Q (.panic c) a w := by exact fun _ _ _ h => h)
    (hy : YieldsIf P ops S oi v a := by (refine Or.inl ⟨by rfl, ?_⟩; rintro w' ⟨s0, s1, s2, s3, s4⟩; go_simp; with_reducible rfl))
    (ha : a.put N v = a' := by (simp only [Act.put, List.setIfInBounds_toArray, List.set_cons_zero, List.set_cons_succ, i64_w, i32_w]; rfl)) : wpAnyLast P md ops Q S ds (fuel + 1) (bts n m) a w :=
  take_ _ hi hN (take_ofW HT.out HW.out hc) hQ hy hS ha h
theorem tA6 (i : Nat) (N : Option Tmp) (m n m' : Nat) {oi : Oper} {v : Value} {fuel : Nat} {a : Act} {w : World} {a' : Act} (HT : Aside0 (rtab md ops = T)) (HW : Aside0 (waitsOk T.2 B = true)) (hS : S w)
    (h : wpAnyLast P md ops Q S ds fuel (bts n m') a' w)
    (hi : ops[i]? = some oi := by exact rfl) (hN : oi.dst = N := by exact rfl) (hc : takeW T B ds (bts n m).toList (bts n m').toList i = true := by kernel_rfl)
    (hQ : ∀ c a w, Q (.panic c) (a.put oi.dst v) w → Q (.panic c) a w := by exact fun _ _ _ h => h)
    (hy : YieldsIf P ops S oi v a := by (refine Or.inl ⟨by rfl, ?_⟩; rintro w' ⟨s0, s1, s2, s3, s4, s5⟩; go_simp; with_reducible rfl))
    (ha : a.put N v = a' := by (simp only [Act.put, List.setIfInBounds_toArray, List.set_cons_zero, List.set_cons_succ, i64_w, i32_w]; rfl)) : wpAnyLast P md ops Q S ds (fuel + 1) (bts n m) a w :=
  take_ _ hi hN (take_ofW HT.out HW.out hc) hQ hy hS ha h
theorem tA7 (i : Nat) (N : Option Tmp) (m n m' : Nat) {oi : Oper} {v : Value} {fuel : Nat} {a : Act} {w : World} {a' : Act} (HT : Aside0 (rtab md ops = T)) (HW : Aside0 (waitsOk T.2 B = true)) (hS : S w)
    (h : wpAnyLast P md ops Q S ds fuel (bts n m') a' w)
    (hi : ops[i]? = some oi := by exact rfl) (hN : oi.dst = N := by exact rfl) (hc : takeW T B ds (bts n m).toList (bts n m').toList i = true := by kernel_rfl)
    (hQ : ∀ c a w, Q (.panic c) (a.put oi.dst v) w → Q (.panic c) a w := by exact fun _ _ _ h => h)
    (hy : YieldsIf P ops S oi v a := by (refine Or.inl ⟨by rfl, ?_⟩; rintro w' ⟨s0, s1, s2, s3, s4, s5, s6⟩; go_simp; with_reducible rfl))
    (ha : a.put N v = a' := by (simp only [Act.put, List.setIfInBounds_toArray, List.set_cons_zero, List.set_cons_succ, i64_w, i32_w]; rfl)) : wpAnyLast P md ops Q S ds (fuel + 1) (bts n m) a w :=
  take_ _ hi hN (take_ofW HT.out HW.out hc) hQ hy hS ha h
theorem tA8 (i : Nat) (N : Option Tmp) (m n m' : Nat) {oi : Oper} {v : Value} {fuel : Nat} {a : Act} {w : World} {a' : Act} (HT : Aside0 (rtab md ops = T)) (HW : Aside0 (waitsOk T.2 B = true)) (hS : S w)
    (h : wpAnyLast P md ops Q S ds fuel (bts n m') a' w)
    (hi : ops[i]? = some oi := by exact rfl) (hN : oi.dst = N := by exact rfl) (hc : takeW T B ds (bts n m).toList (bts n m').toList i = true := by kernel_rfl)
    (hQ : ∀ c a w, Q (.panic c) (a.put oi.dst v) w → Q (.panic c) a w := by exact fun _ _ _ h => h)
    (hy : YieldsIf P ops S oi v a := by (refine Or.inl ⟨by rfl, ?_⟩; rintro w' ⟨s0, s1, s2, s3, s4, s5, s6, s7⟩; go_simp; with_reducible rfl))
    (ha : a.put N v = a' := by (simp only [Act.put, List.setIfInBounds_toArray, List.set_cons_zero, List.set_cons_succ, i64_w, i32_w]; rfl)) : wpAnyLast P md ops Q S ds (fuel + 1) (bts n m) a w :=
  take_ _ hi hN (take_ofW HT.out HW.out hc) hQ hy hS ha h
theorem tA9 (i : Nat) (N : Option Tmp) (m n m' : Nat) {oi : Oper} {v : Value} {fuel : Nat} {a : Act} {w : World} {a' : Act} (HT : Aside0 (rtab md ops = T)) (HW : Aside0 (waitsOk T.2 B = true)) (hS : S w)
    (h : wpAnyLast P md ops Q S ds fuel (bts n m') a' w)
    (hi : ops[i]? = some oi := by exact rfl) (hN : oi.dst = N := by exact rfl) (hc : takeW T B ds (bts n m).toList (bts n m').toList i = true := by kernel_rfl)
    (hQ : ∀ c a w, Q (.panic c) (a.put oi.dst v) w → Q (.panic c) a w := by exact fun _ _ _ h => h)
    (hy : YieldsIf P ops S oi v a := by (refine Or.inl ⟨by rfl, ?_⟩; rintro w' ⟨s0, s1, s2, s3, s4, s5, s6, s7, s8⟩; go_simp; with_reducible rfl))
    (ha : a.put N v = a' := by (simp only [Act.put, List.setIfInBounds_toArray, List.set_cons_zero, List.set_cons_succ, i64_w, i32_w]; rfl)) : wpAnyLast P md ops Q S ds (fuel + 1) (bts n m) a w :=
  take_ _ hi hN (take_ofW HT.out HW.out hc) hQ hy hS ha h
end
section
variable {P : Program} {ops : Array Oper} {rest : List Oper} {o : Oper} {a : Act} {Q : Exit → Act → World → Prop}
theorem bxE {W : World} (N : Tmp) (cs : Array Value) (t : TypeId)
    (h : ∀ g, g = W.heap.size → ∀ w1, w1.heap[g]? = some (.cells cs t (0, 0)) → Below W.heap.size W w1 → wpList P ops Q rest (a.put o.dst (.pointer (some ⟨g, 0, none⟩))) w1)
    (hgd : o.guard = none := by rfl) (hd : o.dst = some N := by rfl)
    (hrun : (execOp a.eval o).run P W = .ok (.value (.pointer (some ⟨W.heap.size, 0, none⟩))) (W.alloc (.cells cs t (0, 0))) := by first | (go_simp; done) | (go_simp; rfl)) : wpList P ops Q (o :: rest) a W :=
  box_event hgd hd hrun h
theorem gsM {oi : Oper} {w : World} (N : Option Tmp) {f : FuncId} {fn : Func} (hf : P.funcs[f]? = some fn) (args : Array Value) {as_ : Array Operand} {ts : Array TypeId}
    (h : Calls P f args w fun e w' => ∃ v, e = .returned v ∧ wpList P ops Q rest (a.put N v) w')
    (hd : oi.dst = N := by rfl) (hg : oi.guard = none := by rfl) (hname : (fn.name == "runtime.NumGoroutine") = false := by kernel_rfl) (hb : fn.body.isSome = true := by rfl)
    (hop : oi.op = .call { callee := .value (.func f), args := as_, argTypes := ts } := by rfl) (hargs : as_.map a.eval = args := by ((try simp only [Act.put, List.setIfInBounds_toArray, List.set_cons_zero, List.set_cons_succ]); (try simp only [List.map_toArray, List.map_cons, List.map_nil]); first | done | rfl | (simp only [List.length_drop, List.length_take]; rfl))) : wpList P ops Q (oi :: rest) a w :=
  goesL_ N hd hg hf hname hb args hop hargs h
end
section
variable {α : Type} {d : Kd α} {e : Nat} {w W W' : World} {base : Nat} {ok ok' : Nat → Prop} {v : Value} {xs : List α} {g : Nat} {o : Obj}
theorem gB {row : Option Nat} (h : Aside0 (w.heap[g]? = some o)) (hg : W.grownBy W' row) (hne : some g ≠ row) [u : Up w W] : Aside0 (W'.heap[g]? = some o) := mk0 (blk_grown (uB h.out) hg hne)
theorem fB {k : Nat} (h : Aside0 (w.heap[g]? = some o)) (hk : W.heap.size ≤ k) [u : Up w W] : k ≠ g := Kd.freshB (uB h.out) k hk
theorem vP (h : Aside0 (Kd.V d e w base ok v xs)) (hm : ∀ k, ok k → ok' k := by intro _ hk; simp only [hk, ne_eq, not_false_eq_true, and_self]) : Kd.V d e w base ok' v xs := Kd.V_mono h.out hm
theorem nP (h : Aside0 (Kd.N d e w base ok v xs)) (hm : ∀ k, ok k → ok' k := by intro _ hk; simp only [hk, ne_eq, not_false_eq_true, and_self]) : Kd.N d e w base ok' v xs := Kd.N_mono h.out hm
theorem rP (h : Aside0 (Kd.R d e w base ok v xs)) (hm : ∀ k, ok k → ok' k := by intro _ hk; simp only [hk, ne_eq, not_false_eq_true, and_self]) : Kd.R d e w base ok' v xs := Kd.R_mono h.out hm
theorem vF (p : Addr) (x : Value) (h : Aside0 (Kd.V d e w base ok v xs)) (hn : ∀ k, ok k → k ≠ p.block := by intro _ hk; simp only [hk, ne_eq, not_false_eq_true]) (hm : ∀ k, ok k → ok' k := by intro _ hk; simp only [hk, ne_eq, not_false_eq_true, and_self]) : Kd.V d e (w.setCell p x) base ok' v xs := Kd.V_mono (Kd.V_far h.out hn x) hm
theorem nF (p : Addr) (x : Value) (h : Aside0 (Kd.N d e w base ok v xs)) (hn : ∀ k, ok k → k ≠ p.block := by intro _ hk; simp only [hk, ne_eq, not_false_eq_true]) (hm : ∀ k, ok k → ok' k := by intro _ hk; simp only [hk, ne_eq, not_false_eq_true, and_self]) : Kd.N d e (w.setCell p x) base ok' v xs := Kd.N_mono (Kd.N_far h.out hn x) hm
end
section
variable {P : Program} {ops : Array Oper} {rest : List Oper} {o o2 : Oper} {a : Act} {Q : Exit → Act → World → Prop}
/-- A variable's block: laid, and stored into at once. -/
theorem bxS {W : World} (N : Tmp) (cs : Array Value) (t : TypeId) {zs : Array Value}
    (h : ∀ g, g = W.heap.size → ∀ w1, w1.heap[g]? = some (.cells cs t (0, 0)) → Below W.heap.size W w1 → wpList P ops Q rest (a.put o.dst (.pointer (some ⟨g, 0, none⟩))) w1)
    (hgd : o.guard = none := by rfl) (hd : o.dst = some N := by rfl) (hgd2 : o2.guard = none := by rfl) (hd2 : o2.dst = none := by rfl)
    (hrun : (execOp a.eval o).run P W = .ok (.value (.pointer (some ⟨W.heap.size, 0, none⟩))) (W.alloc (.cells zs t (0, 0))) := by first | (go_simp; done) | (go_simp; rfl))
    (hrun2 : (execOp (a.put o.dst (.pointer (some ⟨W.heap.size, 0, none⟩))).eval o2).run P (W.alloc (.cells zs t (0, 0))) = .ok .skip (W.alloc (.cells cs t (0, 0))) := by ((try simp only [Act.put, List.setIfInBounds_toArray, List.set_cons_zero, List.set_cons_succ]); first | (go_simp; done) | (go_simp; rfl))) : wpList P ops Q (o :: o2 :: rest) a W :=
  Kd.event_run hgd hrun (by
    refine wpList_plain hgd2 fun K hK => ?_
    unfold Oper.wp
    rw [hrun2]
    refine hK _ _ ?_
    rw [hd2]
    exact h _ rfl _ (blk_new W _) (below_alloc (Below.refl _ _) _))
end
section
variable {P : Program} {ops : Array Oper} {Q : Exit → Act → World → Prop} {md : Region.Mode} {S : World → Prop} {ds : List Nat}
theorem nmX {fuel : Nat} {l : Array Bool} {a a' : Act} {w : World} (h : wpAnyLast P md ops Q S ds fuel l a' w) (ha : a = a' := by first | (simp only [putAll, Act.put, List.setIfInBounds_toArray, List.set_cons_zero, List.set_cons_succ]; done) | (simp only [putAll, Act.put, List.setIfInBounds_toArray, List.set_cons_zero, List.set_cons_succ]; rfl) | (simp only [putAll, Act.put, List.setIfInBounds_toArray, List.set_cons_zero, List.set_cons_succ, *]; done)) : wpAnyLast P md ops Q S ds fuel l a w := norm_ ha h
end
section
variable {α : Type} {d : Kd α} {e : Nat} {w W w1 : World} {base : Nat} {ok : Nat → Prop} {u v v1 : Value} {xs : List α}
theorem vA (h : Aside0 (Kd.V d e w base ok u xs)) (hg : W.grownBy w1 v.ownBlock) (hat : v1.ownBlock = v.ownBlock ∨ ∃ b, v1.ownBlock = some b ∧ W.heap.size ≤ b) [i : Up w W] (hn : ∀ k, ok k → some k ≠ v.ownBlock := by intro _ hk; simp only [hk, ne_eq, not_false_eq_true]) : Aside0 (Kd.V d e w1 base (fun k => ok k ∧ some k ≠ v1.ownBlock) u xs) := mk0 (Kd.V_afterv (uV (Kd.V_mono h.out (fun k hk => ⟨hk, hn k hk⟩))) hg hat)
theorem nA (h : Aside0 (Kd.N d e w base ok u xs)) (hg : W.grownBy w1 v.ownBlock) (hat : v1.ownBlock = v.ownBlock ∨ ∃ b, v1.ownBlock = some b ∧ W.heap.size ≤ b) [i : Up w W] (hn : ∀ k, ok k → some k ≠ v.ownBlock := by intro _ hk; simp only [hk, ne_eq, not_false_eq_true]) : Aside0 (Kd.N d e w1 base (fun k => ok k ∧ some k ≠ v1.ownBlock) u xs) := mk0 (Kd.N_afterv (uN (Kd.N_mono h.out (fun k hk => ⟨hk, hn k hk⟩))) hg hat)
end
/-- One layer that leaves all blocks as they are. -/
class Lay (w : outParam World) (W : World) : Prop where
  below : Below w.heap.size w W
instance layA (w : World) (o : Obj) : Lay w (w.alloc o) := ⟨below_alloc (Below.refl _ _) o⟩
instance layN (w : World) (n : Nat) : Lay w (w.drewN n) := ⟨pw_below_drewN (Below.refl _ _) n⟩
instance layD (w : World) : Lay w w.drew := ⟨below_drew (Below.refl _ _)⟩
theorem lay {w W : World} [i : Lay w W] {g : Nat} {o : Obj} (h : w.heap[g]? = some o) : W.heap[g]? = some o := blk_below h i.below
theorem cB {α : Type} {d : Kd α} {w W W' : World} {A : Option Addr} {n : Nat} {xs : List α} (h : Aside0 (Kd.C d w A n xs)) (hb : Below W.heap.size W W') [u : Up w W] : Aside0 (Kd.C d W' A n xs) := mk0 (Kd.C_below (uC h.out) hb)
theorem dY {p : Prop} [i : Decidable p] (h : decide p = true := by first | (with_reducible assumption) | assumption) : p := of_decide_eq_true h
section
variable {α : Type} {d : Kd α} {e : Nat} {w W : World} {b k g : Nat} {ok : Nat → Prop} {v : Value} {xs : List α} {o : Obj}
theorem e1N (h : k < b ∨ W.heap.size ≤ k) (H : Aside0 (Kd.N d e w b ok v xs)) [i : Up w W] : some k ≠ v.ownBlock := h.elim (fun hs e => Nat.not_le.2 hs (Kd.N_base H.out k e.symm)) (fun hn => Kd.fresh' (Kd.N_lt (uN H.out)) k hn)
theorem e1R (h : k < b ∨ W.heap.size ≤ k) (H : Aside0 (Kd.R d e w b ok v xs)) [i : Up w W] : some k ≠ v.ownBlock := h.elim (fun hs e => Nat.not_le.2 hs (Kd.R_base H.out k e.symm)) (fun hn => Kd.fresh' (Kd.R_lt (uR H.out)) k hn)
theorem e1B (h : k < b ∨ W.heap.size ≤ k) (G : Aside0 (b ≤ g)) (H : Aside0 (w.heap[g]? = some o)) [i : Up w W] : k ≠ g := h.elim (fun hs e => Nat.not_le.2 hs (by rw [e]; exact G.out)) (fun hn => Kd.freshB (uB H.out) k hn)
theorem e2N (h : (k < b ∨ k < b) ∨ W.heap.size ≤ k) (H : Aside0 (Kd.N d e w b ok v xs)) [i : Up w W] : some k ≠ v.ownBlock := e1N (h.imp (fun h => h.elim id id) id) H
theorem e2R (h : (k < b ∨ k < b) ∨ W.heap.size ≤ k) (H : Aside0 (Kd.R d e w b ok v xs)) [i : Up w W] : some k ≠ v.ownBlock := e1R (h.imp (fun h => h.elim id id) id) H
theorem e2B (h : (k < b ∨ k < b) ∨ W.heap.size ≤ k) (G : Aside0 (b ≤ g)) (H : Aside0 (w.heap[g]? = some o)) [i : Up w W] : k ≠ g := e1B (h.imp (fun h => h.elim id id) id) G H
end
theorem AP : (∀ (a : Act) (t : Tmp) (v : Value), a.put (some t) v = { a with tmps := a.tmps.setIfInBounds t v }) ∧ (∀ (a : Act) (v : Value), a.put none v = a) ∧ (∀ {α : Type} (l : List α) (i : Nat) (x : α), l.toArray.setIfInBounds i x = (l.set i x).toArray) ∧ (∀ {α : Type} (x y : α) (l : List α), (x :: l).set 0 y = y :: l) ∧ (∀ {α : Type} (x y : α) (l : List α) (n : Nat), (x :: l).set (n + 1) y = x :: l.set n y) :=
  ⟨fun _ _ _ => rfl, fun _ _ => rfl, fun _ _ _ => List.setIfInBounds_toArray .., fun _ _ _ => rfl, fun _ _ _ _ => rfl⟩
theorem eK {p : Prop} (h : p := by first | rfl | (simp; done) | (simp [*]; done) | (simp [bne_nil_, beq_nil_]; done)) : p := h
theorem nO {α : Type} {p c : Prop} [Decidable c] {a : Option α} {b : α} (H : (if c then a else none) = some b) (h : ¬ c) : p := by rw [if_neg h] at H; exact absurd H (by simp)
theorem nI {α : Type} {p c : Prop} [Decidable c] {a : Option α} {b : α} (H : (if c then none else a) = some b) (h : c) : p := by rw [if_pos h] at H; exact absurd H (by simp)
theorem oB {α β : Type} {o : Option α} {f : α → Option β} {r : β} (H : o.bind f = some r) : ∃ a, Aside0 (o = some a) ∧ f a = some r := by
  obtain ⟨a, h, k⟩ := Option.bind_eq_some_iff.mp H; exact ⟨a, mk0 h, k⟩
theorem oN {α β : Type} {a : α} {f : α → Option β} {r : Option β} (H : (some a).bind f = r) : f a = r := H
theorem iT {α : Type} {a b r : α} (H : (if true = true then a else b) = r) : a = r := by rw [if_pos rfl] at H; exact H
theorem iF {α : Type} {a b r : α} (H : (if false = true then a else b) = r) : b = r := by rw [if_neg (by decide)] at H; exact H
theorem lO_ {p : Prop} (h : p := by repeat' first | (with_reducible exact i0_ ..) | (with_reducible exact i1_ ..) | (with_reducible exact i2_ ..) | (with_reducible exact i3_ ..) | (with_reducible exact i4_ ..) | (with_reducible exact i5_ ..) | (with_reducible exact i6_ ..) | (with_reducible exact i7_ ..) | (with_reducible exact i8_ ..) | (with_reducible exact m0_ ..) | (with_reducible exact m1_ ..) | (with_reducible exact m2_ ..) | (with_reducible exact m3_ ..) | (with_reducible exact m4_ ..) | (with_reducible exact m5_ ..) | (with_reducible exact m6_ ..) | (with_reducible exact m7_ ..) | (with_reducible exact m8_ ..) | (with_reducible exact m9_ ..) | (with_reducible exact m10_ ..) | (with_reducible exact m11_ ..) | (with_reducible exact LeO.refl _) | (with_reducible exact LeO.none _) | (with_reducible refine LeO.ite ?_ ?_) | (with_reducible refine LeO.bind ?_ (fun _ => ?_)) | exact i0_ .. | exact i1_ .. | exact i2_ .. | exact i3_ .. | exact i4_ .. | exact i5_ .. | exact m0_ .. | exact m1_ .. | exact m2_ .. | exact m3_ .. | exact LeO.none _ | refine LeO.ite ?_ ?_ | refine LeO.bind ?_ (fun _ => ?_)) : p := h
section
variable {P : Program} {ops : Array Oper} {Q : Exit → Act → World → Prop} {md : Region.Mode} {S : World → Prop} {ds : List Nat} {T : Bool × List (List Nat × List Nat)} {B : List Nat}
theorem qA (i m' : Nat) {N : Option Tmp} {m n : Nat} {oi : Oper} {v : Value} {fuel : Nat} {a : Act} {w : World} {a' : Act} (h : wpAnyLast P md ops Q S ds fuel (bts n m') a' w) (HT : Aside0 (rtab md ops = T) := by exact HT_)
    (hi : ops[i]? = some oi := by exact rfl) (hN : oi.dst = N := by conv => lhs; whnf) (hc : anyT T (bts n m).toList (bts n m').toList i = true := by kernel_rfl)
    (hQ : ∀ c a w, Q (.panic c) (a.put oi.dst v) w → Q (.panic c) a w := by exact fun _ _ _ h => h)
    (hy : Yields P ops oi v a := by (refine Or.inl ⟨by rfl, ?_⟩; intro w'; go_simp; with_reducible rfl))
    (ha : a.put N v = a' := by (simp only [AP, i64_w, i32_w]; rfl)) : wpAnyLast P md ops Q S ds (fuel + 1) (bts n m) a w :=
  pure_ _ hi hN (any_of HT.out hc) hQ hy ha h
theorem qU (i m' : Nat) {N : Option Tmp} {m n : Nat} {oi : Oper} {fuel : Nat} {a : Act} {w : World} {a' : Act} (h : wpAnyLast P md ops Q S ds fuel (bts n m') a' w) (HT : Aside0 (rtab md ops = T) := by exact HT_)
    (hi : ops[i]? = some oi := by exact rfl) (hN : oi.dst = N := by conv => lhs; whnf) (hc : anyT T (bts n m).toList (bts n m').toList i = true := by kernel_rfl)
    (hQ : ∀ c a w, Q (.panic c) (a.put oi.dst undef) w → Q (.panic c) a w := by exact fun _ _ _ h => h)
    (hy : Yields P ops oi undef a := by exact Or.inr ⟨by rfl, rfl⟩)
    (ha : a.put N undef = a' := by (simp only [AP, i64_w, i32_w]; rfl)) : wpAnyLast P md ops Q S ds (fuel + 1) (bts n m) a w :=
  pure_ _ hi hN (any_of HT.out hc) hQ hy ha h
theorem qT1 (i m' : Nat) {N : Option Tmp} {m n : Nat} {oi : Oper} {v : Value} {fuel : Nat} {a : Act} {w : World} {a' : Act} (h : wpAnyLast P md ops Q S ds fuel (bts n m') a' w) (HT : Aside0 (rtab md ops = T) := by exact HT_) (HW : Aside0 (waitsOk T.2 B = true) := by exact HW_) (hS : S w := by exact hHeld)
    (hi : ops[i]? = some oi := by exact rfl) (hN : oi.dst = N := by conv => lhs; whnf) (hc : takeW T B ds (bts n m).toList (bts n m').toList i = true := by kernel_rfl)
    (hQ : ∀ c a w, Q (.panic c) (a.put oi.dst v) w → Q (.panic c) a w := by exact fun _ _ _ h => h)
    (hy : YieldsIf P ops S oi v a := by (refine Or.inl ⟨by rfl, ?_⟩; rintro w' s0; go_simp; with_reducible rfl))
    (ha : a.put N v = a' := by (simp only [AP, i64_w, i32_w]; rfl)) : wpAnyLast P md ops Q S ds (fuel + 1) (bts n m) a w :=
  take_ _ hi hN (take_ofW HT.out HW.out hc) hQ hy hS ha h
theorem qT2 (i m' : Nat) {N : Option Tmp} {m n : Nat} {oi : Oper} {v : Value} {fuel : Nat} {a : Act} {w : World} {a' : Act} (h : wpAnyLast P md ops Q S ds fuel (bts n m') a' w) (HT : Aside0 (rtab md ops = T) := by exact HT_) (HW : Aside0 (waitsOk T.2 B = true) := by exact HW_) (hS : S w := by exact hHeld)
    (hi : ops[i]? = some oi := by exact rfl) (hN : oi.dst = N := by conv => lhs; whnf) (hc : takeW T B ds (bts n m).toList (bts n m').toList i = true := by kernel_rfl)
    (hQ : ∀ c a w, Q (.panic c) (a.put oi.dst v) w → Q (.panic c) a w := by exact fun _ _ _ h => h)
    (hy : YieldsIf P ops S oi v a := by (refine Or.inl ⟨by rfl, ?_⟩; rintro w' ⟨s0, s1⟩; go_simp; with_reducible rfl))
    (ha : a.put N v = a' := by (simp only [AP, i64_w, i32_w]; rfl)) : wpAnyLast P md ops Q S ds (fuel + 1) (bts n m) a w :=
  take_ _ hi hN (take_ofW HT.out HW.out hc) hQ hy hS ha h
theorem qT3 (i m' : Nat) {N : Option Tmp} {m n : Nat} {oi : Oper} {v : Value} {fuel : Nat} {a : Act} {w : World} {a' : Act} (h : wpAnyLast P md ops Q S ds fuel (bts n m') a' w) (HT : Aside0 (rtab md ops = T) := by exact HT_) (HW : Aside0 (waitsOk T.2 B = true) := by exact HW_) (hS : S w := by exact hHeld)
    (hi : ops[i]? = some oi := by exact rfl) (hN : oi.dst = N := by conv => lhs; whnf) (hc : takeW T B ds (bts n m).toList (bts n m').toList i = true := by kernel_rfl)
    (hQ : ∀ c a w, Q (.panic c) (a.put oi.dst v) w → Q (.panic c) a w := by exact fun _ _ _ h => h)
    (hy : YieldsIf P ops S oi v a := by (refine Or.inl ⟨by rfl, ?_⟩; rintro w' ⟨s0, s1, s2⟩; go_simp; with_reducible rfl))
    (ha : a.put N v = a' := by (simp only [AP, i64_w, i32_w]; rfl)) : wpAnyLast P md ops Q S ds (fuel + 1) (bts n m) a w :=
  take_ _ hi hN (take_ofW HT.out HW.out hc) hQ hy hS ha h
theorem qT4 (i m' : Nat) {N : Option Tmp} {m n : Nat} {oi : Oper} {v : Value} {fuel : Nat} {a : Act} {w : World} {a' : Act} (h : wpAnyLast P md ops Q S ds fuel (bts n m') a' w) (HT : Aside0 (rtab md ops = T) := by exact HT_) (HW : Aside0 (waitsOk T.2 B = true) := by exact HW_) (hS : S w := by exact hHeld)
    (hi : ops[i]? = some oi := by exact rfl) (hN : oi.dst = N := by conv => lhs; whnf) (hc : takeW T B ds (bts n m).toList (bts n m').toList i = true := by kernel_rfl)
    (hQ : ∀ c a w, Q (.panic c) (a.put oi.dst v) w → Q (.panic c) a w := by exact fun _ _ _ h => h)
    (hy : YieldsIf P ops S oi v a := by (refine Or.inl ⟨by rfl, ?_⟩; rintro w' ⟨s0, s1, s2, s3⟩; go_simp; with_reducible rfl))
    (ha : a.put N v = a' := by (simp only [AP, i64_w, i32_w]; rfl)) : wpAnyLast P md ops Q S ds (fuel + 1) (bts n m) a w :=
  take_ _ hi hN (take_ofW HT.out HW.out hc) hQ hy hS ha h
theorem qT5 (i m' : Nat) {N : Option Tmp} {m n : Nat} {oi : Oper} {v : Value} {fuel : Nat} {a : Act} {w : World} {a' : Act} (h : wpAnyLast P md ops Q S ds fuel (bts n m') a' w) (HT : Aside0 (rtab md ops = T) := by exact HT_) (HW : Aside0 (waitsOk T.2 B = true) := by exact HW_) (hS : S w := by exact hHeld)
    (hi : ops[i]? = some oi := by exact rfl) (hN : oi.dst = N := by conv => lhs; whnf) (hc : takeW T B ds (bts n m).toList (bts n m').toList i = true := by kernel_rfl)
    (hQ : ∀ c a w, Q (.panic c) (a.put oi.dst v) w → Q (.panic c) a w := by exact fun _ _ _ h => h)
    (hy : YieldsIf P ops S oi v a := by (refine Or.inl ⟨by rfl, ?_⟩; rintro w' ⟨s0, s1, s2, s3, s4⟩; go_simp; with_reducible rfl))
    (ha : a.put N v = a' := by (simp only [AP, i64_w, i32_w]; rfl)) : wpAnyLast P md ops Q S ds (fuel + 1) (bts n m) a w :=
  take_ _ hi hN (take_ofW HT.out HW.out hc) hQ hy hS ha h
theorem qT6 (i m' : Nat) {N : Option Tmp} {m n : Nat} {oi : Oper} {v : Value} {fuel : Nat} {a : Act} {w : World} {a' : Act} (h : wpAnyLast P md ops Q S ds fuel (bts n m') a' w) (HT : Aside0 (rtab md ops = T) := by exact HT_) (HW : Aside0 (waitsOk T.2 B = true) := by exact HW_) (hS : S w := by exact hHeld)
    (hi : ops[i]? = some oi := by exact rfl) (hN : oi.dst = N := by conv => lhs; whnf) (hc : takeW T B ds (bts n m).toList (bts n m').toList i = true := by kernel_rfl)
    (hQ : ∀ c a w, Q (.panic c) (a.put oi.dst v) w → Q (.panic c) a w := by exact fun _ _ _ h => h)
    (hy : YieldsIf P ops S oi v a := by (refine Or.inl ⟨by rfl, ?_⟩; rintro w' ⟨s0, s1, s2, s3, s4, s5⟩; go_simp; with_reducible rfl))
    (ha : a.put N v = a' := by (simp only [AP, i64_w, i32_w]; rfl)) : wpAnyLast P md ops Q S ds (fuel + 1) (bts n m) a w :=
  take_ _ hi hN (take_ofW HT.out HW.out hc) hQ hy hS ha h
theorem qT7 (i m' : Nat) {N : Option Tmp} {m n : Nat} {oi : Oper} {v : Value} {fuel : Nat} {a : Act} {w : World} {a' : Act} (h : wpAnyLast P md ops Q S ds fuel (bts n m') a' w) (HT : Aside0 (rtab md ops = T) := by exact HT_) (HW : Aside0 (waitsOk T.2 B = true) := by exact HW_) (hS : S w := by exact hHeld)
    (hi : ops[i]? = some oi := by exact rfl) (hN : oi.dst = N := by conv => lhs; whnf) (hc : takeW T B ds (bts n m).toList (bts n m').toList i = true := by kernel_rfl)
    (hQ : ∀ c a w, Q (.panic c) (a.put oi.dst v) w → Q (.panic c) a w := by exact fun _ _ _ h => h)
    (hy : YieldsIf P ops S oi v a := by (refine Or.inl ⟨by rfl, ?_⟩; rintro w' ⟨s0, s1, s2, s3, s4, s5, s6⟩; go_simp; with_reducible rfl))
    (ha : a.put N v = a' := by (simp only [AP, i64_w, i32_w]; rfl)) : wpAnyLast P md ops Q S ds (fuel + 1) (bts n m) a w :=
  take_ _ hi hN (take_ofW HT.out HW.out hc) hQ hy hS ha h
theorem qT8 (i m' : Nat) {N : Option Tmp} {m n : Nat} {oi : Oper} {v : Value} {fuel : Nat} {a : Act} {w : World} {a' : Act} (h : wpAnyLast P md ops Q S ds fuel (bts n m') a' w) (HT : Aside0 (rtab md ops = T) := by exact HT_) (HW : Aside0 (waitsOk T.2 B = true) := by exact HW_) (hS : S w := by exact hHeld)
    (hi : ops[i]? = some oi := by exact rfl) (hN : oi.dst = N := by conv => lhs; whnf) (hc : takeW T B ds (bts n m).toList (bts n m').toList i = true := by kernel_rfl)
    (hQ : ∀ c a w, Q (.panic c) (a.put oi.dst v) w → Q (.panic c) a w := by exact fun _ _ _ h => h)
    (hy : YieldsIf P ops S oi v a := by (refine Or.inl ⟨by rfl, ?_⟩; rintro w' ⟨s0, s1, s2, s3, s4, s5, s6, s7⟩; go_simp; with_reducible rfl))
    (ha : a.put N v = a' := by (simp only [AP, i64_w, i32_w]; rfl)) : wpAnyLast P md ops Q S ds (fuel + 1) (bts n m) a w :=
  take_ _ hi hN (take_ofW HT.out HW.out hc) hQ hy hS ha h
theorem qT9 (i m' : Nat) {N : Option Tmp} {m n : Nat} {oi : Oper} {v : Value} {fuel : Nat} {a : Act} {w : World} {a' : Act} (h : wpAnyLast P md ops Q S ds fuel (bts n m') a' w) (HT : Aside0 (rtab md ops = T) := by exact HT_) (HW : Aside0 (waitsOk T.2 B = true) := by exact HW_) (hS : S w := by exact hHeld)
    (hi : ops[i]? = some oi := by exact rfl) (hN : oi.dst = N := by conv => lhs; whnf) (hc : takeW T B ds (bts n m).toList (bts n m').toList i = true := by kernel_rfl)
    (hQ : ∀ c a w, Q (.panic c) (a.put oi.dst v) w → Q (.panic c) a w := by exact fun _ _ _ h => h)
    (hy : YieldsIf P ops S oi v a := by (refine Or.inl ⟨by rfl, ?_⟩; rintro w' ⟨s0, s1, s2, s3, s4, s5, s6, s7, s8⟩; go_simp; with_reducible rfl))
    (ha : a.put N v = a' := by (simp only [AP, i64_w, i32_w]; rfl)) : wpAnyLast P md ops Q S ds (fuel + 1) (bts n m) a w :=
  take_ _ hi hN (take_ofW HT.out HW.out hc) hQ hy hS ha h
end
section
variable {α β γ : Type} {d : Kd α} {d2 : Kd β} {d3 : Kd γ} {e e2 e3 : Nat} {w W W' : World} {base b0 : Nat} {ok : Nat → Prop} {v v2 v3 : Value} {xs : List α} {ys : List β} {zs : List γ} {ok2 ok3 : Nat → Prop} {g : Nat}
theorem uS (h : Kd.S d e w base ok v xs) [u : Up w W] : Kd.S d e W base ok v xs := Kd.S_below h u.below
theorem nT {w0 : World} (h : Kd.N d e W' b0 ok v xs) (hb : w0.heap.size ≤ b0 := by exact below_size bH) : Aside0 (Kd.N d e W' w0.heap.size (fun _ => True) v xs) := mk0 (Kd.N_lower (Kd.N_mono h (fun _ _ => trivial)) hb)
theorem vD (h : Aside0 (Kd.V d e w base ok v xs)) (a : Nat) (hg : a = W.heap.size) (hb : Below W.heap.size W W') [u : Up w W] : Aside0 (Kd.V d e W' base (fun k => ok k ∧ k ≠ a) v xs) := mk0 (Kd.V_below (Kd.V_elderB (uV h.out) a (Nat.le_of_eq hg.symm)) hb)
theorem nD (h : Aside0 (Kd.N d e w base ok v xs)) (a : Nat) (hg : a = W.heap.size) (hb : Below W.heap.size W W') [u : Up w W] : Aside0 (Kd.N d e W' base (fun k => ok k ∧ k ≠ a) v xs) := mk0 (Kd.N_below (Kd.N_elderB (uN h.out) a (Nat.le_of_eq hg.symm)) hb)
theorem nENN (h : Aside0 (Kd.N d e w base ok v xs)) (hb : Below W.heap.size W W') (h2 : Kd.N d2 e2 W' W.heap.size ok2 v2 ys) (h3 : Kd.N d3 e3 W' W.heap.size ok3 v3 zs) [u : Up w W] : Aside0 (Kd.N d e W' base (fun k => (ok k ∧ some k ≠ v2.ownBlock) ∧ some k ≠ v3.ownBlock) v xs) := mk0 (Kd.N_mono (Kd.N_told (Kd.N_told (Kd.N_old (uN h.out) hb) (Kd.N_base h2)) (Kd.N_base h3)) (fun _ h_ => h_.1))
theorem nERR (h : Aside0 (Kd.N d e w base ok v xs)) (hb : Below W.heap.size W W') (h2 : Kd.R d2 e2 W' W.heap.size ok2 v2 ys) (h3 : Kd.R d3 e3 W' W.heap.size ok3 v3 zs) [u : Up w W] : Aside0 (Kd.N d e W' base (fun k => (ok k ∧ some k ≠ v2.ownBlock) ∧ some k ≠ v3.ownBlock) v xs) := mk0 (Kd.N_mono (Kd.N_told (Kd.N_told (Kd.N_old (uN h.out) hb) (Kd.R_base h2)) (Kd.R_base h3)) (fun _ h_ => h_.1))
theorem oC {w0 : World} {a : Addr} (HB : Aside0 (Below w0.heap.size w0 W)) (h : w0.cell? a = some v) : W.cell? a = some v := (HB.out.cell (World.block_lt_of_cell? w0 _ h)).trans h
theorem cQ {w W : World} {n : Nat} {a : Addr} {v : Option Value} (hq : World.drewN w n = W) (h : w.cell? a = v) : W.cell? a = v := by subst hq; exact h
theorem bfar {w : World} {g : Nat} {p : Addr} {o : Option Obj} (h : w.heap[g]? = o) (hp : g ≠ p.block) (u : Value) : (w.setCell p u).heap[g]? = o := (Below.heap_setCell w p u g hp).trans h
theorem nQ {α : Type} [BEq α] [LawfulBEq α] {a b : α} (h : ¬ a = b) : (a == b) = false ∧ (a != b) = true := ⟨beq_eq_false_iff_ne.mpr h, bne_iff_ne.mpr h⟩
theorem yQ {α : Type} [BEq α] [LawfulBEq α] {a b : α} (h : a = b) : (a == b) = true ∧ (a != b) = false := ⟨beq_iff_eq.mpr h, bne_eq_false_iff_eq.mpr h⟩
theorem aF {a g q : Nat} (h : a ≠ g) (e : a = q := by first | rfl | exact add_block _ _ | exact (add_block _ _).symm | simp only [add_block]) : q ≠ g := e ▸ h
theorem lF {w : World} {a : Addr} {v : Value} {g q : Nat} (h : w.cell? a = some v) (H : Aside0 (w.heap.size ≤ g)) (e : a.block = q := by first | rfl | exact add_block _ _ | exact (add_block _ _).symm | simp only [add_block]) : q ≠ g := e ▸ Nat.ne_of_lt (Nat.lt_of_lt_of_le (World.block_lt_of_cell? _ _ h) H.out)
theorem kB {p : Prop} (h : p := by
  repeat (first | refine lay ?_ | refine bfar ?_ (Aside0.out (by assumption)) _ | apply blk_put)
  exact Aside0.out (by first | (with_reducible assumption) | assumption)
  all_goals rfl) : p := h
end
end Go.Proofs.YtnkckdbjeemjeaaDoor.H
