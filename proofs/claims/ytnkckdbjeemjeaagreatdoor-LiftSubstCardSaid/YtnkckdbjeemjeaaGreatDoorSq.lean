/- Short words for what stands at a later world; no conditions. -/
import Derived.Test.YtnkckdbjeemjeaaGreatDoorFlt
import Derived.Test.YtnkckdbjeemjeaaGreatDoorWMore
import Derived.Test.YtnkckdbjeemjeaaGreatDoorWN
import Derived.KernelRfl
import Derived.WalkKit
namespace Go.Proofs.YtnkckdbjeemjeaaGreatDoor.H
open Go.Proofs.YtnkckdbjeemjeaaGreatDoor.Flt Go.RowKit Go.Proofs.YtnkckdbjeemjeaaGreatDoorW.PrintWords Go.Proofs.YtnkckdbjeemjeaaGreatDoorW.PrintLast Go.Proofs.YtnkckdbjeemjeaaGreatDoorW.PrintMore
/-- W is w with new blocks and draws behind it. -/
class Up (w W : World) : Prop where
  below : Below w.heap.size w W
instance upRefl (w : World) : Up w w := ⟨Below.refl _ _⟩
instance upAlloc (w W : World) [h : Up w W] (o : Obj) : Up w (W.alloc o) := ⟨below_alloc h.below o⟩
instance upDrew (w W : World) [h : Up w W] : Up w W.drew := ⟨below_drew h.below⟩
instance upDrewN (w W : World) [h : Up w W] (n : Nat) : Up w (W.drewN n) := ⟨pw_below_drewN h.below n⟩
instance upSet (w W : World) [h : Up w W] (a : Addr) (v : Value) : Up (w.setCell a v) (W.setCell a v) :=
  ⟨⟨h.below.os, h.below.tape, h.below.output, by simpa [World.setCell] using h.below.size, fun k hk => by
    simp only [World.setCell, Array.getElem?_modify]
    rw [h.below.block k (by simpa [World.setCell] using hk)]⟩⟩
theorem uR {α : Type} {d : Kd α} {e : Nat} {w W : World} {base : Nat} {ok : Nat → Prop} {v : Value} {xs : List α} (h : Kd.R d e w base ok v xs) [u : Up w W] : Kd.R d e W base ok v xs := Kd.R_below h u.below
theorem uV {α : Type} {d : Kd α} {e : Nat} {w W : World} {base : Nat} {ok : Nat → Prop} {v : Value} {xs : List α} (h : Kd.V d e w base ok v xs) [u : Up w W] : Kd.V d e W base ok v xs := Kd.V_below h u.below
theorem uN {α : Type} {d : Kd α} {e : Nat} {w W : World} {base : Nat} {ok : Nat → Prop} {v : Value} {xs : List α} (h : Kd.N d e w base ok v xs) [u : Up w W] : Kd.N d e W base ok v xs := Kd.N_below h u.below
theorem uB {w W : World} {g : Nat} {o : Obj} (h : w.heap[g]? = some o) [u : Up w W] : W.heap[g]? = some o := blk_below h u.below
theorem uL {w W1 W : World} (h : Below w.heap.size w W1) [u : Up W1 W] : Below w.heap.size w W := h.trans (u.below.mono h.size)
theorem bA {w W : World} (h : Below w.heap.size w W) (o : Obj) : Below w.heap.size w (W.alloc o) := below_alloc h o
theorem bN {w W : World} (h : Below w.heap.size w W) (n : Nat) : Below w.heap.size w (W.drewN n) := pw_below_drewN h n
theorem bD {w W : World} (h : Below w.heap.size w W) : Below w.heap.size w W.drew := below_drew h
theorem bS {w W : World} {g j : Nat} {v : Value} (h : Below w.heap.size w W) (hg : Aside0 (w.heap.size ≤ g)) : Below w.heap.size w (W.setCell ⟨g, j, none⟩ v) := below_set h hg.out
theorem mk0 {p : Prop} (h : p) : Aside0 p := ⟨h⟩
/-- What a comparison of an error with nil comes to, where it is known: said of the comparison, not of the error, so that no frame turns. -/
def ErrCmp (v : Value) (b : Bool) : Prop :=
  (∀ x w, (eqGuard .eql 48 x (.const .nilIface) (errV v) .nilIface).run Tryz.prog w = .ok () w) ∧ (∀ x w, (eqGuard .neq 48 x (.const .nilIface) (errV v) .nilIface).run Tryz.prog w = .ok () w) ∧
  (∀ w, (binOp .eql 48 (errV v) .nilIface).run Tryz.prog w = .ok (.bool b) w) ∧ (∀ w, (binOp .neq 48 (errV v) .nilIface).run Tryz.prog w = .ok (.bool (!b)) w)
theorem cmp_nil (w : World) : (binOp .eql 48 .nilIface .nilIface).run Tryz.prog w = .ok (.bool true) w ∧ (binOp .neq 48 .nilIface .nilIface).run Tryz.prog w = .ok (.bool false) w := ⟨by kernel_rfl, by kernel_rfl⟩
theorem cmp_some (a : Addr) (w : World) : (binOp .eql 48 (.iface 84 (.pointer (some a))) .nilIface).run Tryz.prog w = .ok (.bool false) w ∧ (binOp .neq 48 (.iface 84 (.pointer (some a))) .nilIface).run Tryz.prog w = .ok (.bool true) w := ⟨by kernel_rfl, by kernel_rfl⟩
theorem cmp_no {v : Value} (h : errV v = .nilIface) : ErrCmp v true := by
  unfold ErrCmp
  rw [h]
  exact ⟨fun x _ => by cases x <;> kernel_rfl, fun x _ => by cases x <;> kernel_rfl, fun w => (cmp_nil w).1, fun w => (cmp_nil w).2⟩
theorem cmp_yes {v : Value} {a : Addr} (h : errV v = .iface 84 (.pointer (some a))) : ErrCmp v false := by
  unfold ErrCmp
  rw [h]
  exact ⟨fun x _ => by cases x <;> kernel_rfl, fun x _ => by cases x <;> kernel_rfl, fun w => (cmp_some a w).1, fun w => (cmp_some a w).2⟩
section
variable {e : Nat} {w : World} {base : Nat} {ok : Nat → Prop} {v : Value} {xs : List Flt}
theorem cmpV_no (h : Kd.R fltK e w base ok v xs) (c : ((xs.length : Int) == 0) = true) : (∀ x w, (eqGuard .eql 48 x (.const .nilIface) (errV v) .nilIface).run Tryz.prog w = .ok () w) ∧ (∀ x w, (eqGuard .neq 48 x (.const .nilIface) (errV v) .nilIface).run Tryz.prog w = .ok () w) ∧
    (∀ w, (binOp .eql 48 (errV v) .nilIface).run Tryz.prog w = .ok (.bool true) w) ∧ (∀ w, (binOp .neq 48 (errV v) .nilIface).run Tryz.prog w = .ok (.bool false) w) := cmp_no (errV_no h c)
theorem cmpV_yes (h : Kd.R fltK e w base ok v xs) (c : ((xs.length : Int) == 0) = false) : (∀ x w, (eqGuard .eql 48 x (.const .nilIface) (errV v) .nilIface).run Tryz.prog w = .ok () w) ∧ (∀ x w, (eqGuard .neq 48 x (.const .nilIface) (errV v) .nilIface).run Tryz.prog w = .ok () w) ∧
    (∀ w, (binOp .eql 48 (errV v) .nilIface).run Tryz.prog w = .ok (.bool false) w) ∧ (∀ w, (binOp .neq 48 (errV v) .nilIface).run Tryz.prog w = .ok (.bool true) w) := cmp_yes (errV_yes h c)
end
end Go.Proofs.YtnkckdbjeemjeaaGreatDoor.H
