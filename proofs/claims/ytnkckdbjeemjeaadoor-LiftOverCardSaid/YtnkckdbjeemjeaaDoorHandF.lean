/- Errors that are made: lin's fault, lift's over, lift's fault over nil or a bare Errno; no conditions. -/
import Derived.Test.YtnkckdbjeemjeaaDoorFlt
import Derived.Test.YtnkckdbjeemjeaaDoorXx0
import Derived.WalkKit
import Derived.KernelRfl
import Derived.Below
namespace Go.Proofs.YtnkckdbjeemjeaaDoor.H
open Go.Proofs.YtnkckdbjeemjeaaDoor.Flt Go.Proofs.YtnkckdbjeemjeaaDoor.X Go.RowKit Go.Proofs.YtnkckdbjeemjeaaDoorW.PrintWords
def lin_fault.f (a0 : Int) : Option (List Flt) := some [⟨⟨#[102, 111, 114, 109]⟩, 0, some a0⟩]
theorem lin_fault.calls (a0 : Int) (r : List Flt) (w : World) (h : lin_fault.f a0 = some r) :
    Calls Tryd.prog 49 #[.int .i64 a0] w fun e w' => ∃ v_ : Value, e = .returned (errV v_) ∧ Kd.R fltK 62 w' w.heap.size (fun _ => True) v_ r ∧ Below w.heap.size w w' := by
  obtain rfl := Option.some.inj h
  have hu := Tryd.underlying62
  go_enter Tryd.func49, Tryd.ntmps49
  go_wp2
  go_ret
  exact ⟨.slice (some ⟨w.heap.size, 0, none⟩) 1 1, rfl, errR_new _ _ _, (Below.refl _ _).alloc (Nat.le_refl _) _⟩
def lift_over.f : Option (List Flt) := some [⟨⟨#[102, 111, 114, 109]⟩, 0, some 5⟩]
theorem lift_over.calls (r : List Flt) (w : World) (h : lift_over.f = some r) :
    Calls Tryd.prog 53 #[] w fun e w' => ∃ v_ : Value, e = .returned (errV v_) ∧ Kd.R fltK 62 w' w.heap.size (fun _ => True) v_ r ∧ Below w.heap.size w w' := by
  obtain rfl := Option.some.inj h
  have hu := Tryd.underlying62
  go_enter Tryd.func53, Tryd.ntmps53
  go_wp2
  go_ret
  exact ⟨.slice (some ⟨w.heap.size, 0, none⟩) 1 1, rfl, errR_new _ _ _, (Below.refl _ _).alloc (Nat.le_refl _) _⟩
def lift_fault.f (a0 : Option Int) : Option (List Flt) := some [⟨⟨#[108, 105, 102, 116]⟩, 0, a0⟩]
theorem lift_fault.calls (a0 : Option Int) (r : List Flt) (w : World) (h : lift_fault.f a0 = some r) :
    Calls Tryd.prog 19 #[errW a0] w fun e w' => ∃ v_ : Value, e = .returned (errV v_) ∧ Kd.R fltK 62 w' w.heap.size (fun _ => True) v_ r ∧ Below w.heap.size w w' := by
  obtain rfl := Option.some.inj h
  have hu := Tryd.underlying62
  cases a0 with
  | none =>
    show Calls _ _ #[.nilIface] _ _
    go_enter Tryd.func19, Tryd.ntmps19
    go_wp2
    go_ret
    exact ⟨.slice (some ⟨w.heap.size, 0, none⟩) 1 1, rfl, errR_new _ ⟨_, 0, none⟩ _, (Below.refl _ _).alloc (Nat.le_refl _) _⟩
  | some k =>
    show Calls _ _ #[.iface 57 (.int .i64 k)] _ _
    go_enter Tryd.func19, Tryd.ntmps19
    go_wp2
    go_ret
    exact ⟨.slice (some ⟨w.heap.size, 0, none⟩) 1 1, rfl, errR_new _ ⟨_, 0, some k⟩ _, (Below.refl _ _).alloc (Nat.le_refl _) _⟩
end Go.Proofs.YtnkckdbjeemjeaaDoor.H
