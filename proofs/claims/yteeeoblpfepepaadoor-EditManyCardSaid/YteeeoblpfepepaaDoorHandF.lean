/- Errors that are made: edit's fault; no conditions. -/
import Derived.Test.YteeeoblpfepepaaDoorFlt
import Derived.WalkKit
import Derived.KernelRfl
import Derived.Below
namespace Go.Proofs.YteeeoblpfepepaaDoor.H
open Go.Proofs.YteeeoblpfepepaaDoor.Flt Go.RowKit Go.Proofs.YteeeoblpfepepaaDoorW.PrintWords
def edit_fault.f (a0 : Int) (a1 : Int) : Option (List Flt) := some [⟨⟨#[101, 100, 105, 116]⟩, a0, some a1⟩]
theorem edit_fault.calls (a0 : Int) (a1 : Int) (r : List Flt) (w : World) (h : edit_fault.f a0 a1 = some r) :
    Calls Tryd.prog 32 #[.int .i64 a0, .int .i64 a1] w fun e w' => ∃ v_ : Value, e = .returned (errV v_) ∧ Kd.R fltK 65 w' w.heap.size (fun _ => True) v_ r ∧ Below w.heap.size w w' := by
  obtain rfl := Option.some.inj h
  have hu := Tryd.underlying65
  go_enter Tryd.func32, Tryd.ntmps32
  go_wp2
  go_ret
  exact ⟨.slice (some ⟨w.heap.size, 0, none⟩) 1 1, rfl, errR_new _ _ _, (Below.refl _ _).alloc (Nat.le_refl _) _⟩
end Go.Proofs.YteeeoblpfepepaaDoor.H
