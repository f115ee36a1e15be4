/- Errors that are made: sys' fault; no conditions. -/
import Derived.Test.YtkkpgjkjkcmcbaaDoorFlt
import Derived.WalkKit
import Derived.KernelRfl
import Derived.Below
namespace Go.Proofs.YtkkpgjkjkcmcbaaDoor.H
open Go.Proofs.YtkkpgjkjkcmcbaaDoor.Flt Go.RowKit Go.Proofs.YtkkpgjkjkcmcbaaDoorW.PrintWords
def sys_fault.f (a0 : Int) (a1 : Int) : Option (List Flt) := some [⟨⟨#[115, 121, 115]⟩, a0, some a1⟩]
theorem sys_fault.calls (a0 : Int) (a1 : Int) (r : List Flt) (w : World) (h : sys_fault.f a0 a1 = some r) :
    Calls Tryd.prog 27 #[.int .i64 a0, .int .i64 a1] w fun e w' => ∃ v_ : Value, e = .returned (errV v_) ∧ Kd.R fltK 74 w' w.heap.size (fun _ => True) v_ r ∧ Below w.heap.size w w' := by
  obtain rfl := Option.some.inj h
  have hu := Tryd.underlying74
  go_enter Tryd.func27, Tryd.ntmps27
  go_wp2
  go_ret
  exact ⟨.slice (some ⟨w.heap.size, 0, none⟩) 1 1, rfl, errR_new _ _ _, (Below.refl _ _).alloc (Nat.le_refl _) _⟩
end Go.Proofs.YtkkpgjkjkcmcbaaDoor.H
