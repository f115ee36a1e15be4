/- Errors that are made: lin's fault; no conditions. -/
import Derived.Test.YtmglfimdhbooeaaFlt
import Derived.WalkKit
import Derived.KernelRfl
import Derived.Below
namespace Go.Proofs.Ytmglfimdhbooeaa.H
open Go.Proofs.Ytmglfimdhbooeaa.Flt Go.RowKit Go.Proofs.YtmglfimdhbooeaaW.PrintWords
def lin_fault.f (a0 : Int) : Option (List Flt) := some [⟨⟨#[102, 111, 114, 109]⟩, 0, some a0⟩]
theorem lin_fault.calls (a0 : Int) (r : List Flt) (w : World) (h : lin_fault.f a0 = some r) :
    Calls Try.prog 53 #[.int .i64 a0] w fun e w' => ∃ v_ : Value, e = .returned (errV v_) ∧ Kd.R fltK 108 w' w.heap.size (fun _ => True) v_ r ∧ Below w.heap.size w w' := by
  obtain rfl := Option.some.inj h
  have hu := Try.underlying108
  go_enter Try.func53, Try.ntmps53
  go_wp2
  go_ret
  exact ⟨.slice (some ⟨w.heap.size, 0, none⟩) 1 1, rfl, errR_new _ _ _, (Below.refl _ _).alloc (Nat.le_refl _) _⟩
end Go.Proofs.Ytmglfimdhbooeaa.H
