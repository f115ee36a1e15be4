/- slices.ContainsFunc of numbers that sys.large tells; no conditions. -/
import Derived.Test.YtkkpgjkjkcmcbaaDoorXx1
import Derived.Test.YtkkpgjkjkcmcbaaDoorHandI
import Derived.WalkKit
import Derived.ProofKit
namespace Go.Proofs.YtkkpgjkjkcmcbaaDoor.H
open Go.Proofs.YtkkpgjkjkcmcbaaDoor.Flt Go.RowKit Go.Proofs.YtkkpgjkjkcmcbaaDoorW.PrintWords Go.Proofs.YtkkpgjkjkcmcbaaDoorW.PrintLast Go.Proofs.YtkkpgjkjkcmcbaaDoorW.PrintMore
open Go.Proofs.YtkkpgjkjkcmcbaaDoor.X (sys_large.f sys_large.calls)
def largeG : CloA := ⟨sys_large.f⟩
def slices_ContainsFunc_int64_int64.f (k : Nat) (l0 : List Int) : Option Bool := (slices_IndexFunc_int64_int64.f largeG k l0).bind fun i => some (decide (i ≥ 0))
theorem slices_ContainsFunc_int64_int64.mono (l0 : List Int) (k : Nat) : LeO (slices_ContainsFunc_int64_int64.f k l0) (slices_ContainsFunc_int64_int64.f (k + 1) l0) := LeO.bind (slices_IndexFunc_int64_int64.mono largeG l0 k) (fun _ => LeO.refl _)
theorem slices_ContainsFunc_int64_int64.calls (k : Nat) (A0 : Option Addr) (c0 : Nat) (l0 : List Int) (r : Bool) (w : World) (hr0 : Kd.C (Kd.int .i64) w A0 l0.length l0) (hc0 : l0.length ≤ c0) (h : slices_ContainsFunc_int64_int64.f k l0 = some r) :
    Calls Tryd.prog 30 #[.slice A0 l0.length c0, .func (.func 29) #[] #[]] w fun e w' => e = .returned (.bool r) ∧ Below w.heap.size w w' := by
  obtain ⟨i, hi, h⟩ := Option.bind_eq_some_iff.mp h
  have HI := Aside0.mk hi
  have HR := Aside0.mk hr0
  have HC := Aside0.mk hc0
  obtain rfl := Option.some.inj h
  clear hi hr0 hc0 h
  go_enter Tryd.func30, Tryd.ntmps30
  go_wp2_with (go_at_call 54; (refine (slices_IndexFunc_int64_int64.calls largeG k A0 c0 l0 i _ 29 #[] (fun args W => rfl) (fun a0 r0 W _ hg => (sys_large.calls a0 r0 W hg).mono (fun e w' ⟨he, hd⟩ => ⟨he, hd.below⟩)) HR.out HC.out HI.out).mono ?_); rintro e w1 ⟨rfl, hb⟩; have HB := Aside0.mk hb; clear hb)
  go_ret
  exact ⟨rfl, HB.out⟩
end Go.Proofs.YtkkpgjkjkcmcbaaDoor.H
