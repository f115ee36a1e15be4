/- furrow: the law DropHolds answers true at every input; no conditions. -/
import Derived.Test.YtmglfimdhbooeaaRows
import Derived.Test.YtmglfimdhbooeaaXx28
import Derived.Test.YtmglfimdhbooeaaOp
import Derived.Test.YtmglfimdhbooeaaPureDropHolds
import Derived.WalkKit
import Derived.ProofKit
import Derived.OpenShut
import Derived.ShutString
import Derived.ChangeOld
import Derived.Below
import Derived.SizedLaws
import Derived.Carry
namespace Go.Proofs.Ytmglfimdhbooeaa.dropHolds
open Go.ChangeShapes Go.WideShapes Go.ChangeAt Go.RowKit Go.Proofs.Ytmglfimdhbooeaa.Flt Go.Proofs.Ytmglfimdhbooeaa.H Go.Proofs.Ytmglfimdhbooeaa.X Go.Proofs.YtmglfimdhbooeaaW.PrintWords
open Go.ChangeMaps (open_string shut_string)
set_option linter.unusedVariables false
theorem own : ownKnob Try.prog.godebug = none := by kernel_rfl
theorem laidOut : laidOutB Try.prog = true := by kernel_rfl
set_option maxRecDepth 100000 in
theorem lifted (os : Os) (started : os.Started) (H : Type) (enc : TypeId × Value → H) :
    ReturnsInHanded {} Try.checked os 4 .any (Rows.dropHoldsSpec.pre6 enc Try.prog Try.f4 Rows.dropHoldsRow.domain false) (Rows.dropHoldsSpec.post enc Try.prog Try.f4 false true false false) := by
  refine returnsInHanded_of_change_sized (C := Try.checked) own started (by kernel_rfl) Try.func4
    (ChangeSpec.witness6 (enc := enc) (C := Try.checked) false ⟨#[], #[.agg #[.int .i64 0, .slice none 0 0, .slice none 0 0], .int .u8 0, .slice none 0 0, .int .i8 0], []⟩ 8 (by kernel_rfl) (by kernel_rfl) (by kernel_rfl) (by kernel_rfl)) ?_
  intro W base args ds gs before hval0 hW hcnd hsz0 _
  have hval : ∀ (j : Nat) t v, Try.f4.params[j]? = some t → args[j]? = some v → Value.okWide Try.prog W .any base t v := hval0
  have hsz : (DataW.weightsEach Try.prog (Try.f4.params.toList ++ Rows.dropHoldsSpec.plain.varTypes Try.prog) (ds ++ gs)).all (· ≤ reachBytes) = true := hsz0
  have light : ∀ (j : Nat) {t : TypeId} {d : DataW H}, (Try.f4.params.toList ++ Rows.dropHoldsSpec.plain.varTypes Try.prog)[j]? = some t → (ds ++ gs)[j]? = some d → Light Try.prog t d := fun j t d ht hd n hn => (of_decide_eq_true (List.all_eq_true.1 hsz n (DataW.weights_mem_each ht hd n hn)) : n ≤ reachBytes)
  have hW' := hW
  obtain ⟨p, q, hA0, hV, rfl, hfz, hnd⟩ := hW
  have hA : DataW.TrodAll enc Try.prog W 0 (fun _ => true) true Try.f4.params.toList args.toList ds p := hA0
  rw [Try.params4] at hA hval light
  obtain ⟨v0, vs0, d0, ds0, p0, q0, hargs, rfl, rfl, h0, r0⟩ := trodAll_cons hA
  obtain ⟨v1, vs1, d1, ds1, p1, q1, rfl, rfl, rfl, h1, r1⟩ := trodAll_cons r0
  obtain ⟨v2, vs2, d2, ds2, p2, q2, rfl, rfl, rfl, h2, r2⟩ := trodAll_cons r1
  obtain ⟨v3, vs3, d3, ds3, p3, q3, rfl, rfl, rfl, h3, r3⟩ := trodAll_cons r2
  obtain ⟨rfl, rfl, rfl⟩ := trodAll_nil r3
  obtain rfl : args = #[v0, v1, v2, v3] := by cases args; simp_all
  obtain ⟨rfl, rfl⟩ := trodVars_none hV
  have k0 := h0
  have lt0 : ∀ x ∈ p0, x.block < W.heap.size := by obtain ⟨m, hm⟩ := k0; exact DataW.trod_lt m _ _ _ hm
  obtain ⟨cs0, rfl, hsz0⟩ := okWide_struct Try.underlying24 (hval 0 24 v0 rfl rfl)
  obtain ⟨fuel0, hf0⟩ := h0
  obtain ⟨⟨x0_0, x0_1, x0_2⟩, hK0, hg0⟩ := (opens_struct Try.underlying24 (by kernel_rfl) (opens_next (opens_int Try.underlying3) rfl (by kernel_rfl) (opens_next (opens_slice 32 Try.underlying22 (by kernel_rfl) (by kernel_rfl) (show Opens Try.prog 45 k45 _ from opens_iso (fun p => ⟨p.1, p.2⟩) (fun _ => rfl) (opens_struct Try.underlying45 (by kernel_rfl) (opens_next (opens_slice 8 Try.underlying41 (by kernel_rfl) (by kernel_rfl) (opens_int Try.underlying2)) rfl (by kernel_rfl) (opens_last (opens_int Try.underlying2) rfl (by kernel_rfl) (by kernel_rfl)))))) rfl (by kernel_rfl) (opens_last (opens_slice 32 Try.underlying22 (by kernel_rfl) (by kernel_rfl) (show Opens Try.prog 45 k45 _ from opens_iso (fun p => ⟨p.1, p.2⟩) (fun _ => rfl) (opens_struct Try.underlying45 (by kernel_rfl) (opens_next (opens_slice 8 Try.underlying41 (by kernel_rfl) (by kernel_rfl) (opens_int Try.underlying2)) rfl (by kernel_rfl) (opens_last (opens_int Try.underlying2) rfl (by kernel_rfl) (by kernel_rfl)))))) rfl (by kernel_rfl) (by kernel_rfl))))) enc W _ _ _ _ _ hf0 (light 0 rfl rfl)
  obtain ⟨ca0_0, cb0_0, q0_0, u0_0, m0_0⟩ := hK0
  obtain ⟨ca0_1, cb0_1, q0_1, ⟨A0_1, c0_1, u0_1, hc0_1, hr0_1⟩, m0_1⟩ := m0_0
  obtain ⟨A0_2, c0_2, u0_2, hc0_2, hr0_2⟩ := m0_1
  obtain rfl : cs0 = #[.int .i64 x0_0, .slice A0_1 x0_1.length c0_1, .slice A0_2 x0_2.length c0_2] := by
    apply Array.ext'
    show cs0.toList = _
    have hK0 : cs0.toList = [.int .i64 x0_0, .slice A0_1 x0_1.length c0_1, .slice A0_2 x0_2.length c0_2] := by
      have e0 : (Value.agg cs0).cells.toList = cs0.toList := rfl
      rw [← e0, q0_0, u0_0, q0_1, u0_1, u0_2]
      rfl
    exact hK0
  have k1 := h1
  have lt1 : ∀ x ∈ p1, x.block < W.heap.size := by obtain ⟨m, hm⟩ := k1; exact DataW.trod_lt m _ _ _ hm
  obtain ⟨a1, rfl, rfl, rfl, w1⟩ := open_int Try.underlying5 (hval 1 5 v1 rfl rfl) h1
  have k2 := h2
  have lt2 : ∀ x ∈ p2, x.block < W.heap.size := by obtain ⟨m, hm⟩ := k2; exact DataW.trod_lt m _ _ _ hm
  obtain ⟨A2, n2, c2, rfl⟩ := okWide_slice Try.underlying38 (hval 2 38 v2 rfl rfl)
  obtain ⟨fuel2, hf2⟩ := h2
  obtain ⟨l2, ⟨B2, e2, z2, hc2, hr2⟩, hg2⟩ := (opens_slice 1 Try.underlying38 (by kernel_rfl) (by kernel_rfl) (opens_int Try.underlying39)) enc W _ _ _ _ _ hf2 (light 2 rfl rfl)
  simp only [Value.cells, List.cons.injEq, and_true, Value.slice.injEq] at z2
  obtain ⟨rfl, rfl, rfl⟩ := z2
  have k3 := h3
  have lt3 : ∀ x ∈ p3, x.block < W.heap.size := by obtain ⟨m, hm⟩ := k3; exact DataW.trod_lt m _ _ _ hm
  obtain ⟨a3, rfl, rfl, rfl, w3⟩ := open_int Try.underlying39 (hval 3 39 v3 rfl rfl) h3
  clear hA0 hval0 hsz0 hsz light
  obtain ⟨k, hk⟩ : ∃ k, furrowlaw16_DropHolds.f k x0_0 x0_1 x0_2 a1 l2 a3 = some true := ⟨100000000000000000100, Pure.dropholds_true (Pure.u8_of w1) (Pure.i8_of3 w3) (fun z hz => Pure.i8_of3 (hg2.2 z hz))⟩
  refine (furrowlaw16_DropHolds.calls k x0_0 _ _ x0_1 _ _ x0_2 a1 _ _ l2 a3 W hr0_1 hc0_1 hr0_2 hc0_2 hr2 hc2  hk).mono fun e W' ⟨he, bel⟩ => ?_
  subst he
  exact ⟨_, rfl, _, _, _, [], _, [], hW', trodAll_mk1 (shut_bool Try.underlying4 _), (trodAll_cons_mk (Below.trod laidOut (by kernel_rfl) (of_decide_eq_true (by kernel_rfl)) k0 bel lt0) (trodAll_cons_mk (Below.trod laidOut (by kernel_rfl) (of_decide_eq_true (by kernel_rfl)) k1 bel lt1) (trodAll_cons_mk (Below.trod laidOut (by kernel_rfl) (of_decide_eq_true (by kernel_rfl)) k2 bel lt2) (trodAll_cons_mk (Below.trod laidOut (by kernel_rfl) (of_decide_eq_true (by kernel_rfl)) k3 bel lt3) trodAll_mk0)))), rfl, bel.frame _, fun h => by cases h⟩
theorem over : Rows.dropHoldsRow.holds Try.pinned (OpenSpec.ofChange Rows.dropHoldsSpec) :=
  OpenClaim.holds_of_wide 4 Try.f4 rfl rfl rfl rfl rfl rfl rfl ⟨rfl, rfl, rfl, rfl, rfl⟩ rfl rfl rfl rfl rfl (by kernel_rfl) Try.func4 (by kernel_rfl)
    (of_decide_eq_true (by kernel_rfl)) (by unfold Func.isWrapper; first | (rw [if_pos (by decide +kernel)]; kernel_rfl) | (rw [if_neg (by decide +kernel)]; exact ⟨rfl, rfl⟩))
    (fun os started H enc _ => lifted os started H enc)
theorem proved : Rows.DropHoldsSaid := over
#print axioms proved
end Go.Proofs.Ytmglfimdhbooeaa.dropHolds
namespace Go.Proofs.Ytmglfimdhbooeaa
/-- The row, under a short name, for the claim. -/
theorem dropHolds_holds : Rows.DropHoldsSaid := dropHolds.proved
end Go.Proofs.Ytmglfimdhbooeaa
