/- furrow: the law LineJoins answers true at every input, its tied card; no conditions. -/
import Derived.Test.YtnecoebdmjkblaaDoorRows
import Derived.Test.YtnecoebdmjkblaaDoorXx6
import Derived.Test.YtnecoebdmjkblaaDoorOp
import Derived.Test.YtnecoebdmjkblaaDoorPureLineJoins
import Derived.Test.YtnecoebdmjkblaaDoorDoorP
import Derived.Test.YtnecoebdmjkblaaDoorCards
import Derived.Test.YtnecoebdmjkblaaDoorTie
import Derived.WalkKit
import Derived.ProofKit
import Derived.OpenShut
import Derived.ShutString
import Derived.ChangeOld
import Derived.Below
import Derived.SizedLaws
import Derived.Carry
import Derived.SevenTiedAt
import Derived.Stop.Joined
import Derived.LaidMore
namespace Go.Proofs.YtnecoebdmjkblaaDoor.lineJoins
open Go.ChangeShapes Go.WideShapes Go.ChangeAt Go.RowKit Go.Proofs.YtnecoebdmjkblaaDoor.Flt Go.Proofs.YtnecoebdmjkblaaDoor.H Go.Proofs.YtnecoebdmjkblaaDoor.X Go.Proofs.YtnecoebdmjkblaaDoorW.PrintWords
open Go.ChangeMaps (open_string shut_string)
set_option linter.unusedVariables false
theorem own : ownKnob Tryd.prog.godebug = none := by kernel_rfl
theorem laidOut : laidOutB Tryd.prog = true := by kernel_rfl
set_option maxRecDepth 100000 in
theorem lifted (os : Os) (started : os.Started) (H : Type) (enc : TypeId × Value → H) :
    ReturnsInHanded {} Tryd.checked os 4 .any (fun w args => (Rows.lineJoinsSpec.pre enc Tryd.prog Tryd.f4 [] false w args ∧ laidMetH Tryd.prog DoorP.laidL w) ∧ sizedMet enc Tryd.prog Tryd.f4 (OpenSpec.ofChange Rows.lineJoinsSpec) false w args) (Rows.lineJoinsSpec.post enc Tryd.prog Tryd.f4 false true false false) := by
  refine returnsInHanded_of_change_and (C := Tryd.checked) (X := fun w _ => laidMetH Tryd.prog DoorP.laidL w) (fun _ _ _ hh h => h.of_heap hh) own started (by kernel_rfl) Tryd.func4
    (ChangeSpec.witness_shaped (enc := enc) (C := Tryd.checked) (os := os) (X := fun w _ => laidMetH Tryd.prog DoorP.laidL w) false (DoorP.pinW os) #[.slice none 0 0, .slice none 0 0] 8 rfl (World.shaped_of_RefB (by kernel_rfl) (by kernel_rfl)) (by kernel_rfl) (by kernel_rfl) (by kernel_rfl) (DoorP.met os _)) ?_
  intro W base args ds gs before hval0 hW hcnd hsz0 hL _
  have hval : ∀ (j : Nat) t v, Tryd.f4.params[j]? = some t → args[j]? = some v → Value.okWide Tryd.prog W .any base t v := hval0
  have hsz : (DataW.weightsEach Tryd.prog (Tryd.f4.params.toList ++ Rows.lineJoinsSpec.plain.varTypes Tryd.prog) (ds ++ gs)).all (· ≤ reachBytes) = true := hsz0
  have light : ∀ (j : Nat) {t : TypeId} {d : DataW H}, (Tryd.f4.params.toList ++ Rows.lineJoinsSpec.plain.varTypes Tryd.prog)[j]? = some t → (ds ++ gs)[j]? = some d → Light Tryd.prog t d := fun j t d ht hd n hn => (of_decide_eq_true (List.all_eq_true.1 hsz n (DataW.weights_mem_each ht hd n hn)) : n ≤ reachBytes)
  have hW' := hW
  obtain ⟨p, q, hA0, hV, rfl, hfz, hnd⟩ := hW
  have hA : DataW.TrodAll enc Tryd.prog W 0 (fun _ => true) true Tryd.f4.params.toList args.toList ds p := hA0
  rw [Tryd.params4] at hA hval light
  obtain ⟨v0, vs0, d0, ds0, p0, q0, hargs, rfl, rfl, h0, r0⟩ := trodAll_cons hA
  obtain ⟨v1, vs1, d1, ds1, p1, q1, rfl, rfl, rfl, h1, r1⟩ := trodAll_cons r0
  obtain ⟨rfl, rfl, rfl⟩ := trodAll_nil r1
  obtain rfl : args = #[v0, v1] := by cases args; simp_all
  obtain ⟨rfl, rfl⟩ := trodVars_none hV
  have k0 := h0
  have lt0 : ∀ x ∈ p0, x.block < W.heap.size := by obtain ⟨m, hm⟩ := k0; exact DataW.trod_lt m _ _ _ hm
  obtain ⟨A0, n0, c0, rfl⟩ := okWide_slice Tryd.underlying27 (hval 0 27 v0 rfl rfl)
  obtain ⟨fuel0, hf0⟩ := h0
  obtain ⟨l0, ⟨B0, e0, z0, hc0, hr0⟩, hg0⟩ := (opens_slice 16 Tryd.underlying27 (by kernel_rfl) (by kernel_rfl) (opens_string Tryd.underlying9)) enc W _ _ _ _ _ hf0 (light 0 rfl rfl)
  simp only [Value.cells, List.cons.injEq, and_true, Value.slice.injEq] at z0
  obtain ⟨rfl, rfl, rfl⟩ := z0
  have k1 := h1
  have lt1 : ∀ x ∈ p1, x.block < W.heap.size := by obtain ⟨m, hm⟩ := k1; exact DataW.trod_lt m _ _ _ hm
  obtain ⟨A1, n1, c1, rfl⟩ := okWide_slice Tryd.underlying27 (hval 1 27 v1 rfl rfl)
  obtain ⟨fuel1, hf1⟩ := h1
  obtain ⟨l1, ⟨B1, e1, z1, hc1, hr1⟩, hg1⟩ := (opens_slice 16 Tryd.underlying27 (by kernel_rfl) (by kernel_rfl) (opens_string Tryd.underlying9)) enc W _ _ _ _ _ hf1 (light 1 rfl rfl)
  simp only [Value.cells, List.cons.injEq, and_true, Value.slice.injEq] at z1
  obtain ⟨rfl, rfl, rfl⟩ := z1
  clear hA0 hval0 hsz0 hsz light
  obtain ⟨k, hk⟩ : ∃ k, furrowlaw2_LineJoins.f k l0 l1 = some true := (Pure.linejoins_true l0 l1)
  refine (furrowlaw2_LineJoins.calls k _ _ l0 _ _ l1 W hr0 hc0 hr1 hc1  hk).mono fun e W' ⟨he, bel⟩ => ?_
  subst he
  exact ⟨_, rfl, _, _, _, [], _, [], hW', trodAll_mk1 (shut_bool Tryd.underlying4 _), (trodAll_cons_mk (Below.trod laidOut (by kernel_rfl) (of_decide_eq_true (by kernel_rfl)) k0 bel lt0) (trodAll_cons_mk (Below.trod laidOut (by kernel_rfl) (of_decide_eq_true (by kernel_rfl)) k1 bel lt1) trodAll_mk0)), rfl, bel.frame _, fun h => by cases h⟩
theorem over : Rows.lineJoinsRow.holds Tryd.pinned (OpenSpec.ofChange Rows.lineJoinsSpec) :=
  OpenClaim.holds_of_wide 4 Tryd.f4 rfl rfl rfl rfl rfl rfl rfl ⟨rfl, rfl, rfl, rfl, rfl⟩ rfl rfl rfl rfl rfl (by kernel_rfl) Tryd.func4 (by kernel_rfl)
    (of_decide_eq_true (by kernel_rfl)) (by unfold Func.isWrapper; first | (rw [if_pos (by decide +kernel)]; kernel_rfl) | (rw [if_neg (by decide +kernel)]; exact ⟨rfl, rfl⟩))
    (fun os started H enc _ => lifted os started H enc)
theorem card_proved : Rows.LineJoinsCardSaid :=
  Claim7.holds_tied_plain_at .later [] [.data, .pinned] true (true, "8c8a87f680b90be2bade25d8a44f4d7546c51c346d7307ee8777c53ccef1603e") true
    over (fun _ h => by cases h) (by kernel_rfl) (fun _ h => by cases h) lineJoins_row_tie rfl ⟨rfl, rfl⟩ (by kernel_rfl) rfl
    (fun f fn hf hfn => by
      obtain rfl : f = 4 := Option.some.inj ((show Tryd.prog.funcNamed "furrow/furrowlaw2.LineJoins" = some 4 by kernel_rfl).symm.trans hf) |>.symm
      obtain rfl : fn = Tryd.f4 := (Option.some.inj (Tryd.func4.symm.trans hfn)).symm
      exact ⟨by kernel_rfl, fun j t ht => by
        have hall : Tryd.f4.params.toList.all (fun t => Tryd.prog.wantsStandIn t == false) = true := by kernel_rfl
        have hm : t ∈ Tryd.f4.params.toList := List.mem_of_getElem? (by simpa using ht)
        exact beq_iff_eq.1 (List.all_eq_true.1 hall t hm)⟩)
    (by kernel_rfl)
#print axioms card_proved
end Go.Proofs.YtnecoebdmjkblaaDoor.lineJoins
namespace Go.Proofs.YtnecoebdmjkblaaDoor
/-- The card, under a short name, for the claim. -/
theorem lineJoins_holds : Rows.LineJoinsCardSaid := lineJoins.card_proved
end Go.Proofs.YtnecoebdmjkblaaDoor
