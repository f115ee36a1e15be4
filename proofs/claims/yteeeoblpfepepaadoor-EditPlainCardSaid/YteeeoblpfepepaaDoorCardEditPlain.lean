/- furrow: the law EditPlain answers true at every input, its tied card; no conditions. -/
import Derived.Test.YteeeoblpfepepaaDoorRows
import Derived.Test.YteeeoblpfepepaaDoorHandP
import Derived.Test.YteeeoblpfepepaaDoorOp
import Derived.Test.YteeeoblpfepepaaDoorPureEditPlain
import Derived.Test.YteeeoblpfepepaaDoorDoor
import Derived.Test.YteeeoblpfepepaaDoorCards
import Derived.Test.YteeeoblpfepepaaDoorTie
import Derived.WalkKit
import Derived.ProofKit
import Derived.OpenShut
import Derived.ShutString
import Derived.ChangeOld
import Derived.Below
import Derived.SizedLaws
import Derived.Carry
import Derived.SevenTiedAt
import Derived.Stop.Joined
import Derived.LaidMore
namespace Go.Proofs.YteeeoblpfepepaaDoor.editPlain
open Go.ChangeShapes Go.WideShapes Go.ChangeAt Go.RowKit Go.Proofs.YteeeoblpfepepaaDoor.Flt Go.Proofs.YteeeoblpfepepaaDoor.H Go.Proofs.YteeeoblpfepepaaDoor.X Go.Proofs.YteeeoblpfepepaaDoorW.PrintWords
open Go.ChangeMaps (open_string shut_string)
set_option linter.unusedVariables false
theorem own : ownKnob Tryd.prog.godebug = none := by kernel_rfl
theorem laidOut : laidOutB Tryd.prog = true := by kernel_rfl
set_option maxRecDepth 100000 in
theorem lifted (os : Os) (started : os.Started) (H : Type) (enc : TypeId × Value → H) :
    ReturnsInHanded {} Tryd.checked os 5 .any (fun w args => (Rows.editPlainSpec.pre enc Tryd.prog Tryd.f5 [] false w args ∧ laidMetH Tryd.prog Door.laidL w) ∧ sizedMet enc Tryd.prog Tryd.f5 (OpenSpec.ofChange Rows.editPlainSpec) false w args) (Rows.editPlainSpec.post enc Tryd.prog Tryd.f5 false true false false) := by
  refine returnsInHanded_of_change_and (C := Tryd.checked) (X := fun w _ => laidMetH Tryd.prog Door.laidL w) (fun _ _ _ hh h => h.of_heap hh) own started (by kernel_rfl) Tryd.func5
    (ChangeSpec.witness_shaped (enc := enc) (C := Tryd.checked) (os := os) (X := fun w _ => laidMetH Tryd.prog Door.laidL w) false (World.doorLaid Tryd.prog 16 os) #[.slice none 0 0, .int .u8 0, .int .u8 0, .slice none 0 0] 8 rfl (World.shaped_of_RefB (by kernel_rfl) (by kernel_rfl)) (by kernel_rfl) (by kernel_rfl) (by kernel_rfl) (Door.met os _)) ?_
  intro W base args ds gs before hval0 hW hcnd hsz0 hL _
  have hG := Door.glob hL
  have hval : ∀ (j : Nat) t v, Tryd.f5.params[j]? = some t → args[j]? = some v → Value.okWide Tryd.prog W .any base t v := hval0
  have hsz : (DataW.weightsEach Tryd.prog (Tryd.f5.params.toList ++ Rows.editPlainSpec.plain.varTypes Tryd.prog) (ds ++ gs)).all (· ≤ reachBytes) = true := hsz0
  have light : ∀ (j : Nat) {t : TypeId} {d : DataW H}, (Tryd.f5.params.toList ++ Rows.editPlainSpec.plain.varTypes Tryd.prog)[j]? = some t → (ds ++ gs)[j]? = some d → Light Tryd.prog t d := fun j t d ht hd n hn => (of_decide_eq_true (List.all_eq_true.1 hsz n (DataW.weights_mem_each ht hd n hn)) : n ≤ reachBytes)
  have hW' := hW
  obtain ⟨p, q, hA0, hV, rfl, hfz, hnd⟩ := hW
  have hA : DataW.TrodAll enc Tryd.prog W 0 (fun _ => true) true Tryd.f5.params.toList args.toList ds p := hA0
  rw [Tryd.params5] at hA hval light
  obtain ⟨v0, vs0, d0, ds0, p0, q0, hargs, rfl, rfl, h0, r0⟩ := trodAll_cons hA
  obtain ⟨v1, vs1, d1, ds1, p1, q1, rfl, rfl, rfl, h1, r1⟩ := trodAll_cons r0
  obtain ⟨v2, vs2, d2, ds2, p2, q2, rfl, rfl, rfl, h2, r2⟩ := trodAll_cons r1
  obtain ⟨v3, vs3, d3, ds3, p3, q3, rfl, rfl, rfl, h3, r3⟩ := trodAll_cons r2
  obtain ⟨rfl, rfl, rfl⟩ := trodAll_nil r3
  obtain rfl : args = #[v0, v1, v2, v3] := by cases args; simp_all
  obtain ⟨rfl, rfl⟩ := trodVars_none hV
  have k0 := h0
  have lt0 : ∀ x ∈ p0, x.block < W.heap.size := by obtain ⟨m, hm⟩ := k0; exact DataW.trod_lt m _ _ _ hm
  obtain ⟨A0, n0, c0, rfl⟩ := okWide_slice Tryd.underlying22 (hval 0 22 v0 rfl rfl)
  obtain ⟨fuel0, hf0⟩ := h0
  obtain ⟨l0, ⟨B0, e0, z0, hc0, hr0⟩, hg0⟩ := (opens_slice 16 Tryd.underlying22 (by kernel_rfl) (by kernel_rfl) (opens_string Tryd.underlying9)) enc W _ _ _ _ _ hf0 (light 0 rfl rfl)
  simp only [Value.cells, List.cons.injEq, and_true, Value.slice.injEq] at z0
  obtain ⟨rfl, rfl, rfl⟩ := z0
  have k1 := h1
  have lt1 : ∀ x ∈ p1, x.block < W.heap.size := by obtain ⟨m, hm⟩ := k1; exact DataW.trod_lt m _ _ _ hm
  obtain ⟨a1, rfl, rfl, rfl, w1⟩ := open_int Tryd.underlying5 (hval 1 5 v1 rfl rfl) h1
  have k2 := h2
  have lt2 : ∀ x ∈ p2, x.block < W.heap.size := by obtain ⟨m, hm⟩ := k2; exact DataW.trod_lt m _ _ _ hm
  obtain ⟨a2, rfl, rfl, rfl, w2⟩ := open_int Tryd.underlying5 (hval 2 5 v2 rfl rfl) h2
  have k3 := h3
  have lt3 : ∀ x ∈ p3, x.block < W.heap.size := by obtain ⟨m, hm⟩ := k3; exact DataW.trod_lt m _ _ _ hm
  obtain ⟨A3, n3, c3, rfl⟩ := okWide_slice Tryd.underlying22 (hval 3 22 v3 rfl rfl)
  obtain ⟨fuel3, hf3⟩ := h3
  obtain ⟨l3, ⟨B3, e3, z3, hc3, hr3⟩, hg3⟩ := (opens_slice 16 Tryd.underlying22 (by kernel_rfl) (by kernel_rfl) (opens_string Tryd.underlying9)) enc W _ _ _ _ _ hf3 (light 3 rfl rfl)
  simp only [Value.cells, List.cons.injEq, and_true, Value.slice.injEq] at z3
  obtain ⟨rfl, rfl, rfl⟩ := z3
  clear hA0 hval0 hsz0 hsz light
  obtain ⟨k, hk⟩ : ∃ k, furrowlaw3_EditPlain.f k l0 a1 a2 l3 = some true := ⟨50002, Pure.editplain_true w1 w2 (Nat.le_refl _)⟩
  refine (furrowlaw3_EditPlain.calls k _ _ l0 a1 a2 _ _ l3 W hr0 hc0 hr3 hc3 hG hk).mono fun e W' ⟨he, bel⟩ => ?_
  subst he
  exact ⟨_, rfl, _, _, _, [], _, [], hW', trodAll_mk1 (shut_bool Tryd.underlying4 _), (trodAll_cons_mk (Below.trod laidOut (by kernel_rfl) (of_decide_eq_true (by kernel_rfl)) k0 bel lt0) (trodAll_cons_mk (Below.trod laidOut (by kernel_rfl) (of_decide_eq_true (by kernel_rfl)) k1 bel lt1) (trodAll_cons_mk (Below.trod laidOut (by kernel_rfl) (of_decide_eq_true (by kernel_rfl)) k2 bel lt2) (trodAll_cons_mk (Below.trod laidOut (by kernel_rfl) (of_decide_eq_true (by kernel_rfl)) k3 bel lt3) trodAll_mk0)))), rfl, bel.frame _, fun h => by cases h⟩
theorem over : Rows.editPlainRow.holds Tryd.pinned (OpenSpec.ofChange Rows.editPlainSpec) :=
  OpenClaim.holds_of_wide 5 Tryd.f5 rfl rfl rfl rfl rfl rfl rfl ⟨rfl, rfl, rfl, rfl, rfl⟩ rfl rfl rfl rfl rfl (by kernel_rfl) Tryd.func5 (by kernel_rfl)
    (of_decide_eq_true (by kernel_rfl)) (by unfold Func.isWrapper; first | (rw [if_pos (by decide +kernel)]; kernel_rfl) | (rw [if_neg (by decide +kernel)]; exact ⟨rfl, rfl⟩))
    (fun os started H enc _ => lifted os started H enc)
theorem card_proved : Rows.EditPlainCardSaid :=
  Claim7.holds_tied_plain_at .later [] [.handle] true (true, "4dec7a35168f2f4512741e16883af9a8961fd1ca59407d96ae9d475fb358fc5e") true
    over (fun _ h => by cases h) (by kernel_rfl) (fun _ h => by cases h) editPlain_row_tie rfl ⟨rfl, rfl⟩ (by kernel_rfl) rfl
    (fun f fn hf hfn => by
      obtain rfl : f = 5 := Option.some.inj ((show Tryd.prog.funcNamed "furrow/furrowlaw3.EditPlain" = some 5 by kernel_rfl).symm.trans hf) |>.symm
      obtain rfl : fn = Tryd.f5 := (Option.some.inj (Tryd.func5.symm.trans hfn)).symm
      exact ⟨by kernel_rfl, fun j t ht => by
        have hall : Tryd.f5.params.toList.all (fun t => Tryd.prog.wantsStandIn t == false) = true := by kernel_rfl
        have hm : t ∈ Tryd.f5.params.toList := List.mem_of_getElem? (by simpa using ht)
        exact beq_iff_eq.1 (List.all_eq_true.1 hall t hm)⟩)
    (by kernel_rfl)
#print axioms card_proved
end Go.Proofs.YteeeoblpfepepaaDoor.editPlain
namespace Go.Proofs.YteeeoblpfepepaaDoor
/-- The card, under a short name, for the claim. -/
theorem editPlain_holds : Rows.EditPlainCardSaid := editPlain.card_proved
end Go.Proofs.YteeeoblpfepepaaDoor
