-- PRINTED by print.py (a twelfth state) out of the translation. Not trusted: Lean checks it.
import Derived.Test.YtmhkijidnpihmaaDoorXx0
import Derived.Test.YtmhkijidnpihmaaDoorXx6
import Derived.Test.YtmhkijidnpihmaaDoorHandV
namespace Go.Proofs.YtmhkijidnpihmaaDoor.X
open Go.Proofs.YtmhkijidnpihmaaDoor.Flt Go.Proofs.YtmhkijidnpihmaaDoor.H Go.RowKit Go.Proofs.YtmhkijidnpihmaaDoorW.PrintWords Go.Proofs.YtmhkijidnpihmaaDoorW.PrintLast Go.Proofs.YtmhkijidnpihmaaDoorW.PrintMore
attribute [local go_sem] max2_int min2_int max_two min_two max_three min_three max_four min_four   -- for this text's walks alone
set_option linter.unusedVariables false
set_option linter.unusedSimpArgs false

/-! ### furrowlaw9_EvalCells: function 5 -/
mutual
def furrowlaw9_EvalCells.l0 : Nat → Int → Int → List Int → Int → Int → List (S64) → Int → Option (Bool)
 | 0, _, _, _, _, _, _, _ => none
 | k + 1, x5, x6, x8, x9, x10, x270000, x270001 => if x10 ≤ x6 then (furrowlaw9_EvalCells.l1 k x5 x6 x8 x9 x10 1 x270000 x270001) else (some true)
def furrowlaw9_EvalCells.l1 : Nat → Int → Int → List Int → Int → Int → Int → List (S64) → Int → Option (Bool)
 | 0, _, _, _, _, _, _, _, _ => none
 | k + 1, x5, x6, x8, x9, x10, x11, x270000, x270001 => if x11 ≤ x5 then ((eval_Place.f k x270000 x270001 x8 3 0 (⟨#[97]⟩ : ByteArray) (([(⟨1, x11, (⟨#[]⟩ : ByteArray), ([] : List (S24))⟩ : S24), (⟨1, x10, (⟨#[]⟩ : ByteArray), ([] : List (S24))⟩ : S24)] : List (S24)))).bind fun bt276 => (if (bt276.2.length : Int) = 0 then (if bt276.1 = x9 then (furrowlaw9_EvalCells.l1 k x5 x6 x8 (wrap64 (x9 + 1)) x10 (wrap64 (x11 + 1)) x270000 x270001) else (some false)) else (some false))) else (furrowlaw9_EvalCells.l0 k x5 x6 x8 x9 (wrap64 (x10 + 1)) x270000 x270001)
end
def furrowlaw9_EvalCells.f (k : Nat) (a0 : Int) (a1 : Int) : Option (Bool) := (furrowlaw9_known.f k).bind fun t262 => (if t262 = true then (if 0 ≤ (wrap64 ((wrap64 ((wrap64 (1 + (wrap64 (Int.tmod a0 8)))) * (wrap64 (1 + (wrap64 (Int.tmod a1 8)))))) + 1)) then (if (wrap64 ((wrap64 ((wrap64 (1 + (wrap64 (Int.tmod a0 8)))) * (wrap64 (1 + (wrap64 (Int.tmod a1 8)))))) + 1) : Int).toNat ≤ 35184372088832 then (furrowlaw9_EvalCells.l0 k (wrap64 (1 + (wrap64 (Int.tmod a0 8)))) (wrap64 (1 + (wrap64 (Int.tmod a1 8)))) (List.replicate (wrap64 ((wrap64 ((wrap64 (1 + (wrap64 (Int.tmod a0 8)))) * (wrap64 (1 + (wrap64 (Int.tmod a1 8)))))) + 1) : Int).toNat 0) 1 1 (([(⟨(⟨#[120]⟩ : ByteArray), ([] : List Int), 0, 1⟩ : S64), (⟨(⟨#[97]⟩ : ByteArray), (([wrap64 (1 + (wrap64 (Int.tmod a0 8))), wrap64 (1 + (wrap64 (Int.tmod a1 8)))] : List Int)), 1, wrap64 ((wrap64 (1 + (wrap64 (Int.tmod a0 8)))) * (wrap64 (1 + (wrap64 (Int.tmod a1 8)))))⟩ : S64)] : List (S64))) (wrap64 ((wrap64 ((wrap64 (1 + (wrap64 (Int.tmod a0 8)))) * (wrap64 (1 + (wrap64 (Int.tmod a1 8)))))) + 1))) else (none)) else (none)) else (some false))
theorem furrowlaw9_EvalCells.mono_l : ∀ k, (∀ y0 y1 y2 y3 y4 y5 y6, LeO (furrowlaw9_EvalCells.l0 k y0 y1 y2 y3 y4 y5 y6) (furrowlaw9_EvalCells.l0 (k + 1) y0 y1 y2 y3 y4 y5 y6)) ∧ (∀ y0 y1 y2 y3 y4 y5 y6 y7, LeO (furrowlaw9_EvalCells.l1 k y0 y1 y2 y3 y4 y5 y6 y7) (furrowlaw9_EvalCells.l1 (k + 1) y0 y1 y2 y3 y4 y5 y6 y7))
 | 0 => ⟨fun _ _ _ _ _ _ _ r h => by simp [furrowlaw9_EvalCells.l0] at h, fun _ _ _ _ _ _ _ _ r h => by simp [furrowlaw9_EvalCells.l1] at h⟩
 | k + 1 => by
  obtain ⟨ih0, ih1⟩ := furrowlaw9_EvalCells.mono_l k
  refine ⟨?_, ?_⟩
  ·intro y0 y1 y2 y3 y4 y5 y6
   unfold furrowlaw9_EvalCells.l0
   repeat' first
   | (with_reducible exact ih0 _ _ _ _ _ _ _)
   | (with_reducible exact ih1 _ _ _ _ _ _ _ _)
   | (with_reducible exact eval_Place.mono _ _ _ _ _ _ _ _)
   | (with_reducible exact furrowlaw9_known.mono _)
   | (with_reducible exact LeO.refl _)
   | (with_reducible exact LeO.none _)
   | (with_reducible refine LeO.ite ?_ ?_)
   | (with_reducible refine LeO.bind ?_ (fun _ => ?_))
   | exact ih0 _ _ _ _ _ _ _
   | exact ih1 _ _ _ _ _ _ _ _
   | exact eval_Place.mono _ _ _ _ _ _ _ _
   | exact furrowlaw9_known.mono _
   | exact LeO.none _
   | refine LeO.ite ?_ ?_
   | refine LeO.bind ?_ (fun _ => ?_)
  ·intro y0 y1 y2 y3 y4 y5 y6 y7
   unfold furrowlaw9_EvalCells.l1
   repeat' first
   | (with_reducible exact ih0 _ _ _ _ _ _ _)
   | (with_reducible exact ih1 _ _ _ _ _ _ _ _)
   | (with_reducible exact eval_Place.mono _ _ _ _ _ _ _ _)
   | (with_reducible exact furrowlaw9_known.mono _)
   | (with_reducible exact LeO.refl _)
   | (with_reducible exact LeO.none _)
   | (with_reducible refine LeO.ite ?_ ?_)
   | (with_reducible refine LeO.bind ?_ (fun _ => ?_))
   | exact ih0 _ _ _ _ _ _ _
   | exact ih1 _ _ _ _ _ _ _ _
   | exact eval_Place.mono _ _ _ _ _ _ _ _
   | exact furrowlaw9_known.mono _
   | exact LeO.none _
   | refine LeO.ite ?_ ?_
   | refine LeO.bind ?_ (fun _ => ?_)
theorem furrowlaw9_EvalCells.mono : ∀ a0 a1 k, LeO (furrowlaw9_EvalCells.f k a0 a1) (furrowlaw9_EvalCells.f (k + 1) a0 a1) := by
 intro a0 a1 k
 obtain ⟨ih0, ih1⟩ := furrowlaw9_EvalCells.mono_l k
 unfold furrowlaw9_EvalCells.f
 repeat' first
   | (with_reducible exact ih0 _ _ _ _ _ _ _)
   | (with_reducible exact ih1 _ _ _ _ _ _ _ _)
   | (with_reducible exact eval_Place.mono _ _ _ _ _ _ _ _)
   | (with_reducible exact furrowlaw9_known.mono _)
   | (with_reducible exact LeO.refl _)
   | (with_reducible exact LeO.none _)
   | (with_reducible refine LeO.ite ?_ ?_)
   | (with_reducible refine LeO.bind ?_ (fun _ => ?_))
   | exact ih0 _ _ _ _ _ _ _
   | exact ih1 _ _ _ _ _ _ _ _
   | exact eval_Place.mono _ _ _ _ _ _ _ _
   | exact furrowlaw9_known.mono _
   | exact LeO.none _
   | refine LeO.ite ?_ ?_
   | refine LeO.bind ?_ (fun _ => ?_)
set_option maxHeartbeats 8000000 in
set_option maxRecDepth 100000 in
theorem furrowlaw9_EvalCells.calls (k : Nat) (a0 : Int) (a1 : Int) (w : World) (hG : Glob w) (h : furrowlaw9_EvalCells.f k a0 a1 = some true) :
  Calls Tryd.prog 5 #[.int .u8 a0, .int .u8 a1] w fun e w' => e = .returned (.bool true) ∧ Below w.heap.size w w' := by
 have hu64 := Tryd.underlying64
 have hu46 := Tryd.underlying46
 have hu24 := Tryd.underlying24
 have HG := mk0 hG
 clear hG
 have HB := mk0 (Below.refl w.heap.size w)
 have H : ((furrowlaw9_known.f k).bind fun t262 => (if t262 = true then (if 0 ≤ (wrap64 ((wrap64 ((wrap64 (1 + (wrap64 (Int.tmod a0 8)))) * (wrap64 (1 + (wrap64 (Int.tmod a1 8)))))) + 1)) then (if (wrap64 ((wrap64 ((wrap64 (1 + (wrap64 (Int.tmod a0 8)))) * (wrap64 (1 + (wrap64 (Int.tmod a1 8)))))) + 1) : Int).toNat ≤ 35184372088832 then (furrowlaw9_EvalCells.l0 k (wrap64 (1 + (wrap64 (Int.tmod a0 8)))) (wrap64 (1 + (wrap64 (Int.tmod a1 8)))) (List.replicate (wrap64 ((wrap64 ((wrap64 (1 + (wrap64 (Int.tmod a0 8)))) * (wrap64 (1 + (wrap64 (Int.tmod a1 8)))))) + 1) : Int).toNat 0) 1 1 (([(⟨(⟨#[120]⟩ : ByteArray), ([] : List Int), 0, 1⟩ : S64), (⟨(⟨#[97]⟩ : ByteArray), (([wrap64 (1 + (wrap64 (Int.tmod a0 8))), wrap64 (1 + (wrap64 (Int.tmod a1 8)))] : List Int)), 1, wrap64 ((wrap64 (1 + (wrap64 (Int.tmod a0 8)))) * (wrap64 (1 + (wrap64 (Int.tmod a1 8)))))⟩ : S64)] : List (S64))) (wrap64 ((wrap64 ((wrap64 (1 + (wrap64 (Int.tmod a0 8)))) * (wrap64 (1 + (wrap64 (Int.tmod a1 8)))))) + 1))) else (none)) else (none)) else (some false))) = some true := h
 clear h
 replace H := Option.bind_eq_some_iff.mp H
 obtain ⟨t262, A30, H⟩ := H
 replace H : (if t262 = true then (if 0 ≤ (wrap64 ((wrap64 ((wrap64 (1 + (wrap64 (Int.tmod a0 8)))) * (wrap64 (1 + (wrap64 (Int.tmod a1 8)))))) + 1)) then (if (wrap64 ((wrap64 ((wrap64 (1 + (wrap64 (Int.tmod a0 8)))) * (wrap64 (1 + (wrap64 (Int.tmod a1 8)))))) + 1) : Int).toNat ≤ 35184372088832 then (furrowlaw9_EvalCells.l0 k (wrap64 (1 + (wrap64 (Int.tmod a0 8)))) (wrap64 (1 + (wrap64 (Int.tmod a1 8)))) (List.replicate (wrap64 ((wrap64 ((wrap64 (1 + (wrap64 (Int.tmod a0 8)))) * (wrap64 (1 + (wrap64 (Int.tmod a1 8)))))) + 1) : Int).toNat 0) 1 1 (([(⟨(⟨#[120]⟩ : ByteArray), ([] : List Int), 0, 1⟩ : S64), (⟨(⟨#[97]⟩ : ByteArray), (([wrap64 (1 + (wrap64 (Int.tmod a0 8))), wrap64 (1 + (wrap64 (Int.tmod a1 8)))] : List Int)), 1, wrap64 ((wrap64 (1 + (wrap64 (Int.tmod a0 8)))) * (wrap64 (1 + (wrap64 (Int.tmod a1 8)))))⟩ : S64)] : List (S64))) (wrap64 ((wrap64 ((wrap64 (1 + (wrap64 (Int.tmod a0 8)))) * (wrap64 (1 + (wrap64 (Int.tmod a1 8)))))) + 1))) else (none)) else (none)) else (some false)) = some true := H
 have A3 := mk0 A30
 clear A30
 by_cases c4 : t262 = true
 ·subst c4
  have H1 : (if 0 ≤ (wrap64 ((wrap64 ((wrap64 (1 + (wrap64 (Int.tmod a0 8)))) * (wrap64 (1 + (wrap64 (Int.tmod a1 8)))))) + 1)) then (if (wrap64 ((wrap64 ((wrap64 (1 + (wrap64 (Int.tmod a0 8)))) * (wrap64 (1 + (wrap64 (Int.tmod a1 8)))))) + 1) : Int).toNat ≤ 35184372088832 then (furrowlaw9_EvalCells.l0 k (wrap64 (1 + (wrap64 (Int.tmod a0 8)))) (wrap64 (1 + (wrap64 (Int.tmod a1 8)))) (List.replicate (wrap64 ((wrap64 ((wrap64 (1 + (wrap64 (Int.tmod a0 8)))) * (wrap64 (1 + (wrap64 (Int.tmod a1 8)))))) + 1) : Int).toNat 0) 1 1 (([(⟨(⟨#[120]⟩ : ByteArray), ([] : List Int), 0, 1⟩ : S64), (⟨(⟨#[97]⟩ : ByteArray), (([wrap64 (1 + (wrap64 (Int.tmod a0 8))), wrap64 (1 + (wrap64 (Int.tmod a1 8)))] : List Int)), 1, wrap64 ((wrap64 (1 + (wrap64 (Int.tmod a0 8)))) * (wrap64 (1 + (wrap64 (Int.tmod a1 8)))))⟩ : S64)] : List (S64))) (wrap64 ((wrap64 ((wrap64 (1 + (wrap64 (Int.tmod a0 8)))) * (wrap64 (1 + (wrap64 (Int.tmod a1 8)))))) + 1))) else (none)) else (none)) = some true := by rw [if_pos rfl] at H; first | done | exact H
  clear H
  have H := H1
  clear H1
  obtain ⟨y263, hy263⟩ : ∃ y_ : List Int, y_ = (([wrap64 (1 + (wrap64 (Int.tmod a0 8))), wrap64 (1 + (wrap64 (Int.tmod a1 8)))] : List Int)) := ⟨_, rfl⟩
  replace H : (if 0 ≤ (wrap64 ((wrap64 ((wrap64 (1 + (wrap64 (Int.tmod a0 8)))) * (wrap64 (1 + (wrap64 (Int.tmod a1 8)))))) + 1)) then (if (wrap64 ((wrap64 ((wrap64 (1 + (wrap64 (Int.tmod a0 8)))) * (wrap64 (1 + (wrap64 (Int.tmod a1 8)))))) + 1) : Int).toNat ≤ 35184372088832 then (furrowlaw9_EvalCells.l0 k (wrap64 (1 + (wrap64 (Int.tmod a0 8)))) (wrap64 (1 + (wrap64 (Int.tmod a1 8)))) (List.replicate (wrap64 ((wrap64 ((wrap64 (1 + (wrap64 (Int.tmod a0 8)))) * (wrap64 (1 + (wrap64 (Int.tmod a1 8)))))) + 1) : Int).toNat 0) 1 1 (([(⟨(⟨#[120]⟩ : ByteArray), ([] : List Int), 0, 1⟩ : S64), (⟨(⟨#[97]⟩ : ByteArray), y263, 1, wrap64 ((wrap64 (1 + (wrap64 (Int.tmod a0 8)))) * (wrap64 (1 + (wrap64 (Int.tmod a1 8)))))⟩ : S64)] : List (S64))) (wrap64 ((wrap64 ((wrap64 (1 + (wrap64 (Int.tmod a0 8)))) * (wrap64 (1 + (wrap64 (Int.tmod a1 8)))))) + 1))) else (none)) else (none)) = some true := by first | (rw [hy263]; with_reducible exact H) | (have H2_ := (Option.bind_some _ _).symm.trans H; rw [hy263]; with_reducible exact H2_) | (have H2_ := (Option.bind_some _ _).symm.trans H; with_reducible exact H2_) | with_reducible exact H | (rw [hy263]; exact H) | exact H
  have Ny263 := mk0 hy263
  clear hy263
  obtain ⟨y266, hy266⟩ : ∃ y_ : List (S64), y_ = (([(⟨(⟨#[120]⟩ : ByteArray), ([] : List Int), 0, 1⟩ : S64), (⟨(⟨#[97]⟩ : ByteArray), y263, 1, wrap64 ((wrap64 (1 + (wrap64 (Int.tmod a0 8)))) * (wrap64 (1 + (wrap64 (Int.tmod a1 8)))))⟩ : S64)] : List (S64))) := ⟨_, rfl⟩
  replace H : (if 0 ≤ (wrap64 ((wrap64 ((wrap64 (1 + (wrap64 (Int.tmod a0 8)))) * (wrap64 (1 + (wrap64 (Int.tmod a1 8)))))) + 1)) then (if (wrap64 ((wrap64 ((wrap64 (1 + (wrap64 (Int.tmod a0 8)))) * (wrap64 (1 + (wrap64 (Int.tmod a1 8)))))) + 1) : Int).toNat ≤ 35184372088832 then (furrowlaw9_EvalCells.l0 k (wrap64 (1 + (wrap64 (Int.tmod a0 8)))) (wrap64 (1 + (wrap64 (Int.tmod a1 8)))) (List.replicate (wrap64 ((wrap64 ((wrap64 (1 + (wrap64 (Int.tmod a0 8)))) * (wrap64 (1 + (wrap64 (Int.tmod a1 8)))))) + 1) : Int).toNat 0) 1 1 y266 (wrap64 ((wrap64 ((wrap64 (1 + (wrap64 (Int.tmod a0 8)))) * (wrap64 (1 + (wrap64 (Int.tmod a1 8)))))) + 1))) else (none)) else (none)) = some true := by first | (rw [hy266]; with_reducible exact H) | (have H2_ := (Option.bind_some _ _).symm.trans H; rw [hy266]; with_reducible exact H2_) | (have H2_ := (Option.bind_some _ _).symm.trans H; with_reducible exact H2_) | with_reducible exact H | (rw [hy266]; exact H) | exact H
  have Ny266 := mk0 hy266
  clear hy266
  obtain ⟨ji5, hji5⟩ : ∃ j_ : Int, (wrap64 ((wrap64 ((wrap64 (1 + (wrap64 (Int.tmod a0 8)))) * (wrap64 (1 + (wrap64 (Int.tmod a1 8)))))) + 1)) = j_ := ⟨_, rfl⟩
  replace H : (if 0 ≤ (ji5) then (if (ji5 : Int).toNat ≤ 35184372088832 then (furrowlaw9_EvalCells.l0 k (wrap64 (1 + (wrap64 (Int.tmod a0 8)))) (wrap64 (1 + (wrap64 (Int.tmod a1 8)))) (List.replicate (ji5 : Int).toNat 0) 1 1 y266 ji5) else (none)) else (none)) = some true := by first | (rw [hji5] at H; exact H) | (simp only [hji5] at H ⊢; exact H)
  (try rw [hji5] at A3)
  have hji5w : (IntKind.i64.wrap ((wrap64 ((wrap64 (1 + (wrap64 (Int.tmod a0 8)))) * (wrap64 (1 + (wrap64 (Int.tmod a1 8)))))) + 1)) = ji5 := (i64_w _).trans hji5
  by_cases c6 : 0 ≤ (ji5)
  ·rw [if_pos c6] at H
   have c6b0 := eq_true c6
   have c6b1 : decide (0 ≤ (ji5)) = true := decide_eq_true c6
   clear c6
   by_cases c7 : (ji5 : Int).toNat ≤ 35184372088832
   ·rw [if_pos c7] at H
    have c7b0 := eq_true c7
    have c7b1 : decide ((ji5 : Int).toNat ≤ 35184372088832) = true := decide_eq_true c7
    clear c7
    obtain ⟨y270, hy270⟩ : ∃ y_ : List Int, y_ = (List.replicate (ji5 : Int).toNat 0) := ⟨_, rfl⟩
    replace H : (furrowlaw9_EvalCells.l0 k (wrap64 (1 + (wrap64 (Int.tmod a0 8)))) (wrap64 (1 + (wrap64 (Int.tmod a1 8)))) y270 1 1 y266 ji5) = some true := by first | (rw [hy270]; with_reducible exact H) | (have H2_ := (Option.bind_some _ _).symm.trans H; rw [hy270]; with_reducible exact H2_) | (have H2_ := (Option.bind_some _ _).symm.trans H; with_reducible exact H2_) | with_reducible exact H | (rw [hy270]; exact H) | exact H
    have Ny270 := mk0 hy270
    clear hy270
    have H' := mk0 H
    clear H
    go_enter Tryd.func5, Tryd.ntmps5
    go_wp2_with (first | ((with_reducible refine gate_callee (f := 7) rfl ?_); refine goesL_ (some 14) rfl rfl Tryd.func7 (by kernel_rfl) rfl #[] rfl (by (try simp only [List.map_toArray, List.map_cons, List.map_nil]); first | done | rfl | (simp only [List.length_drop, List.length_take]; rfl)) ?_; (with_reducible refine (furrowlaw9_known.calls k   _ ?side1 A3.out).mono ?_); (case side1 => exact Glob.below HG.out (uL HB.out)); rintro e w8 ⟨rfl, hb⟩; refine ⟨_, rfl, ?_⟩; have n0_ := mk0 (below_step (uL HB.out) hb); clear HB; have HB := n0_; clear n0_; (try clear hb); (try clear hb2); (try clear hk); (try clear hi)) | ((with_reducible refine gate_dst (N := 27) rfl ?_); refine Kd.R_lit (Kd.int .i64) _ 2 ?hg (N := 27) ?hd (xs := ([wrap64 (1 + (wrap64 (Int.tmod a0 8))), wrap64 (1 + (wrap64 (Int.tmod a1 8)))] : List Int)) (inner := [.int .i64 (wrap64 (1 + (wrap64 (Int.tmod a0 8)))), .int .i64 (wrap64 (1 + (wrap64 (Int.tmod a1 8))))]) (ok := fun _ => True) (okp := fun _ => True) ?hr ?hp (fun _ hk => hk) trivial (Below.refl _ _) (Nat.le_refl _) (by simp) ?_; (case hd => rfl); (case hg => rfl); (case hr => first | (go_simp; done) | (go_simp; rfl)); (case hp => exact (Reps.one (show Kd.M (Kd.int .i64) _ _ _ (wrap64 (1 + (wrap64 (Int.tmod a0 8)))) [.int .i64 (wrap64 (1 + (wrap64 (Int.tmod a0 8))))] from rfl) (Reps.one (show Kd.M (Kd.int .i64) _ _ _ (wrap64 (1 + (wrap64 (Int.tmod a1 8)))) [.int .i64 (wrap64 (1 + (wrap64 (Int.tmod a1 8))))] from rfl) (Reps.none _ _)))); intro v264 w9 ho10 hb hg_ hnew_; clear hg_ hnew_; (first | rw [← Ny263.out] at ho10 | (simp only [Int.reduceToNat] at ho10; rw [← Ny263.out] at ho10)); have n0_ := mk0 (Kd.R_lower ho10 (below_size (uL HB.out))); have n1_ := mk0 (below_step (uL HB.out) hb); clear HB; have HO265 := n0_; have HB := n1_; clear n0_ n1_; clear hb ho10; obtain ⟨Ao11, co11, eo11⟩ := Kd.R_slice HO265.out; subst eo11) | ((with_reducible refine gate_dst (N := 32) rfl ?_); refine Kd.N_lit k64 _ 64 ?hg (N' := 32) ?hd (xs := ([(⟨(⟨#[120]⟩ : ByteArray), ([] : List Int), 0, 1⟩ : S64), (⟨(⟨#[97]⟩ : ByteArray), y263, 1, wrap64 ((wrap64 (1 + (wrap64 (Int.tmod a0 8)))) * (wrap64 (1 + (wrap64 (Int.tmod a1 8)))))⟩ : S64)] : List (S64))) (inner := [.string (⟨#[120]⟩ : ByteArray), .slice none 0 0, .int .i64 0, .int .i64 1, .string (⟨#[97]⟩ : ByteArray), .slice Ao11 y263.length co11, .int .i64 1, .int .i64 (wrap64 ((wrap64 (1 + (wrap64 (Int.tmod a0 8)))) * (wrap64 (1 + (wrap64 (Int.tmod a1 8))))))]) (ok := (fun _ => True)) (okp := (fun _ => True)) ?hr ?hp (fun _ hk => hk) ((show ∀ k_, w9.heap.size ≤ k_ → (fun _ => True) k_ from fun k_ hk => trivial) _ (Nat.le_refl _)) (Below.refl _ _) (Nat.le_refl _) (by simp) ?_; (case hd => rfl); (case hg => rfl); (case hr => first | (go_simp; done) | (go_simp; rfl)); (case hp => exact (Reps.c4 (show Kd.FK k64 _ _ (⟨(⟨#[120]⟩ : ByteArray), ([] : List Int), 0, 1⟩ : S64) [.string (⟨#[120]⟩ : ByteArray), .slice none 0 0, .int .i64 0, .int .i64 1] from (k64_mkF _ _ (⟨(⟨#[120]⟩ : ByteArray), ([] : List Int), 0, 1⟩ : S64) (Nat.le_refl _) (Kd.F_nil _ _ _))) (Reps.c4 (show Kd.FK k64 _ _ (⟨(⟨#[97]⟩ : ByteArray), y263, 1, wrap64 ((wrap64 (1 + (wrap64 (Int.tmod a0 8)))) * (wrap64 (1 + (wrap64 (Int.tmod a1 8)))))⟩ : S64) [.string (⟨#[97]⟩ : ByteArray), .slice Ao11 y263.length co11, .int .i64 1, .int .i64 (wrap64 ((wrap64 (1 + (wrap64 (Int.tmod a0 8)))) * (wrap64 (1 + (wrap64 (Int.tmod a1 8))))))] from (k64_mkF _ _ (⟨(⟨#[97]⟩ : ByteArray), y263, 1, wrap64 ((wrap64 (1 + (wrap64 (Int.tmod a0 8)))) * (wrap64 (1 + (wrap64 (Int.tmod a1 8)))))⟩ : S64) (Kd.R_reads' (Kd.R_mono (ok' := (fun _ => True)) (HO265.out) (fun k_ hk => trivial))).2.1 (Kd.R_F (Kd.R_mono (ok' := (fun _ => True)) (HO265.out) (fun k_ hk => trivial))))) (Reps.none _ _)))); intro v267 w12 ho13 hb hg_ hnew_; clear hg_ hnew_; (first | rw [← Ny266.out] at ho13 | (simp only [Int.reduceToNat] at ho13; rw [← Ny266.out] at ho13)); have n0_ := mk0 (Kd.N_lower ho13 (below_size (uL HB.out))); have n1_ := mk0 (below_step (uL HB.out) hb); clear HB; clear HO265; have HO268 := n0_; have HB := n1_; clear n0_ n1_; clear hb ho13; obtain ⟨Ao14, co14, eo14⟩ := Kd.N_slice HO268.out; subst eo14) | ((with_reducible refine gate_dst (N := 7) rfl ?_); refine box_event ?hg (N := 7) ?hd (cs := #[.slice none 0 0, .int .i64 0]) (t := 46) ?hr ?_; (case hd => rfl); (case hg => rfl); (case hr => first | (go_simp; done) | (go_simp; rfl)); intro gb269 hg w15 hbox hb; have n0_ := mk0 (Kd.N_below (Kd.N_elderB (uN HO268.out) gb269 (Nat.le_of_eq hg.symm)) hb); have n1_ := mk0 (below_step (uL HB.out) hb); have n2_ := mk0 (hbox); have n3_ := mk0 ((by rw [hg]; exact (below_size (uL HB.out)) : w.heap.size ≤ gb269)); have n4_ := mk0 ((by rw [hg]; exact (below_size (uL HB.out)) : w.heap.size ≤ gb269)); clear HO268; clear HB; have HO268 := n0_; have HB := n1_; have BK269 := n2_; have GW269 := n3_; have GE269 := n4_; clear n0_ n1_ n2_ n3_ n4_; clear hb hbox hg; have hcz16_0 : w15.cell? ⟨gb269, 0, none⟩ = some (.slice none 0 0) := (blk_cell BK269.out 0).trans rfl; have hcz16_1 : w15.cell? ⟨gb269, 1, none⟩ = some (.int .i64 0) := (blk_cell BK269.out 1).trans rfl; have hfz16_0 := blk_frozen BK269.out 0; have hfz16_1 := blk_frozen BK269.out 1) | ((with_reducible refine gate_dst (N := 40) rfl ?_); refine Kd.R_make (Kd.int .i64) _ 2 rfl (N := 40) rfl 38 _ _ rfl ji5 rfl rfl Tryd.underlying38 (.int .i64 0) 8 info2 rfl (by decide) (by omega) 0 (ok := fun _ => True) (okp := fun _ => True) rfl (fun _ hk => hk) trivial (of_decide_eq_true (by first | (with_reducible assumption) | assumption)) (Nat.le_trans (Nat.mul_le_mul_right _ (of_decide_eq_true (by first | (with_reducible assumption) | assumption) : ji5.toNat ≤ 35184372088832)) (by omega)) (Below.refl _ _) (Nat.le_refl _) ?_; intro v271 w17 ho18 hb hg_ hnew_; clear hg_ hnew_; (first | rw [← Ny270.out] at ho18 | (simp only [Int.reduceToNat] at ho18; rw [← Ny270.out] at ho18)); have n0_ := mk0 (Kd.N_elder' (uN (Kd.N_mono (Kd.N_far (p := ⟨gb269, 1, none⟩) (Kd.N_far (p := ⟨gb269, 0, none⟩) (Kd.N_mono HO268.out (fun k_ hk => (⟨hk, hk.2⟩ : _ ∧ k_ ≠ gb269))) (fun _ hk => hk.2) (.slice Ao14 y266.length co14)) (fun _ hk => hk.2) (.int .i64 ji5)) (fun _ h_ => h_.1))) (Kd.R_base ho18) hb); have n1_ := mk0 (Kd.R_lower ho18 (below_size (by repeat (first | (with_reducible first | exact HB.out | apply bA | apply bN | apply bD | refine bS ?_ (by assumption)) | exact HB.out)))); have n2_ := mk0 (blk_below (g := gb269) (o := .cells #[.slice Ao14 y266.length co14, .int .i64 ji5] 46 (0, 0)) (by (with_reducible repeat (first | refine blk_drewN ?_ _ | refine blk_drew ?_ | refine blk_alloc ?_ _)); refine blk_put (cs := #[.slice Ao14 y266.length co14, .int .i64 0]) ?_ 1 _ rfl; (with_reducible repeat (first | refine blk_drewN ?_ _ | refine blk_drew ?_ | refine blk_alloc ?_ _)); refine blk_put (cs := #[.slice none 0 0, .int .i64 0]) ?_ 0 _ rfl; (with_reducible repeat (first | refine blk_drewN ?_ _ | refine blk_drew ?_ | refine blk_alloc ?_ _)); exact BK269.out) hb); have n3_ := mk0 (below_step (by repeat (first | (with_reducible first | exact HB.out | apply bA | apply bN | apply bD | refine bS ?_ (by assumption)) | exact HB.out)) hb); clear HO268; clear BK269; clear HB; have HO268 := n0_; have HO272 := n1_; have BK269 := n2_; have HB := n3_; clear n0_ n1_ n2_ n3_; clear hb ho18))
    go_loopg [9, 10] k (fun kq v9 v10 w' => ∃ (x9_1 : Int) (x10_1 : Int), v9 = .int .i64 x9_1 ∧ v10 = .int .i64 x10_1 ∧ Aside0 (furrowlaw9_EvalCells.l0 kq (wrap64 (1 + (wrap64 (Int.tmod a0 8)))) (wrap64 (1 + (wrap64 (Int.tmod a1 8)))) y270 x9_1 x10_1 y266 ji5 = some true) ∧ Aside0 (kq ≤ k) ∧ Aside0 (Kd.R (Kd.int .i64) 2 w' w.heap.size (fun _ => True) v271 y270) ∧ Aside0 (Kd.N k64 64 w' w.heap.size (fun k_ => some k_ ≠ (v271 : Value).ownBlock ∧ k_ ≠ gb269) (.slice Ao14 y266.length co14) y266) ∧ Aside0 (w'.heap[gb269]? = some (.cells #[(.slice Ao14 y266.length co14), .int .i64 ji5] 46 (0, 0))) ∧ Aside0 (Below w.heap.size w w'))
    case atStart => exact ⟨(1), (1), (by first | rfl | (simp; done) | (simp [*]; done) | (simp [bne_nil_, beq_nil_]; done)), (by first | rfl | (simp; done) | (simp [*]; done) | (simp [bne_nil_, beq_nil_]; done)), H', ⟨Nat.le_refl _⟩, ⟨uR HO272.out⟩, ⟨uN (Kd.N_mono HO268.out (fun _ hk => ⟨hk.2, hk.1.2⟩))⟩, ⟨uB BK269.out⟩, ⟨by repeat (first | (with_reducible first | exact HB.out | apply bA | apply bN | apply bD | refine bS ?_ (by assumption)) | exact HB.out)⟩⟩
    case round =>
     clear H'
     try clear p2
     try clear c4
     try clear c5
     try clear c6
     try clear c6b0
     try clear c6b1
     try clear p6
     try clear c7
     try clear c7b0
     try clear c7b1
     try clear hcz16_0
     try clear hcz16_1
     try clear hfz16_0
     try clear hfz16_1
     obtain ⟨x9_1, x10_1, rfl, rfl, HA, HK1, HO_8, HO_270000, BK269, HB⟩ := hrel
     cases gk with
     | zero => exact absurd HA.out (by simp [furrowlaw9_EvalCells.l0])
     | succ k1 =>
      have H := HA.out
      clear HA
      simp only [furrowlaw9_EvalCells.l0] at H
      by_cases c19 : x10_1 ≤ (wrap64 (1 + (wrap64 (Int.tmod a1 8))))
      ·rw [if_pos c19] at H
       have c19b0 : decide (x10_1 ≤ (wrap64 (1 + (wrap64 (Int.tmod a1 8))))) = true := decide_eq_true c19
       clear c19
       have H' := mk0 H
       clear H
       go_wp2
       go_loopg [9, 11] k1 (fun kq v9 v11 w' => ∃ (x9_2 : Int) (x11_2 : Int), v9 = .int .i64 x9_2 ∧ v11 = .int .i64 x11_2 ∧ Aside0 (furrowlaw9_EvalCells.l1 kq (wrap64 (1 + (wrap64 (Int.tmod a0 8)))) (wrap64 (1 + (wrap64 (Int.tmod a1 8)))) y270 x9_2 x10_1 x11_2 y266 ji5 = some true) ∧ Aside0 (kq ≤ k1) ∧ Aside0 (Kd.R (Kd.int .i64) 2 w' w.heap.size (fun _ => True) v271 y270) ∧ Aside0 (Kd.N k64 64 w' w.heap.size (fun k_ => some k_ ≠ (v271 : Value).ownBlock ∧ k_ ≠ gb269) (.slice Ao14 y266.length co14) y266) ∧ Aside0 (w'.heap[gb269]? = some (.cells #[(.slice Ao14 y266.length co14), .int .i64 ji5] 46 (0, 0))) ∧ Aside0 (Below w.heap.size w w'))
       case atStart => exact ⟨(x9_1), (1), (by first | rfl | (simp; done) | (simp [*]; done) | (simp [bne_nil_, beq_nil_]; done)), (by first | rfl | (simp; done) | (simp [*]; done) | (simp [bne_nil_, beq_nil_]; done)), H', ⟨Nat.le_refl _⟩, ⟨uR HO_8.out⟩, ⟨uN HO_270000.out⟩, ⟨uB BK269.out⟩, ⟨by repeat (first | (with_reducible first | exact HB.out | apply bA | apply bN | apply bD | refine bS ?_ (by assumption)) | exact HB.out)⟩⟩
       case round =>
        clear H'
        try clear c1
        try clear p2
        try clear c4
        try clear c5
        try clear c6
        try clear c6b0
        try clear c6b1
        try clear p6
        try clear c7
        try clear c7b0
        try clear c7b1
        try clear c19
        try clear c19b0
        try clear hcz16_0
        try clear hcz16_1
        try clear hfz16_0
        try clear hfz16_1
        try clear p2
        try clear p6
        obtain ⟨x9_2, x11_2, rfl, rfl, HA, HK2, HO_8, HO_270000, BK269, HB⟩ := hrel
        cases gk with
        | zero => exact absurd HA.out (by simp [furrowlaw9_EvalCells.l1])
        | succ k2 =>
         have H := HA.out
         clear HA
         simp only [furrowlaw9_EvalCells.l1] at H
         by_cases c20 : x11_2 ≤ (wrap64 (1 + (wrap64 (Int.tmod a0 8))))
         ·rw [if_pos c20] at H
          have c20b0 : decide (x11_2 ≤ (wrap64 (1 + (wrap64 (Int.tmod a0 8))))) = true := decide_eq_true c20
          clear c20
          obtain ⟨y273, hy273⟩ : ∃ y_ : List (S24), y_ = (([(⟨1, x11_2, (⟨#[]⟩ : ByteArray), ([] : List (S24))⟩ : S24), (⟨1, x10_1, (⟨#[]⟩ : ByteArray), ([] : List (S24))⟩ : S24)] : List (S24))) := ⟨_, rfl⟩
          replace H : ((eval_Place.f k2 y266 ji5 y270 3 0 (⟨#[97]⟩ : ByteArray) y273).bind fun bt276 => (if (bt276.2.length : Int) = 0 then (if bt276.1 = x9_2 then (furrowlaw9_EvalCells.l1 k2 (wrap64 (1 + (wrap64 (Int.tmod a0 8)))) (wrap64 (1 + (wrap64 (Int.tmod a1 8)))) y270 (wrap64 (x9_2 + 1)) x10_1 (wrap64 (x11_2 + 1)) y266 ji5) else (some false)) else (some false))) = some true := by first | (rw [hy273]; with_reducible exact H) | (have H2_ := (Option.bind_some _ _).symm.trans H; rw [hy273]; with_reducible exact H2_) | (have H2_ := (Option.bind_some _ _).symm.trans H; with_reducible exact H2_) | with_reducible exact H | (rw [hy273]; exact H) | exact H
          have Ny273 := mk0 hy273
          clear hy273
          replace H := Option.bind_eq_some_iff.mp H
          obtain ⟨⟨t276, t277⟩, A210, H⟩ := H
          replace H : (if (t277.length : Int) = 0 then (if t276 = x9_2 then (furrowlaw9_EvalCells.l1 k2 (wrap64 (1 + (wrap64 (Int.tmod a0 8)))) (wrap64 (1 + (wrap64 (Int.tmod a1 8)))) y270 (wrap64 (x9_2 + 1)) x10_1 (wrap64 (x11_2 + 1)) y266 ji5) else (some false)) else (some false)) = some true := H
          have A21 := mk0 A210
          clear A210
          by_cases c22 : (t277.length : Int) = 0
          ·rw [if_pos c22] at H
           have c22b0 : ((t277.length : Int) == 0) = true := beq_iff_eq.mpr c22
           have c22b1 : ((t277.length : Int) != 0) = false := bne_eq_false_iff_eq.mpr c22
           clear c22
           by_cases c23 : t276 = x9_2
           ·rw [if_pos c23] at H
            have c23b0 : (t276 == x9_2) = true := beq_iff_eq.mpr c23
            have c23b1 : (t276 != x9_2) = false := bne_eq_false_iff_eq.mpr c23
            clear c23
            have H' := mk0 H
            clear H
            have hcz24_0 : wr.cell? ⟨gb269, 0, none⟩ = some (.slice Ao14 y266.length co14) := (blk_cell BK269.out 0).trans rfl
            have hcz24_1 : wr.cell? ⟨gb269, 1, none⟩ = some (.int .i64 ji5) := (blk_cell BK269.out 1).trans rfl
            have hfz24_0 := blk_frozen BK269.out 0
            have hfz24_1 := blk_frozen BK269.out 1
            go_wp2_with (first | ((with_reducible refine gate_dst (N := 58) rfl ?_); refine Kd.N_lit k24 _ 24 ?hg (N' := 58) ?hd (xs := ([(⟨1, x11_2, (⟨#[]⟩ : ByteArray), ([] : List (S24))⟩ : S24), (⟨1, x10_1, (⟨#[]⟩ : ByteArray), ([] : List (S24))⟩ : S24)] : List (S24))) (inner := [.int .i64 1, .int .i64 x11_2, .string (⟨#[]⟩ : ByteArray), .slice none 0 0, .int .i64 1, .int .i64 x10_1, .string (⟨#[]⟩ : ByteArray), .slice none 0 0]) (ok := (fun k_ => some k_ ≠ (v271 : Value).ownBlock ∧ some k_ ≠ (.slice Ao14 y266.length co14 : Value).ownBlock ∧ k_ ≠ gb269)) (okp := (fun k_ => some k_ ≠ (v271 : Value).ownBlock ∧ some k_ ≠ (.slice Ao14 y266.length co14 : Value).ownBlock ∧ k_ ≠ gb269)) ?hr ?hp (fun _ hk => hk) ((show ∀ k_, wr.heap.size ≤ k_ → (fun k_ => some k_ ≠ (v271 : Value).ownBlock ∧ some k_ ≠ (.slice Ao14 y266.length co14 : Value).ownBlock ∧ k_ ≠ gb269) k_ from fun k_ hk => ⟨Kd.fresh' (Kd.R_lt (uR HO_8.out)) k_ hk, Kd.fresh' (Kd.N_lt (uN HO_270000.out)) k_ hk, Kd.freshB (g := gb269) (o := .cells #[.slice Ao14 y266.length co14, .int .i64 ji5] 46 (0, 0)) (uB BK269.out) k_ hk⟩) _ (Nat.le_refl _)) (Below.refl _ _) (Nat.le_refl _) (by simp) ?_; (case hd => rfl); (case hg => rfl); (case hr => first | (go_simp; done) | (go_simp; rfl)); (case hp => exact (Reps.c4 (show Kd.FK k24 _ _ (⟨1, x11_2, (⟨#[]⟩ : ByteArray), ([] : List (S24))⟩ : S24) [.int .i64 1, .int .i64 x11_2, .string (⟨#[]⟩ : ByteArray), .slice none 0 0] from (k24_mkF _ _ (⟨1, x11_2, (⟨#[]⟩ : ByteArray), ([] : List (S24))⟩ : S24) (Nat.le_refl _) (Kd.F_nil _ _ _))) (Reps.c4 (show Kd.FK k24 _ _ (⟨1, x10_1, (⟨#[]⟩ : ByteArray), ([] : List (S24))⟩ : S24) [.int .i64 1, .int .i64 x10_1, .string (⟨#[]⟩ : ByteArray), .slice none 0 0] from (k24_mkF _ _ (⟨1, x10_1, (⟨#[]⟩ : ByteArray), ([] : List (S24))⟩ : S24) (Nat.le_refl _) (Kd.F_nil _ _ _))) (Reps.none _ _)))); intro v274 w25 ho26 hb hg_ hnew_; clear hg_ hnew_; (first | rw [← Ny273.out] at ho26 | (simp only [Int.reduceToNat] at ho26; rw [← Ny273.out] at ho26)); have n0_ := mk0 (Kd.R_below (uR HO_8.out) hb); have n1_ := mk0 (Kd.N_elder' (uN HO_270000.out) (Kd.N_base ho26) hb); have n2_ := mk0 (Kd.N_lower ho26 (below_size (by repeat (first | (with_reducible first | exact HB.out | apply bA | apply bN | apply bD | refine bS ?_ (by assumption)) | exact HB.out)))); have n3_ := mk0 (blk_below (g := gb269) (o := .cells #[.slice Ao14 y266.length co14, .int .i64 ji5] 46 (0, 0)) (uB BK269.out) hb); have n4_ := mk0 (below_step (by repeat (first | (with_reducible first | exact HB.out | apply bA | apply bN | apply bD | refine bS ?_ (by assumption)) | exact HB.out)) hb); clear HO_8; clear HO_270000; clear BK269; clear HB; have HO_8 := n0_; have HO_270000 := n1_; have HO275 := n2_; have BK269 := n3_; have HB := n4_; clear n0_ n1_ n2_ n3_ n4_; clear hb ho26; obtain ⟨Ao27, co27, eo27⟩ := Kd.N_slice HO275.out; subst eo27; obtain ⟨Ao28, co28, eo28⟩ := Kd.R_slice HO_8.out; subst eo28) | ((with_reducible refine gate_callee (f := 18) rfl ?_); refine goesL_ (some 60) rfl rfl Tryd.func18 (by kernel_rfl) rfl #[.agg #[.slice Ao14 y266.length co14, .int .i64 ji5], .slice Ao28 y270.length co28, .agg #[.int .i64 3, .int .i64 0, .string (⟨#[97]⟩ : ByteArray), .slice Ao27 y273.length co27]] rfl (by (try simp only [List.map_toArray, List.map_cons, List.map_nil]); first | done | (simp only [hji5]; rfl) | rfl | (simp only [List.length_drop, List.length_take]; rfl)) ?_; (with_reducible refine (eval_Place.calls k2 _ _ y266 ji5 _ _ y270 3 0 (⟨#[97]⟩ : ByteArray) _ _ y273 t276 t277 _ ?side1 ?side2 ?side3 ?side4 ?side5 ?side6 A21.out).mono ?_); (case side1 => repeat (first | exact (Kd.N_reads' HO_270000.out).2.2 | (with_reducible refine Kd.C_alloc ?_ _) | (with_reducible refine Kd.C_drewN ?_ _) | (with_reducible refine Kd.C_drew ?_))); (case side2 => exact (Kd.N_reads' HO_270000.out).2.1); (case side3 => repeat (first | exact (Kd.R_reads' HO_8.out).2.2 | (with_reducible refine Kd.C_alloc ?_ _) | (with_reducible refine Kd.C_drewN ?_ _) | (with_reducible refine Kd.C_drew ?_))); (case side4 => exact (Kd.R_reads' HO_8.out).2.1); (case side5 => repeat (first | exact (Kd.N_reads' HO275.out).2.2 | (with_reducible refine Kd.C_alloc ?_ _) | (with_reducible refine Kd.C_drewN ?_ _) | (with_reducible refine Kd.C_drew ?_))); (case side6 => exact (Kd.N_reads' HO275.out).2.1); rintro e w29 ⟨v278, rfl, ho0, hb⟩; refine ⟨_, rfl, ?_⟩; have n0_ := mk0 (Kd.R_below (uR HO_8.out) hb); have n1_ := mk0 (Kd.N_elder' (uN HO_270000.out) (Kd.R_base ho0) hb); have n2_ := mk0 (Kd.N_elder' (uN HO275.out) (Kd.R_base ho0) hb); have n3_ := mk0 (Kd.R_lower ho0 (below_size (by repeat (first | (with_reducible first | exact HB.out | apply bA | apply bN | apply bD | refine bS ?_ (by assumption)) | exact HB.out)))); have n4_ := mk0 (blk_below (g := gb269) (o := .cells #[.slice Ao14 y266.length co14, .int .i64 ji5] 46 (0, 0)) (uB BK269.out) hb); have n5_ := mk0 (below_step (by repeat (first | (with_reducible first | exact HB.out | apply bA | apply bN | apply bD | refine bS ?_ (by assumption)) | exact HB.out)) hb); clear HO_8; clear HO_270000; clear HO275; clear BK269; clear HB; have HO_8 := n0_; have HO_270000 := n1_; have HO275 := n2_; have HO279 := n3_; have BK269 := n4_; have HB := n5_; clear n0_ n1_ n2_ n3_ n4_ n5_; (try clear hb); (try clear hb2); (try clear hk); (try clear hi); (try clear ho0); (first | (have EHO279 := cmpV_no HO279.out (by with_reducible assumption)) | (have EHO279 := cmpV_yes HO279.out (by with_reducible assumption)) | skip)))
            go_roundg k2
            case measure => have := HK1.out; have := HK2.out; omega
            case rel => exact ⟨(wrap64 (x9_2 + 1)), (wrap64 (x11_2 + 1)), (by first | rfl | (simp; done) | (simp [*]; done) | (simp [bne_nil_, beq_nil_]; done)), (by first | rfl | (simp; done) | (simp [*]; done) | (simp [bne_nil_, beq_nil_]; done)), H', ⟨by have := HK1.out; have := HK2.out; omega⟩, ⟨uR HO_8.out⟩, ⟨uN (Kd.N_mono HO_270000.out (fun _ hk => ⟨hk.1.1.1, hk.1.1.2⟩))⟩, ⟨uB BK269.out⟩, ⟨by repeat (first | (with_reducible first | exact HB.out | apply bA | apply bN | apply bD | refine bS ?_ (by assumption)) | exact HB.out)⟩⟩
           ·rw [if_neg c23] at H
            have c23b0 : (t276 == x9_2) = false := beq_eq_false_iff_ne.mpr c23
            have c23b1 : (t276 != x9_2) = true := bne_iff_ne.mpr c23
            exact absurd H (by simp)
          ·rw [if_neg c22] at H
           have c22b0 : ((t277.length : Int) == 0) = false := beq_eq_false_iff_ne.mpr c22
           have c22b1 : ((t277.length : Int) != 0) = true := bne_iff_ne.mpr c22
           have c22b2 : ¬ (t277 = []) := fun h_ => c22 (by rw [h_]; rfl)
           exact absurd H (by simp)
         ·rw [if_neg c20] at H
          have c20b0 : decide (x11_2 ≤ (wrap64 (1 + (wrap64 (Int.tmod a0 8))))) = false := decide_eq_false c20
          clear c20
          have H' := mk0 H
          clear H
          go_wp2
          go_roundg k2
          case measure => have := HK1.out; have := HK2.out; omega
          case rel => exact ⟨(x9_2), (wrap64 (x10_1 + 1)), (by first | rfl | (simp; done) | (simp [*]; done) | (simp [bne_nil_, beq_nil_]; done)), (by first | rfl | (simp; done) | (simp [*]; done) | (simp [bne_nil_, beq_nil_]; done)), H', ⟨by have := HK1.out; have := HK2.out; omega⟩, ⟨uR HO_8.out⟩, ⟨uN HO_270000.out⟩, ⟨uB BK269.out⟩, ⟨by repeat (first | (with_reducible first | exact HB.out | apply bA | apply bN | apply bD | refine bS ?_ (by assumption)) | exact HB.out)⟩⟩
      ·rw [if_neg c19] at H
       have c19b0 : decide (x10_1 ≤ (wrap64 (1 + (wrap64 (Int.tmod a1 8))))) = false := decide_eq_false c19
       clear c19
       have HT := mk0 (Option.some.inj H)
       clear H
       go_wp2
       go_ret
       exact ⟨by first | rfl | (simp [errW_none, errW_some] <;> rfl) | (simp only [← hji5]; first | rfl | (simp [errW_none, errW_some] <;> rfl)) | (exact congrArg (fun b_ => Ending.returned (Value.bool b_)) HT.out) | (rw [show _ = _ from HT.out]) | (simp [HT.out]; done) | (simp [show _ = _ from HT.out]; done) | (simp [*, errW_none, errW_some] <;> rfl), by repeat (first | (with_reducible first | exact HB.out | apply bA | apply bN | apply bD | refine bS ?_ (by assumption)) | exact HB.out)⟩
   ·rw [if_neg c7] at H
    exact absurd H (by simp)
  ·rw [if_neg c6] at H
   exact absurd H (by simp)
 ·replace c4 := Bool.eq_false_iff.mpr c4
  subst c4
  have H1 : (some false) = some true := by rw [if_neg (show ¬ (false = true) by decide)] at H; first | done | exact H
  clear H
  have H := H1
  clear H1
  exact absurd H (by simp)

/-- THE ONE PURE STATEMENT of furrowlaw9_EvalCells: yours. -/
def furrowlaw9_EvalCells.Pure : Prop := ∀ (a0 : Int) (a1 : Int), (Lit.int .u8 a0).wf = true → (Lit.int .u8 a1).wf = true → ∃ k, furrowlaw9_EvalCells.f k a0 a1 = some true
theorem furrowlaw9_EvalCells.walk (P : furrowlaw9_EvalCells.Pure) (a0 : Int) (a1 : Int) (w : World) (w0 : (Lit.int .u8 a0).wf = true) (w1 : (Lit.int .u8 a1).wf = true) (hG : Glob w) :
  Calls Tryd.prog 5 #[.int .u8 a0, .int .u8 a1] w fun e w' => e = .returned (.bool true) ∧ Below w.heap.size w w' := by
 obtain ⟨k, h⟩ := P a0 a1 w0 w1
 refine (furrowlaw9_EvalCells.calls k a0 a1  w hG h).mono ?_
 rintro e w' ⟨rfl, hd⟩
 exact ⟨rfl, hd⟩

end Go.Proofs.YtmhkijidnpihmaaDoor.X
