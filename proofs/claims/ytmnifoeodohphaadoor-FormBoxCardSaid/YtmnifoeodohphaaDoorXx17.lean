-- PRINTED by print.py (a twelfth state) out of the translation. Not trusted: Lean checks it.
import Derived.Test.YtmnifoeodohphaaDoorXx0
import Derived.Test.YtmnifoeodohphaaDoorXx11
import Derived.Test.YtmnifoeodohphaaDoorXx13
namespace Go.Proofs.YtmnifoeodohphaaDoor.X
open Go.Proofs.YtmnifoeodohphaaDoor.Flt Go.Proofs.YtmnifoeodohphaaDoor.H Go.RowKit Go.Proofs.YtmnifoeodohphaaDoorW.PrintWords Go.Proofs.YtmnifoeodohphaaDoorW.PrintLast Go.Proofs.YtmnifoeodohphaaDoorW.PrintMore
attribute [local go_sem] max2_int min2_int max_two min_two max_three min_three max_four min_four   -- for this text's walks alone
set_option linter.unusedVariables false
set_option linter.unusedSimpArgs false

/-! ### furrowlaw11_FormBox: function 6 -/
mutual
def furrowlaw11_FormBox.j0 : Nat → List Int → Int → List Int → List Int → Bool → Option (Bool)
 | 0, _, _, _, _, _ => none
 | k + 1, x0, x1, x2, x3, x41 => if x41 = true then (some true) else (furrowlaw11_FormBox.l0 k x0 x2 x3 ([] : List Int) ([] : List Int) 0 ([] : List Int) (wrap64 (x1)))
def furrowlaw11_FormBox.l0 : Nat → List Int → List Int → List Int → List Int → List Int → Int → List Int → Int → Option (Bool)
 | 0, _, _, _, _, _, _, _, _ => none
 | k + 1, x0, x2, x3, x10, x11, x12, x587000, x587001 => if x12 < (x0.length : Int) then (if 0 ≤ x12 then (if x587000.length < 17592186044416 then (if x12 < (x2.length : Int) then (if x10.length < 17592186044416 then (if x12 < (x3.length : Int) then (if x11.length < 17592186044416 then (furrowlaw11_FormBox.l0 k x0 x2 x3 (x10 ++ [wrap64 (rd x2 x12)]) (x11 ++ [wrap64 ((wrap64 (rd x2 x12)) + (wrap64 (Int.tmod (rd x3 x12) 6)))]) (wrap64 (x12 + 1)) (x587000 ++ [wrap64 (rd x0 x12)]) x587001) else (none)) else (none)) else (none)) else (none)) else (none)) else (none)) else ((lin_Range.f k x587000 x587001 x10 x11).bind fun bt600 => (if (bt600.2.2.length : Int) = 0 then ((some (([] : List Int) : List Int)).bind fun y605 => (if y605.length + x10.length < 17592186044416 then (furrowlaw11_FormBox.l1 k x10 x11 bt600.1 bt600.2.1 (y605 ++ x10) 4611686018427387904 (-4611686018427387904) true x587000 x587001) else (none))) else (some false)))
def furrowlaw11_FormBox.l1 : Nat → List Int → List Int → Int → Int → List Int → Int → Int → Bool → List Int → Int → Option (Bool)
 | 0, _, _, _, _, _, _, _, _, _, _ => none
 | k + 1, x10, x11, x13, x14, x16, x17, x18, x19, x587000, x587001 => if x19 = true then (furrowlaw11_FormBox.l2 k x10 x11 x13 x14 x16 x17 x18 x587001 0 x587000 x587001) else (if x13 = x17 then (some (x14 == x18)) else (some false))
def furrowlaw11_FormBox.l2 : Nat → List Int → List Int → Int → Int → List Int → Int → Int → Int → Int → List Int → Int → Option (Bool)
 | 0, _, _, _, _, _, _, _, _, _, _, _ => none
 | k + 1, x10, x11, x13, x14, x16, x17, x18, x20, x21, x587000, x587001 => if x21 < (x16.length : Int) then (if 0 ≤ x21 then (if x21 < (x587000.length : Int) then (furrowlaw11_FormBox.l2 k x10 x11 x13 x14 x16 x17 x18 (wrap64 (x20 + (wrap64 ((rd x587000 x21) * (rd x16 x21))))) (wrap64 (x21 + 1)) x587000 x587001) else (none)) else (none)) else (furrowlaw11_FormBox.l3 k x10 x11 x13 x14 x16 (mn x17 x20) (mx x18 x20) false 0 x587000 x587001)
def furrowlaw11_FormBox.l3 : Nat → List Int → List Int → Int → Int → List Int → Int → Int → Bool → Int → List Int → Int → Option (Bool)
 | 0, _, _, _, _, _, _, _, _, _, _, _ => none
 | k + 1, x10, x11, x13, x14, x16, x17, x18, x19, x22, x587000, x587001 => if x22 < (x16.length : Int) then (if 0 ≤ x22 then (if x22 < (x11.length : Int) then (if (rd x16 x22) < (rd x11 x22) then (furrowlaw11_FormBox.l1 k x10 x11 x13 x14 (x16.set (x22 : Int).toNat (wrap64 ((rd x16 x22) + 1))) x17 x18 true x587000 x587001) else (if x22 < (x10.length : Int) then (furrowlaw11_FormBox.l3 k x10 x11 x13 x14 (x16.set (x22 : Int).toNat (rd x10 x22)) x17 x18 x19 (wrap64 (x22 + 1)) x587000 x587001) else (none))) else (none)) else (none)) else (furrowlaw11_FormBox.l1 k x10 x11 x13 x14 x16 x17 x18 x19 x587000 x587001)
end
def furrowlaw11_FormBox.f (k : Nat) (l0 : List Int) (a1 : Int) (l2 : List Int) (l3 : List Int) : Option (Bool) := (furrowlaw11_known.f k).bind fun t585 => (if t585 = true then (if (l0.length : Int) > 3 then (furrowlaw11_FormBox.j0 k l0 a1 l2 l3 true) else (if (l2.length : Int) < (l0.length : Int) then (furrowlaw11_FormBox.j0 k l0 a1 l2 l3 true) else (furrowlaw11_FormBox.j0 k l0 a1 l2 l3 (decide ((l3.length : Int) < (l0.length : Int)))))) else (some false))
theorem furrowlaw11_FormBox.mono_l : ∀ k, (∀ y0 y1 y2 y3 y4, LeO (furrowlaw11_FormBox.j0 k y0 y1 y2 y3 y4) (furrowlaw11_FormBox.j0 (k + 1) y0 y1 y2 y3 y4)) ∧ (∀ y0 y1 y2 y3 y4 y5 y6 y7, LeO (furrowlaw11_FormBox.l0 k y0 y1 y2 y3 y4 y5 y6 y7) (furrowlaw11_FormBox.l0 (k + 1) y0 y1 y2 y3 y4 y5 y6 y7)) ∧ (∀ y0 y1 y2 y3 y4 y5 y6 y7 y8 y9, LeO (furrowlaw11_FormBox.l1 k y0 y1 y2 y3 y4 y5 y6 y7 y8 y9) (furrowlaw11_FormBox.l1 (k + 1) y0 y1 y2 y3 y4 y5 y6 y7 y8 y9)) ∧ (∀ y0 y1 y2 y3 y4 y5 y6 y7 y8 y9 y10, LeO (furrowlaw11_FormBox.l2 k y0 y1 y2 y3 y4 y5 y6 y7 y8 y9 y10) (furrowlaw11_FormBox.l2 (k + 1) y0 y1 y2 y3 y4 y5 y6 y7 y8 y9 y10)) ∧ (∀ y0 y1 y2 y3 y4 y5 y6 y7 y8 y9 y10, LeO (furrowlaw11_FormBox.l3 k y0 y1 y2 y3 y4 y5 y6 y7 y8 y9 y10) (furrowlaw11_FormBox.l3 (k + 1) y0 y1 y2 y3 y4 y5 y6 y7 y8 y9 y10))
 | 0 => ⟨fun _ _ _ _ _ r h => by simp [furrowlaw11_FormBox.j0] at h, fun _ _ _ _ _ _ _ _ r h => by simp [furrowlaw11_FormBox.l0] at h, fun _ _ _ _ _ _ _ _ _ _ r h => by simp [furrowlaw11_FormBox.l1] at h, fun _ _ _ _ _ _ _ _ _ _ _ r h => by simp [furrowlaw11_FormBox.l2] at h, fun _ _ _ _ _ _ _ _ _ _ _ r h => by simp [furrowlaw11_FormBox.l3] at h⟩
 | k + 1 => by
  obtain ⟨ih0, ih1, ih2, ih3, ih4⟩ := furrowlaw11_FormBox.mono_l k
  refine ⟨?_, ?_, ?_, ?_, ?_⟩
  ·intro y0 y1 y2 y3 y4
   unfold furrowlaw11_FormBox.j0
   repeat' first
   | (with_reducible exact ih0 _ _ _ _ _)
   | (with_reducible exact ih1 _ _ _ _ _ _ _ _)
   | (with_reducible exact ih2 _ _ _ _ _ _ _ _ _ _)
   | (with_reducible exact ih3 _ _ _ _ _ _ _ _ _ _ _)
   | (with_reducible exact ih4 _ _ _ _ _ _ _ _ _ _ _)
   | (with_reducible exact furrowlaw11_known.mono _)
   | (with_reducible exact lin_Range.mono _ _ _ _ _)
   | (with_reducible exact LeO.refl _)
   | (with_reducible exact LeO.none _)
   | (with_reducible refine LeO.ite ?_ ?_)
   | (with_reducible refine LeO.bind ?_ (fun _ => ?_))
   | exact ih0 _ _ _ _ _
   | exact ih1 _ _ _ _ _ _ _ _
   | exact ih2 _ _ _ _ _ _ _ _ _ _
   | exact ih3 _ _ _ _ _ _ _ _ _ _ _
   | exact ih4 _ _ _ _ _ _ _ _ _ _ _
   | exact furrowlaw11_known.mono _
   | exact lin_Range.mono _ _ _ _ _
   | exact LeO.none _
   | refine LeO.ite ?_ ?_
   | refine LeO.bind ?_ (fun _ => ?_)
  ·intro y0 y1 y2 y3 y4 y5 y6 y7
   unfold furrowlaw11_FormBox.l0
   repeat' first
   | (with_reducible exact ih0 _ _ _ _ _)
   | (with_reducible exact ih1 _ _ _ _ _ _ _ _)
   | (with_reducible exact ih2 _ _ _ _ _ _ _ _ _ _)
   | (with_reducible exact ih3 _ _ _ _ _ _ _ _ _ _ _)
   | (with_reducible exact ih4 _ _ _ _ _ _ _ _ _ _ _)
   | (with_reducible exact furrowlaw11_known.mono _)
   | (with_reducible exact lin_Range.mono _ _ _ _ _)
   | (with_reducible exact LeO.refl _)
   | (with_reducible exact LeO.none _)
   | (with_reducible refine LeO.ite ?_ ?_)
   | (with_reducible refine LeO.bind ?_ (fun _ => ?_))
   | exact ih0 _ _ _ _ _
   | exact ih1 _ _ _ _ _ _ _ _
   | exact ih2 _ _ _ _ _ _ _ _ _ _
   | exact ih3 _ _ _ _ _ _ _ _ _ _ _
   | exact ih4 _ _ _ _ _ _ _ _ _ _ _
   | exact furrowlaw11_known.mono _
   | exact lin_Range.mono _ _ _ _ _
   | exact LeO.none _
   | refine LeO.ite ?_ ?_
   | refine LeO.bind ?_ (fun _ => ?_)
  ·intro y0 y1 y2 y3 y4 y5 y6 y7 y8 y9
   unfold furrowlaw11_FormBox.l1
   repeat' first
   | (with_reducible exact ih0 _ _ _ _ _)
   | (with_reducible exact ih1 _ _ _ _ _ _ _ _)
   | (with_reducible exact ih2 _ _ _ _ _ _ _ _ _ _)
   | (with_reducible exact ih3 _ _ _ _ _ _ _ _ _ _ _)
   | (with_reducible exact ih4 _ _ _ _ _ _ _ _ _ _ _)
   | (with_reducible exact furrowlaw11_known.mono _)
   | (with_reducible exact lin_Range.mono _ _ _ _ _)
   | (with_reducible exact LeO.refl _)
   | (with_reducible exact LeO.none _)
   | (with_reducible refine LeO.ite ?_ ?_)
   | (with_reducible refine LeO.bind ?_ (fun _ => ?_))
   | exact ih0 _ _ _ _ _
   | exact ih1 _ _ _ _ _ _ _ _
   | exact ih2 _ _ _ _ _ _ _ _ _ _
   | exact ih3 _ _ _ _ _ _ _ _ _ _ _
   | exact ih4 _ _ _ _ _ _ _ _ _ _ _
   | exact furrowlaw11_known.mono _
   | exact lin_Range.mono _ _ _ _ _
   | exact LeO.none _
   | refine LeO.ite ?_ ?_
   | refine LeO.bind ?_ (fun _ => ?_)
  ·intro y0 y1 y2 y3 y4 y5 y6 y7 y8 y9 y10
   unfold furrowlaw11_FormBox.l2
   repeat' first
   | (with_reducible exact ih0 _ _ _ _ _)
   | (with_reducible exact ih1 _ _ _ _ _ _ _ _)
   | (with_reducible exact ih2 _ _ _ _ _ _ _ _ _ _)
   | (with_reducible exact ih3 _ _ _ _ _ _ _ _ _ _ _)
   | (with_reducible exact ih4 _ _ _ _ _ _ _ _ _ _ _)
   | (with_reducible exact furrowlaw11_known.mono _)
   | (with_reducible exact lin_Range.mono _ _ _ _ _)
   | (with_reducible exact LeO.refl _)
   | (with_reducible exact LeO.none _)
   | (with_reducible refine LeO.ite ?_ ?_)
   | (with_reducible refine LeO.bind ?_ (fun _ => ?_))
   | exact ih0 _ _ _ _ _
   | exact ih1 _ _ _ _ _ _ _ _
   | exact ih2 _ _ _ _ _ _ _ _ _ _
   | exact ih3 _ _ _ _ _ _ _ _ _ _ _
   | exact ih4 _ _ _ _ _ _ _ _ _ _ _
   | exact furrowlaw11_known.mono _
   | exact lin_Range.mono _ _ _ _ _
   | exact LeO.none _
   | refine LeO.ite ?_ ?_
   | refine LeO.bind ?_ (fun _ => ?_)
  ·intro y0 y1 y2 y3 y4 y5 y6 y7 y8 y9 y10
   unfold furrowlaw11_FormBox.l3
   repeat' first
   | (with_reducible exact ih0 _ _ _ _ _)
   | (with_reducible exact ih1 _ _ _ _ _ _ _ _)
   | (with_reducible exact ih2 _ _ _ _ _ _ _ _ _ _)
   | (with_reducible exact ih3 _ _ _ _ _ _ _ _ _ _ _)
   | (with_reducible exact ih4 _ _ _ _ _ _ _ _ _ _ _)
   | (with_reducible exact furrowlaw11_known.mono _)
   | (with_reducible exact lin_Range.mono _ _ _ _ _)
   | (with_reducible exact LeO.refl _)
   | (with_reducible exact LeO.none _)
   | (with_reducible refine LeO.ite ?_ ?_)
   | (with_reducible refine LeO.bind ?_ (fun _ => ?_))
   | exact ih0 _ _ _ _ _
   | exact ih1 _ _ _ _ _ _ _ _
   | exact ih2 _ _ _ _ _ _ _ _ _ _
   | exact ih3 _ _ _ _ _ _ _ _ _ _ _
   | exact ih4 _ _ _ _ _ _ _ _ _ _ _
   | exact furrowlaw11_known.mono _
   | exact lin_Range.mono _ _ _ _ _
   | exact LeO.none _
   | refine LeO.ite ?_ ?_
   | refine LeO.bind ?_ (fun _ => ?_)
theorem furrowlaw11_FormBox.mono : ∀ a0 a1 a2 a3 k, LeO (furrowlaw11_FormBox.f k a0 a1 a2 a3) (furrowlaw11_FormBox.f (k + 1) a0 a1 a2 a3) := by
 intro a0 a1 a2 a3 k
 obtain ⟨ih0, ih1, ih2, ih3, ih4⟩ := furrowlaw11_FormBox.mono_l k
 unfold furrowlaw11_FormBox.f
 repeat' first
   | (with_reducible exact ih0 _ _ _ _ _)
   | (with_reducible exact ih1 _ _ _ _ _ _ _ _)
   | (with_reducible exact ih2 _ _ _ _ _ _ _ _ _ _)
   | (with_reducible exact ih3 _ _ _ _ _ _ _ _ _ _ _)
   | (with_reducible exact ih4 _ _ _ _ _ _ _ _ _ _ _)
   | (with_reducible exact furrowlaw11_known.mono _)
   | (with_reducible exact lin_Range.mono _ _ _ _ _)
   | (with_reducible exact LeO.refl _)
   | (with_reducible exact LeO.none _)
   | (with_reducible refine LeO.ite ?_ ?_)
   | (with_reducible refine LeO.bind ?_ (fun _ => ?_))
   | exact ih0 _ _ _ _ _
   | exact ih1 _ _ _ _ _ _ _ _
   | exact ih2 _ _ _ _ _ _ _ _ _ _
   | exact ih3 _ _ _ _ _ _ _ _ _ _ _
   | exact ih4 _ _ _ _ _ _ _ _ _ _ _
   | exact furrowlaw11_known.mono _
   | exact lin_Range.mono _ _ _ _ _
   | exact LeO.none _
   | refine LeO.ite ?_ ?_
   | refine LeO.bind ?_ (fun _ => ?_)
def furrowlaw11_FormBox.T10 : Bool × List (List Nat × List Nat) := (true, [([], []), ([0], [0]), ([], []), ([], []), ([2, 3], [2, 3]), ([4], [4]), ([5], [5]), ([6], [6]), ([1, 7], [1, 7]), ([0, 1, 2, 3, 4, 5, 6, 7, 8], []), ([9, 8, 8, 0, 1, 2, 3, 4, 5, 6, 7, 8], [8, 9])])
def furrowlaw11_FormBox.B10 : List Nat := [0, 1, 0, 0, 12, 28, 60, 124, 255, 511, 1023]
theorem furrowlaw11_FormBox.tab10 : rtab .any (opsOf Tryd.f6 10) = furrowlaw11_FormBox.T10 := by kernel_rfl
theorem furrowlaw11_FormBox.bits10 : waitsOk furrowlaw11_FormBox.T10.2 furrowlaw11_FormBox.B10 = true := by kernel_rfl
def furrowlaw11_FormBox.T12 : Bool × List (List Nat × List Nat) := (true, [([], []), ([], []), ([], []), ([1, 2], [1, 2]), ([3], [3]), ([4], [4]), ([], []), ([], []), ([6, 7], [6, 7]), ([8], [8]), ([9], [9]), ([10], [10]), ([5, 11], [5, 11]), ([12], [12]), ([0, 13], [0, 13]), ([14, 14, 0, 1, 2, 3, 4, 5, 6, 7, 8, 9, 10, 11, 12, 13, 14], [0, 14])])
def furrowlaw11_FormBox.B12 : List Nat := [0, 0, 0, 6, 14, 30, 0, 0, 192, 448, 960, 1984, 4094, 8190, 16383, 32767]
theorem furrowlaw11_FormBox.tab12 : rtab .any (opsOf Tryd.f6 12) = furrowlaw11_FormBox.T12 := by kernel_rfl
theorem furrowlaw11_FormBox.bits12 : waitsOk furrowlaw11_FormBox.T12.2 furrowlaw11_FormBox.B12 = true := by kernel_rfl
def furrowlaw11_FormBox.T24 : Bool × List (List Nat × List Nat) := (true, [([], []), ([], []), ([1], [1]), ([], []), ([2, 3], [2, 3]), ([4], [4]), ([], []), ([], []), ([6, 7], [6, 7]), ([8], [8]), ([5, 9], [5, 9]), ([0, 10], [0, 10]), ([11, 0, 1, 2, 3, 4, 5, 6, 7, 8, 9, 10, 11], [0, 11])])
def furrowlaw11_FormBox.B24 : List Nat := [0, 0, 2, 0, 14, 30, 0, 0, 192, 448, 1022, 2047, 4095]
theorem furrowlaw11_FormBox.tab24 : rtab .any (opsOf Tryd.f6 24) = furrowlaw11_FormBox.T24 := by kernel_rfl
theorem furrowlaw11_FormBox.bits24 : waitsOk furrowlaw11_FormBox.T24.2 furrowlaw11_FormBox.B24 = true := by kernel_rfl
def furrowlaw11_FormBox.T31 : Bool × List (List Nat × List Nat) := (true, [([], []), ([], []), ([0, 1], [0, 1]), ([2], [2]), ([], []), ([], []), ([4, 5], [4, 5]), ([6], [6]), ([3, 7], [3, 7])])
def furrowlaw11_FormBox.B31 : List Nat := [0, 0, 3, 7, 0, 0, 48, 112, 255]
theorem furrowlaw11_FormBox.tab31 : rtab .any (opsOf Tryd.f6 31) = furrowlaw11_FormBox.T31 := by kernel_rfl
theorem furrowlaw11_FormBox.bits31 : waitsOk furrowlaw11_FormBox.T31.2 furrowlaw11_FormBox.B31 = true := by kernel_rfl
set_option maxHeartbeats 8000000 in
set_option maxRecDepth 100000 in
theorem furrowlaw11_FormBox.calls (k : Nat) (A0 : Option Addr) (c0 : Nat) (l0 : List Int) (a1 : Int) (A2 : Option Addr) (c2 : Nat) (l2 : List Int) (A3 : Option Addr) (c3 : Nat) (l3 : List Int) (w : World) (hr0 : Kd.C (Kd.int .i8) w A0 l0.length l0) (hc0 : l0.length ≤ c0) (hr2 : Kd.C (Kd.int .i8) w A2 l2.length l2) (hc2 : l2.length ≤ c2) (hr3 : Kd.C (Kd.int .u8) w A3 l3.length l3) (hc3 : l3.length ≤ c3) (hG : Glob w) (h : furrowlaw11_FormBox.f k l0 a1 l2 l3 = some true) :
  Calls Tryd.prog 6 #[.slice A0 l0.length c0, .int .i16 a1, .slice A2 l2.length c2, .slice A3 l3.length c3] w fun e w' => e = .returned (.bool true) ∧ Below w.heap.size w w' := by
 have hu24 := Tryd.underlying24
 have HR0 := mk0 hr0
 have HC0 := mk0 hc0
 clear hr0 hc0
 have HR2 := mk0 hr2
 have HC2 := mk0 hc2
 clear hr2 hc2
 have HR3 := mk0 hr3
 have HC3 := mk0 hc3
 clear hr3 hc3
 have HG := mk0 hG
 clear hG
 have HB := mk0 (Below.refl w.heap.size w)
 have H : ((furrowlaw11_known.f k).bind fun t585 => (if t585 = true then (if (l0.length : Int) > 3 then (furrowlaw11_FormBox.j0 k l0 a1 l2 l3 true) else (if (l2.length : Int) < (l0.length : Int) then (furrowlaw11_FormBox.j0 k l0 a1 l2 l3 true) else (furrowlaw11_FormBox.j0 k l0 a1 l2 l3 (decide ((l3.length : Int) < (l0.length : Int)))))) else (some false))) = some true := h
 clear h
 replace H := Option.bind_eq_some_iff.mp H
 obtain ⟨t585, A50, H⟩ := H
 replace H : (if t585 = true then (if (l0.length : Int) > 3 then (furrowlaw11_FormBox.j0 k l0 a1 l2 l3 true) else (if (l2.length : Int) < (l0.length : Int) then (furrowlaw11_FormBox.j0 k l0 a1 l2 l3 true) else (furrowlaw11_FormBox.j0 k l0 a1 l2 l3 (decide ((l3.length : Int) < (l0.length : Int)))))) else (some false)) = some true := H
 have A5 := mk0 A50
 clear A50
 by_cases c6 : t585 = true
 ·subst c6
  have H1 : (if (l0.length : Int) > 3 then (furrowlaw11_FormBox.j0 k l0 a1 l2 l3 true) else (if (l2.length : Int) < (l0.length : Int) then (furrowlaw11_FormBox.j0 k l0 a1 l2 l3 true) else (furrowlaw11_FormBox.j0 k l0 a1 l2 l3 (decide ((l3.length : Int) < (l0.length : Int)))))) = some true := by rw [if_pos rfl] at H; first | done | exact H
  clear H
  have H := H1
  clear H1
  have HC7 := mk0 H
  clear H
  go_enter Tryd.func6, Tryd.ntmps6
  go_upto_region 3 with (first | ((with_reducible refine gate_callee (f := 9) rfl ?_); refine goesL_ (some 23) rfl rfl Tryd.func9 (by kernel_rfl) rfl #[] rfl (by (try simp only [List.map_toArray, List.map_cons, List.map_nil]); first | done | rfl | (simp only [List.length_drop, List.length_take]; rfl)) ?_; (with_reducible refine (furrowlaw11_known.calls k   _ ?side1 A5.out).mono ?_); (case side1 => exact Glob.below HG.out (uL HB.out)); rintro e w8 ⟨rfl, hb⟩; refine ⟨_, rfl, ?_⟩; have n0_ := mk0 (below_step (uL HB.out) hb); clear HB; have HB := n0_; clear n0_; (try clear hb); (try clear hb2); (try clear hk); (try clear hi)))
  (try simp only [Act.put, List.setIfInBounds_toArray, List.set_cons_zero, List.set_cons_succ])
  go_cut [41] (fun v41 wc => ∃ (kq : Nat) (x41_6 : Bool), v41 = .bool x41_6 ∧ Aside0 (furrowlaw11_FormBox.j0 kq l0 a1 l2 l3 x41_6 = some true) ∧ Aside0 (kq ≤ k) ∧ Aside0 (Below w.heap.size w wc))
  case first =>
   have H := HC7.out
   clear HC7
   by_cases c9 : (l0.length : Int) > 3
   ·rw [if_pos c9] at H
    have c9b0 : decide (3 < (l0.length : Int)) = true := decide_eq_true c9
    have c9b1 : decide (3 < l0.length) = true := decide_eq_true (by omega)
    clear c9
    (first | rw [c9b0] | (simp only [i64_w, i32_w]; rw [c9b0]) | skip)
    have H' := mk0 H
    clear H
    go_wp2
    go_meet
    case rel => exact ⟨_, (true), (by first | rfl | (simp; done) | (simp [*]; done) | (simp [bne_nil_, beq_nil_]; done)), H', ⟨by first | omega | exact Nat.le_refl _⟩, ⟨uL HB.out⟩⟩
   ·rw [if_neg c9] at H
    have c9b0 : decide (3 < (l0.length : Int)) = false := decide_eq_false c9
    have c9b1 : decide (3 < l0.length) = false := decide_eq_false (by omega)
    clear c9
    (first | rw [c9b0] | (simp only [i64_w, i32_w]; rw [c9b0]) | skip)
    by_cases c10 : (l2.length : Int) < (l0.length : Int)
    ·rw [if_pos c10] at H
     have c10b0 : decide ((l2.length : Int) < (l0.length : Int)) = true := decide_eq_true c10
     have c10b1 : decide (l2.length < l0.length) = true := decide_eq_true (Int.ofNat_lt.mp c10)
     clear c10
     have H' := mk0 H
     clear H
     go_wp2
     go_meet
     case rel => exact ⟨_, (true), (by first | rfl | (simp; done) | (simp [*]; done) | (simp [bne_nil_, beq_nil_]; done)), H', ⟨by first | omega | exact Nat.le_refl _⟩, ⟨uL HB.out⟩⟩
    ·rw [if_neg c10] at H
     have c10b0 : decide ((l2.length : Int) < (l0.length : Int)) = false := decide_eq_false c10
     have c10b1 : decide (l2.length < l0.length) = false := decide_eq_false (fun h => c10 (Int.ofNat_lt.mpr h))
     clear c10
     have H' := mk0 H
     clear H
     go_wp2
     go_meet
     case rel => exact ⟨_, (decide ((l3.length : Int) < (l0.length : Int))), (by first | rfl | (simp; done) | (simp [*]; done) | (simp [bne_nil_, beq_nil_]; done)), H', ⟨by first | omega | exact Nat.le_refl _⟩, ⟨uL HB.out⟩⟩
  case rest =>
   clear HC7
   try clear c1
   try clear c2
   try clear p2
   try clear c3
   try clear c6
   try clear c9
   try clear c9b0
   try clear c9b1
   try clear c10
   try clear c10b0
   try clear c10b1
   obtain ⟨kq, x41_6, rfl, HA, HJ6, HB⟩ := hcut
   cases kq with
   | zero => exact absurd HA.out (by simp [furrowlaw11_FormBox.j0])
   | succ kj6 =>
    have H := HA.out
    clear HA
    simp only [furrowlaw11_FormBox.j0] at H
    by_cases c11 : x41_6 = true
    ·subst c11
     have H1 : (some true) = some true := by rw [if_pos rfl] at H; first | done | exact H
     clear H
     have H := H1
     clear H1
     have HT := mk0 (Option.some.inj H)
     clear H
     go_wp2
     go_ret
     exact ⟨by first | rfl | (simp [errW_none, errW_some] <;> rfl) | (exact congrArg (fun b_ => Ending.returned (Value.bool b_)) HT.out) | (rw [show _ = _ from HT.out]) | (simp [HT.out]; done) | (simp [show _ = _ from HT.out]; done) | (simp [*, errW_none, errW_some] <;> rfl), uL HB.out⟩
    ·replace c11 := Bool.eq_false_iff.mpr c11
     subst c11
     have H1 : (furrowlaw11_FormBox.l0 kj6 l0 l2 l3 ([] : List Int) ([] : List Int) 0 ([] : List Int) (wrap64 (a1))) = some true := by rw [if_neg (show ¬ (false = true) by decide)] at H; first | done | exact H
     clear H
     have H := H1
     clear H1
     have H' := mk0 H
     clear H
     go_wp2_with (first | ((with_reducible refine gate_dst (N := 9) rfl ?_); (try (refine gate_guard (by rfl) ?_; dsimp only)); refine box_event ?hg (N := 9) ?hd (cs := #[.slice none 0 0, .int .i64 0]) (t := 24) ?hr ?_; (case hd => rfl); (case hg => rfl); (case hr => first | (go_simp; done) | (go_simp; rfl)); intro gb586 hg w12 hbox hb; have n0_ := mk0 (below_step (uL HB.out) hb); have n1_ := mk0 (hbox); have n2_ := mk0 ((by rw [hg]; exact (below_size (uL HB.out)) : w.heap.size ≤ gb586)); have n3_ := mk0 ((by rw [hg]; exact (below_size (uL HB.out)) : w.heap.size ≤ gb586)); clear HB; have HB := n0_; have BK586 := n1_; have GW586 := n2_; have GE586 := n3_; clear n0_ n1_ n2_ n3_; clear hb hbox hg; have hcz13_0 : w12.cell? ⟨gb586, 0, none⟩ = some (.slice none 0 0) := (blk_cell BK586.out 0).trans rfl; have hcz13_1 : w12.cell? ⟨gb586, 1, none⟩ = some (.int .i64 0) := (blk_cell BK586.out 1).trans rfl; have hfz13_0 := blk_frozen BK586.out 0; have hfz13_1 := blk_frozen BK586.out 1))
     go_loopg [10, 11, 12] kj6 (fun kq v10 v11 v12 w' => ∃ (x10_2 : List Int) (x11_2 : List Int) (x12_2 : Int) (x587000_2 : List Int) (u587000 : Value), v12 = .int .i64 x12_2 ∧ Aside0 (furrowlaw11_FormBox.l0 kq l0 l2 l3 x10_2 x11_2 x12_2 x587000_2 (wrap64 (a1)) = some true) ∧ Aside0 (kq ≤ kj6) ∧ Aside0 (Kd.R (Kd.int .i64) 2 w' w.heap.size (fun k_ => some k_ ≠ (v11 : Value).ownBlock ∧ some k_ ≠ (u587000 : Value).ownBlock) v10 x10_2) ∧ Aside0 (Kd.R (Kd.int .i64) 2 w' w.heap.size (fun k_ => some k_ ≠ (v10 : Value).ownBlock ∧ some k_ ≠ (u587000 : Value).ownBlock) v11 x11_2) ∧ Aside0 (Kd.R (Kd.int .i64) 2 w' w.heap.size (fun k_ => some k_ ≠ (v10 : Value).ownBlock ∧ some k_ ≠ (v11 : Value).ownBlock) u587000 x587000_2) ∧ Aside0 (w'.heap[gb586]? = some (.cells #[u587000, .int .i64 (wrap64 (a1))] 24 (0, 0))) ∧ Aside0 (Below w.heap.size w w'))
     case atStart => exact ⟨(([] : List Int)), (([] : List Int)), (0), (([] : List Int)), (.slice none 0 0), (by first | rfl | (simp; done) | (simp [*]; done) | (simp [bne_nil_, beq_nil_]; done)), H', ⟨Nat.le_refl _⟩, ⟨by first | exact Kd.R_nil _ _ _ _ _ | exact Kd.N_nil _ _ _ _ _ | exact Kd.V_nil _ _ _ _ _ | exact Kd.Q_nil _ _ _ _ _ | exact Kd.S_nil _ _ _ _ _⟩, ⟨by first | exact Kd.R_nil _ _ _ _ _ | exact Kd.N_nil _ _ _ _ _ | exact Kd.V_nil _ _ _ _ _ | exact Kd.Q_nil _ _ _ _ _ | exact Kd.S_nil _ _ _ _ _⟩, ⟨by first | exact Kd.R_nil _ _ _ _ _ | exact Kd.N_nil _ _ _ _ _ | exact Kd.V_nil _ _ _ _ _ | exact Kd.Q_nil _ _ _ _ _ | exact Kd.S_nil _ _ _ _ _⟩, ⟨by (with_reducible repeat (first | refine blk_drewN ?_ _ | refine blk_drew ?_ | refine blk_alloc ?_ _)); refine blk_put (cs := #[.slice none 0 0, .int .i64 0]) ?_ 1 _ rfl; (with_reducible repeat (first | refine blk_drewN ?_ _ | refine blk_drew ?_ | refine blk_alloc ?_ _)); refine blk_put (cs := #[.slice none 0 0, .int .i64 0]) ?_ 0 _ rfl; (with_reducible repeat (first | refine blk_drewN ?_ _ | refine blk_drew ?_ | refine blk_alloc ?_ _)); exact BK586.out⟩, ⟨by repeat (first | (with_reducible first | exact HB.out | apply bA | apply bN | apply bD | refine bS ?_ (by assumption)) | exact HB.out)⟩⟩
     case round =>
      clear H'
      try clear c1
      try clear c2
      try clear p2
      try clear c3
      try clear c6
      try clear p6
      try clear c9
      try clear c9b0
      try clear c9b1
      try clear c10
      try clear c10b0
      try clear c10b1
      try clear c11
      try clear hcz13_0
      try clear hcz13_1
      try clear hfz13_0
      try clear hfz13_1
      try clear p2
      obtain ⟨x10_2, x11_2, x12_2, x587000_2, u587000, rfl, HA, HK2, HO_10, HO_11, HO_587000, BK586, HB⟩ := hrel
      cases gk with
      | zero => exact absurd HA.out (by simp [furrowlaw11_FormBox.l0])
      | succ k2 =>
       have H := HA.out
       clear HA
       simp only [furrowlaw11_FormBox.l0] at H
       by_cases c14 : x12_2 < (l0.length : Int)
       ·rw [if_pos c14] at H
        have c14b0 : decide (x12_2 < (l0.length : Int)) = true := decide_eq_true c14
        clear c14
        by_cases c15 : 0 ≤ x12_2
        ·rw [if_pos c15] at H
         have c15b0 : decide (0 ≤ x12_2) = true := decide_eq_true c15
         clear c15
         by_cases c16 : x587000_2.length < 17592186044416
         ·rw [if_pos c16] at H
          have LMc16 := mk0 c16
          clear c16
          obtain ⟨y588, hy588⟩ : ∃ y_ : List Int, y_ = (x587000_2 ++ [wrap64 (rd l0 x12_2)]) := ⟨_, rfl⟩
          replace H : (if x12_2 < (l2.length : Int) then (if x10_2.length < 17592186044416 then (if x12_2 < (l3.length : Int) then (if x11_2.length < 17592186044416 then (furrowlaw11_FormBox.l0 k2 l0 l2 l3 (x10_2 ++ [wrap64 (rd l2 x12_2)]) (x11_2 ++ [wrap64 ((wrap64 (rd l2 x12_2)) + (wrap64 (Int.tmod (rd l3 x12_2) 6)))]) (wrap64 (x12_2 + 1)) y588 (wrap64 (a1))) else (none)) else (none)) else (none)) else (none)) = some true := by first | (rw [hy588]; with_reducible exact H) | (have H2_ := (Option.bind_some _ _).symm.trans H; rw [hy588]; with_reducible exact H2_) | (have H2_ := (Option.bind_some _ _).symm.trans H; with_reducible exact H2_) | with_reducible exact H | (rw [hy588]; exact H) | exact H
          have Ny588 := mk0 hy588
          clear hy588
          by_cases c17 : x12_2 < (l2.length : Int)
          ·rw [if_pos c17] at H
           have c17b0 : decide (x12_2 < (l2.length : Int)) = true := decide_eq_true c17
           clear c17
           by_cases c18 : x10_2.length < 17592186044416
           ·rw [if_pos c18] at H
            have LMc18 := mk0 c18
            clear c18
            obtain ⟨y592, hy592⟩ : ∃ y_ : List Int, y_ = (x10_2 ++ [wrap64 (rd l2 x12_2)]) := ⟨_, rfl⟩
            replace H : (if x12_2 < (l3.length : Int) then (if x11_2.length < 17592186044416 then (furrowlaw11_FormBox.l0 k2 l0 l2 l3 y592 (x11_2 ++ [wrap64 ((wrap64 (rd l2 x12_2)) + (wrap64 (Int.tmod (rd l3 x12_2) 6)))]) (wrap64 (x12_2 + 1)) y588 (wrap64 (a1))) else (none)) else (none)) = some true := by first | (rw [hy592]; with_reducible exact H) | (have H2_ := (Option.bind_some _ _).symm.trans H; rw [hy592]; with_reducible exact H2_) | (have H2_ := (Option.bind_some _ _).symm.trans H; with_reducible exact H2_) | with_reducible exact H | (rw [hy592]; exact H) | exact H
            have Ny592 := mk0 hy592
            clear hy592
            by_cases c19 : x12_2 < (l3.length : Int)
            ·rw [if_pos c19] at H
             have c19b0 : decide (x12_2 < (l3.length : Int)) = true := decide_eq_true c19
             clear c19
             by_cases c20 : x11_2.length < 17592186044416
             ·rw [if_pos c20] at H
              have LMc20 := mk0 c20
              clear c20
              obtain ⟨y597, hy597⟩ : ∃ y_ : List Int, y_ = (x11_2 ++ [wrap64 ((wrap64 (rd l2 x12_2)) + (wrap64 (Int.tmod (rd l3 x12_2) 6)))]) := ⟨_, rfl⟩
              replace H : (furrowlaw11_FormBox.l0 k2 l0 l2 l3 y592 y597 (wrap64 (x12_2 + 1)) y588 (wrap64 (a1))) = some true := by first | (rw [hy597]; with_reducible exact H) | (have H2_ := (Option.bind_some _ _).symm.trans H; rw [hy597]; with_reducible exact H2_) | (have H2_ := (Option.bind_some _ _).symm.trans H; with_reducible exact H2_) | with_reducible exact H | (rw [hy597]; exact H) | exact H
              have Ny597 := mk0 hy597
              clear hy597
              have H' := mk0 H
              clear H
              try go_wp2
              have n0_ := mk0 (Kd.R_drew HO_10.out)
              have n1_ := mk0 (Kd.R_drew HO_11.out)
              have n2_ := mk0 (Kd.R_drew HO_587000.out)
              have n3_ := mk0 (blk_drew BK586.out)
              have n4_ := mk0 (below_drew1 HB.out)
              clear HO_10
              clear HO_11
              clear HO_587000
              clear BK586
              clear HB
              have HO_10 := n0_
              have HO_11 := n1_
              have HO_587000 := n2_
              have BK586 := n3_
              have HB := n4_
              clear n0_ n1_ n2_ n3_ n4_
              have p587 : 0 ≤ (x12_2 : Int) := of_decide_eq_true (by first | (with_reducible assumption) | assumption)
              have q587 : x12_2 < (l0.length : Int) := of_decide_eq_true (by first | (with_reducible assumption) | assumption)
              obtain ⟨ad587, e587, hx587_0⟩ := Kd.at_int HR0.out x12_2 p587 q587
              have hw587_0 := hx587_0
              cases e587
              replace hx587_0 := (HB.out.cell (World.block_lt_of_cell? w _ hx587_0)).trans hx587_0
              replace p587 := eq_true p587
              replace q587 := eq_true q587
              refine start_ (n := 11) (S := fun w' => w'.cell? ⟨gb586, 0, none⟩ = some (u587000) ∧ w'.cell? ⟨gb586, 1, none⟩ = some (.int .i64 (wrap64 (a1))) ∧ w'.cell? (ad587.add (x12_2).toNat) = some (.int .i8 (rd l0 x12_2))) (ds := [10]) #[false, false, false, false, false, false, false, false, false, false, false] (by kernel_rfl) rfl rfl ⟨(blk_cell BK586.out 0).trans rfl, (blk_cell BK586.out 1).trans rfl, ((HB.out.cell (World.block_lt_of_cell? w _ hw587_0)).trans hw587_0)⟩ (fun hHeld => ?_); refine with_tabW furrowlaw11_FormBox.tab10 furrowlaw11_FormBox.bits10 (fun HT_ HW_ => ?_)
              generalize wr.drew = w21 at HO_10 HO_11 HO_587000 BK586 HB hx587_0 hHeld ⊢
              refine pure_ (i := 0) (N := some 51) (v := ?_) (a' := ?_) #[true, false, false, false, false, false, false, false, false, false, false] rfl rfl (any_of HT_.out (by kernel_rfl)) (fun _ _ _ h => h) (Or.inl ⟨by rfl, ?_⟩) ?_ ?_
              rotate_left
              ·intro w'
               go_simp
               with_reducible rfl
              rotate_left
              ·simp only [Act.put, List.setIfInBounds_toArray, List.set_cons_zero, List.set_cons_succ, i64_w, i32_w]
               rfl
              refine pure_ (i := 2) (N := some 53) (v := ?_) (a' := ?_) #[true, false, true, false, false, false, false, false, false, false, false] rfl rfl (any_of HT_.out (by kernel_rfl)) (fun _ _ _ h => h) (Or.inl ⟨by rfl, ?_⟩) ?_ ?_
              rotate_left
              ·intro w'
               go_simp
               with_reducible rfl
              rotate_left
              ·simp only [Act.put, List.setIfInBounds_toArray, List.set_cons_zero, List.set_cons_succ, i64_w, i32_w]
               rfl
              refine pure_ (i := 3) (N := some 54) (v := ?_) (a' := ?_) #[true, false, true, true, false, false, false, false, false, false, false] rfl rfl (any_of HT_.out (by kernel_rfl)) (fun _ _ _ h => h) (Or.inl ⟨by rfl, ?_⟩) ?_ ?_
              rotate_left
              ·intro w'
               go_simp
               with_reducible rfl
              rotate_left
              ·simp only [Act.put, List.setIfInBounds_toArray, List.set_cons_zero, List.set_cons_succ, i64_w, i32_w]
               rfl
              refine pure_ (i := 4) (N := some 55) (v := ?_) (a' := ?_) #[true, false, true, true, true, false, false, false, false, false, false] rfl rfl (any_of HT_.out (by kernel_rfl)) (fun _ _ _ h => h) (Or.inl ⟨by rfl, ?_⟩) ?_ ?_
              rotate_left
              ·intro w'
               go_simp
               with_reducible rfl
              rotate_left
              ·simp only [Act.put, List.setIfInBounds_toArray, List.set_cons_zero, List.set_cons_succ, i64_w, i32_w]
               rfl
              refine take_ (i := 1) (N := some 52) (v := ?_) (a' := ?_) #[true, true, true, true, true, false, false, false, false, false, false] rfl rfl (take_ofW HT_.out HW_.out (by kernel_rfl)) (fun _ _ _ h => h) (Or.inl ⟨by rfl, ?_⟩) hHeld ?_ ?_
              rotate_left
              ·rintro w' ⟨s0, s1, s2⟩
               go_simp
               with_reducible rfl
              rotate_left
              ·simp only [Act.put, List.setIfInBounds_toArray, List.set_cons_zero, List.set_cons_succ, i64_w, i32_w]
               rfl
              refine take_ (i := 5) (N := some 56) (v := ?_) (a' := ?_) #[true, true, true, true, true, true, false, false, false, false, false] rfl rfl (take_ofW HT_.out HW_.out (by kernel_rfl)) (fun _ _ _ h => h) (Or.inl ⟨by rfl, ?_⟩) hHeld ?_ ?_
              rotate_left
              ·rintro w' ⟨s0, s1, s2⟩
               go_simp
               with_reducible rfl
              rotate_left
              ·simp only [Act.put, List.setIfInBounds_toArray, List.set_cons_zero, List.set_cons_succ, i64_w, i32_w]
               rfl
              refine pure_ (i := 6) (N := some 57) (v := ?_) (a' := ?_) #[true, true, true, true, true, true, true, false, false, false, false] rfl rfl (any_of HT_.out (by kernel_rfl)) (fun _ _ _ h => h) (Or.inl ⟨by rfl, ?_⟩) ?_ ?_
              rotate_left
              ·intro w'
               go_simp
               with_reducible rfl
              rotate_left
              ·simp only [Act.put, List.setIfInBounds_toArray, List.set_cons_zero, List.set_cons_succ, i64_w, i32_w]
               rfl
              refine one_ (i := 7) (N := some 58) #[true, true, true, true, true, true, true, true, false, false, false] rfl rfl (one_of HT_.out (by kernel_rfl)) (by decide) (fun K hK => ?_)
              refine value_ (w1 := ?_) (v := ?_) (by rfl) rfl ?_ ?_
              rotate_left 2
              ·go_simp
               constructor
               ·rfl
               ·rfl
              refine hK.out _ _ ⟨(blk_cell (blk_alloc BK586.out _) 0).trans rfl, (blk_cell (blk_alloc BK586.out _) 1).trans rfl, (World.cell?_alloc_lt _ _ _ (World.block_lt_of_cell? _ _ (((HB.out.cell (World.block_lt_of_cell? w _ hw587_0)).trans hw587_0)))).trans (((HB.out.cell (World.block_lt_of_cell? w _ hw587_0)).trans hw587_0))⟩ (fun hHeld => ?_)
              clear hK K
              refine norm_ (a' := ?_) ?_ ?_
              rotate_left
              ·show Act.put _ (some 58) _ = _
               simp only [Act.put, List.setIfInBounds_toArray, List.set_cons_zero, List.set_cons_succ, i64_w, i32_w]
               rfl
              refine one_ (i := 8) (N := some 59) #[true, true, true, true, true, true, true, true, true, false, false] rfl rfl (one_of HT_.out (by kernel_rfl)) (by decide) (fun K hK => ?_)
              refine Kd.R_append_step (Kd.int .i64) (w0 := w) w.heap.size (by rfl) (.tmp 52) (.tmp 58) 22 2 (.int .i64 0) 8 rfl Tryd.underlying22 info2 rfl (by decide) (by omega) u587000 x587000_2 (wrap64 (rd l0 x12_2)) [.int .i64 (wrap64 (rd l0 x12_2))] (fun k_ => some k_ ≠ (u10 : Value).ownBlock ∧ some k_ ≠ (u11 : Value).ownBlock) (fun _ => False) rfl rfl ?aP (fun _ hk => hk.elim) ?aF ?aO ?aB ?aS ?aL ?_
              (case aP => exact rfl)
              (case aB => exact (by repeat (first | (with_reducible first | exact HB.out | apply bA | apply bN | apply bD | refine bS ?_ (by assumption)) | exact HB.out)))
              (case aF => exact (fun k_ hk => ⟨Kd.fresh' (Kd.R_lt (uR HO_10.out)) k_ hk, Kd.fresh' (Kd.R_lt (uR HO_11.out)) k_ hk⟩))
              (case aO => exact (uR HO_587000.out))
              (case aS => exact (below_size (by repeat (first | (with_reducible first | exact HB.out | apply bA | apply bN | apply bD | refine bS ?_ (by assumption)) | exact HB.out))))
              (case aL => have := LMc16.out; omega)
              intro v589 w22 ho hb hg hat
              rw [← Ny588.out] at ho
              have n0_ := mk0 (Kd.R_after (ok := (fun k_ => some k_ ≠ (u11 : Value).ownBlock)) (uR HO_10.out) hg hat)
              have n1_ := mk0 (Kd.R_after (ok := (fun k_ => some k_ ≠ (u10 : Value).ownBlock)) (uR HO_11.out) hg hat)
              have n2_ := mk0 (blk_grown (g := gb586) (o := .cells #[u587000, .int .i64 (wrap64 (a1))] 24 (0, 0)) (uB BK586.out) hg (Kd.R_ne HO_587000.out BK586.out (by decide)))
              have n3_ := mk0 (hb)
              have n4_ := mk0 (ho)
              clear HO_10
              clear HO_11
              clear BK586
              clear HB
              clear HO_587000
              have HO_10 := n0_
              have HO_11 := n1_
              have BK586 := n2_
              have HB := n3_
              have HO590 := n4_
              clear n0_ n1_ n2_ n3_ n4_
              clear ho hb hg hat
              obtain ⟨Ao23, co23, eo23⟩ := Kd.R_slice HO590.out
              (first | subst eo23 | (injection eo23 with f1_ f2_ f3_; have f4_ := f1_.symm; have f5_ := f3_.symm; clear f1_ f2_ f3_; subst f4_; subst f5_))
              refine hK.out _ _ ⟨(blk_cell BK586.out 0).trans rfl, (blk_cell BK586.out 1).trans rfl, ((HB.out.cell (World.block_lt_of_cell? w _ hw587_0)).trans hw587_0)⟩ (fun hHeld => ?_)
              clear hK K
              refine norm_ (a' := ?_) ?_ ?_
              rotate_left
              ·show Act.put _ (some 59) _ = _
               simp only [Act.put, List.setIfInBounds_toArray, List.set_cons_zero, List.set_cons_succ, i64_w, i32_w]
               rfl
              refine pure_ (i := 9) (N := some 60) (v := ?_) (a' := ?_) #[true, true, true, true, true, true, true, true, true, true, false] rfl rfl (any_of HT_.out (by kernel_rfl)) (fun _ _ _ h => h) (Or.inl ⟨by rfl, ?_⟩) ?_ ?_
              rotate_left
              ·intro w'
               go_simp
               with_reducible rfl
              rotate_left
              ·simp only [Act.put, List.setIfInBounds_toArray, List.set_cons_zero, List.set_cons_succ, i64_w, i32_w]
               rfl
              refine last_ (i := 10) (N := none) #[true, true, true, true, true, true, true, true, true, true, true] rfl rfl (one_of HT_.out (by kernel_rfl)) (by decide) (fun K hK => ?_)
              have hs24 : w22.cell? ⟨gb586, 0, none⟩ = some (u587000) := (blk_cell BK586.out 0).trans rfl
              have hfs24 := blk_frozen BK586.out 0
              refine skip_ (w1 := ?_) (by rfl) rfl ?_ ?_
              rotate_left
              ·go_simp
               rfl
              refine hK.out _ _ ?_
              clear hK K
              refine done_ (done_of HT_.out (by kernel_rfl)) ?_
              have p591 : 0 ≤ (x12_2 : Int) := of_decide_eq_true (by first | (with_reducible assumption) | assumption)
              have q591 : x12_2 < (l2.length : Int) := of_decide_eq_true (by first | (with_reducible assumption) | assumption)
              obtain ⟨ad591, e591, hx591_0⟩ := Kd.at_int HR2.out x12_2 p591 q591
              cases e591
              have hn591_0 : ad591.block ≠ gb586 := Nat.ne_of_lt (Nat.lt_of_lt_of_le (by have := World.block_lt_of_cell? _ _ hx591_0; first | rwa [add_block] at this | exact this) GW586.out)
              replace hx591_0 := (HB.out.cell (World.block_lt_of_cell? w _ hx591_0)).trans hx591_0
              replace hx591_0 := (cell_far (p := ⟨gb586, 0, none⟩) (by first | (rw [add_block]; exact hn591_0) | (show (Addr.add _ _).block ≠ _; rw [add_block]; exact hn591_0) | exact hn591_0) (.slice Ao23 y588.length co23)).trans hx591_0
              clear hn591_0
              replace p591 := eq_true p591
              replace q591 := eq_true q591
              try go_wp2_with (first | ((with_reducible refine gate_builtin (b := .append) (xs := #[.tmp 61, .tmp 67]) rfl ?_); (try (refine gate_guard (by rfl) ?_; dsimp only)); at_builtin; refine Kd.R_append (Kd.int .i64) (w0 := w) w.heap.size rfl (.tmp 61) (.tmp 67) 22 2 (.int .i64 0) 8 rfl Tryd.underlying22 info2 rfl (by decide) (by omega) u10 x10_2 (wrap64 (rd l2 x12_2)) [.int .i64 (wrap64 (rd l2 x12_2))] (fun k_ => some k_ ≠ (u11 : Value).ownBlock ∧ some k_ ≠ (.slice Ao23 y588.length co23 : Value).ownBlock) (fun _ => False) rfl (by first | (go_simp; done) | (go_simp; rfl)) ?aP (fun _ hk => hk.elim) ?aF ?aO ?aB ?aS ?aL ?_; (case aP => exact rfl); (case aB => exact (by repeat (first | (with_reducible first | exact HB.out | apply bA | apply bN | apply bD | refine bS ?_ (by assumption)) | exact HB.out))); (case aF => exact (fun k_ hk => ⟨Kd.fresh' (Kd.R_lt (uR (Kd.R_mono (Kd.R_far (p := ⟨gb586, 0, none⟩) (Kd.R_types HO_11.out BK586.out (by decide)) (fun _ hk => hk.2) (.slice Ao23 y588.length co23)) (fun _ h_ => h_.1)))) k_ hk, Kd.fresh' (Kd.R_lt (uR (Kd.R_mono (Kd.R_far (p := ⟨gb586, 0, none⟩) (Kd.R_types HO590.out BK586.out (by decide)) (fun _ hk => hk.2) (.slice Ao23 y588.length co23)) (fun _ h_ => h_.1)))) k_ hk⟩)); (case aO => exact (uR (Kd.R_mono (Kd.R_far (p := ⟨gb586, 0, none⟩) (Kd.R_types HO_10.out BK586.out (by decide)) (fun _ hk => hk.2) (.slice Ao23 y588.length co23)) (fun _ hk => ⟨hk.1.1, hk.1.2⟩)))); (case aS => exact (below_size (by repeat (first | (with_reducible first | exact HB.out | apply bA | apply bN | apply bD | refine bS ?_ (by assumption)) | exact HB.out)))); (case aL => have := LMc18.out; omega); intro v593 w25 ho hb hg hat; rw [← Ny592.out] at ho; have n0_ := mk0 (Kd.R_after (ok := (fun k_ => some k_ ≠ (.slice Ao23 y588.length co23 : Value).ownBlock)) (uR (Kd.R_mono (Kd.R_far (p := ⟨gb586, 0, none⟩) (Kd.R_types HO_11.out BK586.out (by decide)) (fun _ hk => hk.2) (.slice Ao23 y588.length co23)) (fun _ hk => ⟨hk.1.2, hk.1.1⟩))) hg hat); have n1_ := mk0 (blk_grown (g := gb586) (o := .cells #[.slice Ao23 y588.length co23, .int .i64 (wrap64 (a1))] 24 (0, 0)) (by (with_reducible repeat (first | refine blk_drewN ?_ _ | refine blk_drew ?_ | refine blk_alloc ?_ _)); refine blk_put (cs := #[u587000, .int .i64 (wrap64 (a1))]) ?_ 0 _ rfl; (with_reducible repeat (first | refine blk_drewN ?_ _ | refine blk_drew ?_ | refine blk_alloc ?_ _)); exact BK586.out) hg (Kd.R_ne HO_10.out BK586.out (by decide))); have n2_ := mk0 (Kd.R_after (ok := (fun k_ => some k_ ≠ (u11 : Value).ownBlock)) (uR (Kd.R_mono (Kd.R_far (p := ⟨gb586, 0, none⟩) (Kd.R_types HO590.out BK586.out (by decide)) (fun _ hk => hk.2) (.slice Ao23 y588.length co23)) (fun _ hk => ⟨hk.1.2, hk.1.1⟩))) hg hat); have n3_ := mk0 (hb); have n4_ := mk0 (ho); clear HO_11; clear BK586; clear HO590; clear HB; clear HO_10; have HO_11 := n0_; have BK586 := n1_; have HO590 := n2_; have HB := n3_; have HO594 := n4_; clear n0_ n1_ n2_ n3_ n4_; clear ho hb hg hat))
              have n0_ := mk0 (Kd.R_drew HO_11.out)
              have n1_ := mk0 (Kd.R_drew HO590.out)
              have n2_ := mk0 (Kd.R_drew HO594.out)
              have n3_ := mk0 (blk_drew BK586.out)
              have n4_ := mk0 (below_drew1 HB.out)
              clear HO_11
              clear HO590
              clear HO594
              clear BK586
              clear HB
              have HO_11 := n0_
              have HO590 := n1_
              have HO594 := n2_
              have BK586 := n3_
              have HB := n4_
              clear n0_ n1_ n2_ n3_ n4_
              have p595 : 0 ≤ (x12_2 : Int) := of_decide_eq_true (by first | (with_reducible assumption) | assumption)
              have q595 : x12_2 < (l2.length : Int) := of_decide_eq_true (by first | (with_reducible assumption) | assumption)
              obtain ⟨ad595, e595, hx595_0⟩ := Kd.at_int HR2.out x12_2 p595 q595
              have hw595_0 := hx595_0
              obtain rfl : ad591 = ad595 := (by injection e595)
              replace hx595_0 := (HB.out.cell (World.block_lt_of_cell? w _ hx595_0)).trans hx595_0
              replace p595 := eq_true p595
              replace q595 := eq_true q595
              have p596 : 0 ≤ (x12_2 : Int) := of_decide_eq_true (by first | (with_reducible assumption) | assumption)
              have q596 : x12_2 < (l3.length : Int) := of_decide_eq_true (by first | (with_reducible assumption) | assumption)
              obtain ⟨ad596, e596, hx596_0⟩ := Kd.at_int HR3.out x12_2 p596 q596
              have hw596_0 := hx596_0
              cases e596
              replace hx596_0 := (HB.out.cell (World.block_lt_of_cell? w _ hx596_0)).trans hx596_0
              replace p596 := eq_true p596
              replace q596 := eq_true q596
              refine start_ (n := 16) (S := fun w' => w'.cell? (ad591.add (x12_2).toNat) = some (.int .i8 (rd l2 x12_2)) ∧ w'.cell? (ad596.add (x12_2).toNat) = some (.int .u8 (rd l3 x12_2))) (ds := []) #[false, false, false, false, false, false, false, false, false, false, false, false, false, false, false, false] (by kernel_rfl) rfl rfl ⟨((HB.out.cell (World.block_lt_of_cell? w _ hw595_0)).trans hw595_0), ((HB.out.cell (World.block_lt_of_cell? w _ hw596_0)).trans hw596_0)⟩ (fun hHeld => ?_); refine with_tabW furrowlaw11_FormBox.tab12 furrowlaw11_FormBox.bits12 (fun HT_ HW_ => ?_)
              generalize w25.drew = w26 at HO_11 HO590 HO594 BK586 HB hx595_0 hx596_0 hHeld ⊢
              refine pure_ (i := 0) (N := some 69) (v := ?_) (a' := ?_) #[true, false, false, false, false, false, false, false, false, false, false, false, false, false, false, false] rfl rfl (any_of HT_.out (by kernel_rfl)) (fun _ _ _ h => h) (Or.inl ⟨by rfl, ?_⟩) ?_ ?_
              rotate_left
              ·intro w'
               go_simp
               with_reducible rfl
              rotate_left
              ·simp only [Act.put, List.setIfInBounds_toArray, List.set_cons_zero, List.set_cons_succ, i64_w, i32_w]
               rfl
              refine pure_ (i := 1) (N := some 70) (v := ?_) (a' := ?_) #[true, true, false, false, false, false, false, false, false, false, false, false, false, false, false, false] rfl rfl (any_of HT_.out (by kernel_rfl)) (fun _ _ _ h => h) (Or.inl ⟨by rfl, ?_⟩) ?_ ?_
              rotate_left
              ·intro w'
               go_simp
               with_reducible rfl
              rotate_left
              ·simp only [Act.put, List.setIfInBounds_toArray, List.set_cons_zero, List.set_cons_succ, i64_w, i32_w]
               rfl
              refine pure_ (i := 2) (N := some 71) (v := ?_) (a' := ?_) #[true, true, true, false, false, false, false, false, false, false, false, false, false, false, false, false] rfl rfl (any_of HT_.out (by kernel_rfl)) (fun _ _ _ h => h) (Or.inl ⟨by rfl, ?_⟩) ?_ ?_
              rotate_left
              ·intro w'
               go_simp
               with_reducible rfl
              rotate_left
              ·simp only [Act.put, List.setIfInBounds_toArray, List.set_cons_zero, List.set_cons_succ, i64_w, i32_w]
               rfl
              refine pure_ (i := 3) (N := some 72) (v := ?_) (a' := ?_) #[true, true, true, true, false, false, false, false, false, false, false, false, false, false, false, false] rfl rfl (any_of HT_.out (by kernel_rfl)) (fun _ _ _ h => h) (Or.inl ⟨by rfl, ?_⟩) ?_ ?_
              rotate_left
              ·intro w'
               go_simp
               with_reducible rfl
              rotate_left
              ·simp only [Act.put, List.setIfInBounds_toArray, List.set_cons_zero, List.set_cons_succ, i64_w, i32_w]
               rfl
              refine pure_ (i := 6) (N := some 75) (v := ?_) (a' := ?_) #[true, true, true, true, false, false, true, false, false, false, false, false, false, false, false, false] rfl rfl (any_of HT_.out (by kernel_rfl)) (fun _ _ _ h => h) (Or.inl ⟨by rfl, ?_⟩) ?_ ?_
              rotate_left
              ·intro w'
               go_simp
               with_reducible rfl
              rotate_left
              ·simp only [Act.put, List.setIfInBounds_toArray, List.set_cons_zero, List.set_cons_succ, i64_w, i32_w]
               rfl
              refine pure_ (i := 7) (N := some 76) (v := ?_) (a' := ?_) #[true, true, true, true, false, false, true, true, false, false, false, false, false, false, false, false] rfl rfl (any_of HT_.out (by kernel_rfl)) (fun _ _ _ h => h) (Or.inl ⟨by rfl, ?_⟩) ?_ ?_
              rotate_left
              ·intro w'
               go_simp
               with_reducible rfl
              rotate_left
              ·simp only [Act.put, List.setIfInBounds_toArray, List.set_cons_zero, List.set_cons_succ, i64_w, i32_w]
               rfl
              refine pure_ (i := 8) (N := some 77) (v := ?_) (a' := ?_) #[true, true, true, true, false, false, true, true, true, false, false, false, false, false, false, false] rfl rfl (any_of HT_.out (by kernel_rfl)) (fun _ _ _ h => h) (Or.inl ⟨by rfl, ?_⟩) ?_ ?_
              rotate_left
              ·intro w'
               go_simp
               with_reducible rfl
              rotate_left
              ·simp only [Act.put, List.setIfInBounds_toArray, List.set_cons_zero, List.set_cons_succ, i64_w, i32_w]
               rfl
              refine take_ (i := 4) (N := some 73) (v := ?_) (a' := ?_) #[true, true, true, true, true, false, true, true, true, false, false, false, false, false, false, false] rfl rfl (take_ofW HT_.out HW_.out (by kernel_rfl)) (fun _ _ _ h => h) (Or.inl ⟨by rfl, ?_⟩) hHeld ?_ ?_
              rotate_left
              ·rintro w' ⟨s0, s1⟩
               go_simp
               with_reducible rfl
              rotate_left
              ·simp only [Act.put, List.setIfInBounds_toArray, List.set_cons_zero, List.set_cons_succ, i64_w, i32_w]
               rfl
              refine pure_ (i := 5) (N := some 74) (v := ?_) (a' := ?_) #[true, true, true, true, true, true, true, true, true, false, false, false, false, false, false, false] rfl rfl (any_of HT_.out (by kernel_rfl)) (fun _ _ _ h => h) (Or.inl ⟨by rfl, ?_⟩) ?_ ?_
              rotate_left
              ·intro w'
               go_simp
               with_reducible rfl
              rotate_left
              ·simp only [Act.put, List.setIfInBounds_toArray, List.set_cons_zero, List.set_cons_succ, i64_w, i32_w]
               rfl
              refine take_ (i := 9) (N := some 78) (v := ?_) (a' := ?_) #[true, true, true, true, true, true, true, true, true, true, false, false, false, false, false, false] rfl rfl (take_ofW HT_.out HW_.out (by kernel_rfl)) (fun _ _ _ h => h) (Or.inl ⟨by rfl, ?_⟩) hHeld ?_ ?_
              rotate_left
              ·rintro w' ⟨s0, s1⟩
               go_simp
               with_reducible rfl
              rotate_left
              ·simp only [Act.put, List.setIfInBounds_toArray, List.set_cons_zero, List.set_cons_succ, i64_w, i32_w]
               rfl
              refine pure_ (i := 10) (N := some 79) (v := ?_) (a' := ?_) #[true, true, true, true, true, true, true, true, true, true, true, false, false, false, false, false] rfl rfl (any_of HT_.out (by kernel_rfl)) (fun _ _ _ h => h) (Or.inl ⟨by rfl, ?_⟩) ?_ ?_
              rotate_left
              ·intro w'
               go_simp
               with_reducible rfl
              rotate_left
              ·simp only [Act.put, List.setIfInBounds_toArray, List.set_cons_zero, List.set_cons_succ, i64_w, i32_w]
               rfl
              refine pure_ (i := 11) (N := some 80) (v := ?_) (a' := ?_) #[true, true, true, true, true, true, true, true, true, true, true, true, false, false, false, false] rfl rfl (any_of HT_.out (by kernel_rfl)) (fun _ _ _ h => h) (Or.inl ⟨by rfl, ?_⟩) ?_ ?_
              rotate_left
              ·intro w'
               go_simp
               with_reducible rfl
              rotate_left
              ·simp only [Act.put, List.setIfInBounds_toArray, List.set_cons_zero, List.set_cons_succ, i64_w, i32_w]
               rfl
              refine pure_ (i := 12) (N := some 81) (v := ?_) (a' := ?_) #[true, true, true, true, true, true, true, true, true, true, true, true, true, false, false, false] rfl rfl (any_of HT_.out (by kernel_rfl)) (fun _ _ _ h => h) (Or.inl ⟨by rfl, ?_⟩) ?_ ?_
              rotate_left
              ·intro w'
               go_simp
               with_reducible rfl
              rotate_left
              ·simp only [Act.put, List.setIfInBounds_toArray, List.set_cons_zero, List.set_cons_succ, i64_w, i32_w]
               rfl
              refine one_ (i := 13) (N := some 82) #[true, true, true, true, true, true, true, true, true, true, true, true, true, true, false, false] rfl rfl (one_of HT_.out (by kernel_rfl)) (by decide) (fun K hK => ?_)
              refine value_ (w1 := ?_) (v := ?_) (by rfl) rfl ?_ ?_
              rotate_left 2
              ·go_simp
               constructor
               ·rfl
               ·rfl
              refine hK.out _ _ ⟨(World.cell?_alloc_lt _ _ _ (World.block_lt_of_cell? _ _ (((HB.out.cell (World.block_lt_of_cell? w _ hw595_0)).trans hw595_0)))).trans (((HB.out.cell (World.block_lt_of_cell? w _ hw595_0)).trans hw595_0)), (World.cell?_alloc_lt _ _ _ (World.block_lt_of_cell? _ _ (((HB.out.cell (World.block_lt_of_cell? w _ hw596_0)).trans hw596_0)))).trans (((HB.out.cell (World.block_lt_of_cell? w _ hw596_0)).trans hw596_0))⟩ (fun hHeld => ?_)
              clear hK K
              refine norm_ (a' := ?_) ?_ ?_
              rotate_left
              ·show Act.put _ (some 82) _ = _
               simp only [Act.put, List.setIfInBounds_toArray, List.set_cons_zero, List.set_cons_succ, i64_w, i32_w]
               rfl
              refine one_ (i := 14) (N := some 83) #[true, true, true, true, true, true, true, true, true, true, true, true, true, true, true, false] rfl rfl (one_of HT_.out (by kernel_rfl)) (by decide) (fun K hK => ?_)
              refine Kd.R_append_step (Kd.int .i64) (w0 := w) w.heap.size (by rfl) (.tmp 69) (.tmp 82) 22 2 (.int .i64 0) 8 rfl Tryd.underlying22 info2 rfl (by decide) (by omega) u11 x11_2 (wrap64 ((wrap64 (rd l2 x12_2)) + (wrap64 (Int.tmod (rd l3 x12_2) 6)))) [.int .i64 (wrap64 ((wrap64 (rd l2 x12_2)) + (wrap64 (Int.tmod (rd l3 x12_2) 6))))] (fun k_ => some k_ ≠ (.slice Ao23 y588.length co23 : Value).ownBlock ∧ some k_ ≠ (v593 : Value).ownBlock) (fun _ => False) rfl rfl ?aP (fun _ hk => hk.elim) ?aF ?aO ?aB ?aS ?aL ?_
              (case aP => exact rfl)
              (case aB => exact (by repeat (first | (with_reducible first | exact HB.out | apply bA | apply bN | apply bD | refine bS ?_ (by assumption)) | exact HB.out)))
              (case aF => exact (fun k_ hk => ⟨Kd.fresh' (Kd.R_lt (uR HO590.out)) k_ hk, Kd.fresh' (Kd.R_lt (uR HO594.out)) k_ hk⟩))
              (case aO => exact (uR HO_11.out))
              (case aS => exact (below_size (by repeat (first | (with_reducible first | exact HB.out | apply bA | apply bN | apply bD | refine bS ?_ (by assumption)) | exact HB.out))))
              (case aL => have := LMc20.out; omega)
              intro v598 w27 ho hb hg hat
              rw [← Ny597.out] at ho
              have n0_ := mk0 (blk_grown (g := gb586) (o := .cells #[.slice Ao23 y588.length co23, .int .i64 (wrap64 (a1))] 24 (0, 0)) (uB BK586.out) hg (Kd.R_ne HO_11.out BK586.out (by decide)))
              have n1_ := mk0 (Kd.R_after (ok := (fun k_ => some k_ ≠ (v593 : Value).ownBlock)) (uR (Kd.R_mono HO590.out (fun _ hk => ⟨hk.2, hk.1⟩))) hg hat)
              have n2_ := mk0 (Kd.R_after (ok := (fun k_ => some k_ ≠ (.slice Ao23 y588.length co23 : Value).ownBlock)) (uR (Kd.R_mono HO594.out (fun _ hk => ⟨hk.2, hk.1⟩))) hg hat)
              have n3_ := mk0 (hb)
              have n4_ := mk0 (ho)
              clear BK586
              clear HO590
              clear HO594
              clear HB
              clear HO_11
              have BK586 := n0_
              have HO590 := n1_
              have HO594 := n2_
              have HB := n3_
              have HO599 := n4_
              clear n0_ n1_ n2_ n3_ n4_
              clear ho hb hg hat
              refine hK.out _ _ ⟨((HB.out.cell (World.block_lt_of_cell? w _ hw595_0)).trans hw595_0), ((HB.out.cell (World.block_lt_of_cell? w _ hw596_0)).trans hw596_0)⟩ (fun hHeld => ?_)
              clear hK K
              refine norm_ (a' := ?_) ?_ ?_
              rotate_left
              ·show Act.put _ (some 83) _ = _
               simp only [Act.put, List.setIfInBounds_toArray, List.set_cons_zero, List.set_cons_succ, i64_w, i32_w]
               rfl
              refine pure_ (i := 15) (N := some 11) (v := ?_) (a' := ?_) #[true, true, true, true, true, true, true, true, true, true, true, true, true, true, true, true] rfl rfl (any_of HT_.out (by kernel_rfl)) (fun _ _ _ h => h) (Or.inl ⟨by rfl, ?_⟩) ?_ ?_
              rotate_left
              ·intro w'
               go_simp
               with_reducible rfl
              rotate_left
              ·simp only [Act.put, List.setIfInBounds_toArray, List.set_cons_zero, List.set_cons_succ, i64_w, i32_w]
               rfl
              refine done_ (done_of HT_.out (by kernel_rfl)) ?_
              try go_wp2
              go_roundg k2
              case measure => have := HJ6.out; have := HK2.out; omega
              case rel => exact ⟨(y592), (y597), (wrap64 (x12_2 + 1)), (y588), (.slice Ao23 y588.length co23), (by first | rfl | (simp; done) | (simp [*]; done) | (simp [bne_nil_, beq_nil_]; done)), H', ⟨by have := HJ6.out; have := HK2.out; omega⟩, ⟨uR (Kd.R_mono HO594.out (fun _ hk => ⟨hk.2, hk.1⟩))⟩, ⟨uR (Kd.R_mono HO599.out (fun _ hk => ⟨hk.2, hk.1⟩))⟩, ⟨uR HO590.out⟩, ⟨uB BK586.out⟩, ⟨by repeat (first | (with_reducible first | exact HB.out | apply bA | apply bN | apply bD | refine bS ?_ (by assumption)) | exact HB.out)⟩⟩
             ·rw [if_neg c20] at H
              exact absurd H (by simp)
            ·rw [if_neg c19] at H
             exact absurd H (by simp)
           ·rw [if_neg c18] at H
            exact absurd H (by simp)
          ·rw [if_neg c17] at H
           exact absurd H (by simp)
         ·rw [if_neg c16] at H
          exact absurd H (by simp)
        ·rw [if_neg c15] at H
         exact absurd H (by simp)
       ·rw [if_neg c14] at H
        have c14b0 : decide (x12_2 < (l0.length : Int)) = false := decide_eq_false c14
        clear c14
        replace H := Option.bind_eq_some_iff.mp H
        obtain ⟨⟨t600, t601, t602⟩, A280, H⟩ := H
        replace H : (if (t602.length : Int) = 0 then ((some (([] : List Int) : List Int)).bind fun y605 => (if y605.length + x10_2.length < 17592186044416 then (furrowlaw11_FormBox.l1 k2 x10_2 x11_2 t600 t601 (y605 ++ x10_2) 4611686018427387904 (-4611686018427387904) true x587000_2 (wrap64 (a1))) else (none))) else (some false)) = some true := H
        have A28 := mk0 A280
        clear A280
        by_cases c29 : (t602.length : Int) = 0
        ·rw [if_pos c29] at H
         have c29b0 : ((t602.length : Int) == 0) = true := beq_iff_eq.mpr c29
         have c29b1 : ((t602.length : Int) != 0) = false := bne_eq_false_iff_eq.mpr c29
         clear c29
         obtain ⟨y605, hy605⟩ : ∃ y_ : List Int, y_ = (([] : List Int)) := ⟨_, rfl⟩
         replace H : (if y605.length + x10_2.length < 17592186044416 then (furrowlaw11_FormBox.l1 k2 x10_2 x11_2 t600 t601 (y605 ++ x10_2) 4611686018427387904 (-4611686018427387904) true x587000_2 (wrap64 (a1))) else (none)) = some true := by first | (rw [hy605]; with_reducible exact H) | (have H2_ := (Option.bind_some _ _).symm.trans H; rw [hy605]; with_reducible exact H2_) | (have H2_ := (Option.bind_some _ _).symm.trans H; with_reducible exact H2_) | with_reducible exact H | (rw [hy605]; exact H) | exact H
         have Ny605 := mk0 hy605
         clear hy605
         by_cases c30 : y605.length + x10_2.length < 17592186044416
         ·rw [if_pos c30] at H
          have LMc30 := mk0 c30
          clear c30
          obtain ⟨y608, hy608⟩ : ∃ y_ : List Int, y_ = (y605 ++ x10_2) := ⟨_, rfl⟩
          replace H : (furrowlaw11_FormBox.l1 k2 x10_2 x11_2 t600 t601 y608 4611686018427387904 (-4611686018427387904) true x587000_2 (wrap64 (a1))) = some true := by first | (rw [hy608]; with_reducible exact H) | (have H2_ := (Option.bind_some _ _).symm.trans H; rw [hy608]; with_reducible exact H2_) | (have H2_ := (Option.bind_some _ _).symm.trans H; with_reducible exact H2_) | with_reducible exact H | (rw [hy608]; exact H) | exact H
          have Ny608 := mk0 hy608
          clear hy608
          have H' := mk0 H
          clear H
          have hcz31_0 : wr.cell? ⟨gb586, 0, none⟩ = some (u587000) := (blk_cell BK586.out 0).trans rfl
          have hcz31_1 : wr.cell? ⟨gb586, 1, none⟩ = some (.int .i64 (wrap64 (a1))) := (blk_cell BK586.out 1).trans rfl
          have hfz31_0 := blk_frozen BK586.out 0
          have hfz31_1 := blk_frozen BK586.out 1
          obtain ⟨Ao32, co32, eo32⟩ := Kd.R_slice HO_587000.out
          subst eo32
          obtain ⟨Ao33, co33, eo33⟩ := Kd.R_slice HO_10.out
          subst eo33
          obtain ⟨Ao34, co34, eo34⟩ := Kd.R_slice HO_11.out
          subst eo34
          go_wp2_with (first | ((with_reducible refine gate_callee (f := 21) rfl ?_); refine goesL_ (some 88) rfl rfl Tryd.func21 (by kernel_rfl) rfl #[.agg #[.slice Ao32 x587000_2.length co32, .int .i64 (wrap64 (a1))], .slice Ao33 x10_2.length co33, .slice Ao34 x11_2.length co34] rfl (by (try simp only [List.map_toArray, List.map_cons, List.map_nil]); first | done | rfl | (simp only [List.length_drop, List.length_take]; rfl)) ?_; (with_reducible refine (lin_Range.calls k2 _ _ x587000_2 (wrap64 (a1)) _ _ x10_2 _ _ x11_2 t600 t601 t602 _ ?side1 ?side2 ?side3 ?side4 ?side5 ?side6 A28.out).mono ?_); (case side1 => repeat (first | exact (Kd.R_reads' HO_587000.out).2.2 | (with_reducible refine Kd.C_alloc ?_ _) | (with_reducible refine Kd.C_drewN ?_ _) | (with_reducible refine Kd.C_drew ?_))); (case side2 => exact (Kd.R_reads' HO_587000.out).2.1); (case side3 => repeat (first | exact (Kd.R_reads' HO_10.out).2.2 | (with_reducible refine Kd.C_alloc ?_ _) | (with_reducible refine Kd.C_drewN ?_ _) | (with_reducible refine Kd.C_drew ?_))); (case side4 => exact (Kd.R_reads' HO_10.out).2.1); (case side5 => repeat (first | exact (Kd.R_reads' HO_11.out).2.2 | (with_reducible refine Kd.C_alloc ?_ _) | (with_reducible refine Kd.C_drewN ?_ _) | (with_reducible refine Kd.C_drew ?_))); (case side6 => exact (Kd.R_reads' HO_11.out).2.1); rintro e w35 ⟨v603, rfl, ho0, hb⟩; refine ⟨_, rfl, ?_⟩; have n0_ := mk0 (Kd.R_below (uR HO_10.out) hb); have n1_ := mk0 (Kd.R_below (uR HO_11.out) hb); have n2_ := mk0 (Kd.R_below (uR HO_587000.out) hb); have n3_ := mk0 (Kd.R_lower ho0 (below_size (by repeat (first | (with_reducible first | exact HB.out | apply bA | apply bN | apply bD | refine bS ?_ (by assumption)) | exact HB.out)))); have n4_ := mk0 (blk_below (g := gb586) (o := .cells #[.slice Ao32 x587000_2.length co32, .int .i64 (wrap64 (a1))] 24 (0, 0)) (uB BK586.out) hb); have n5_ := mk0 (below_step (by repeat (first | (with_reducible first | exact HB.out | apply bA | apply bN | apply bD | refine bS ?_ (by assumption)) | exact HB.out)) hb); clear HO_10; clear HO_11; clear HO_587000; clear BK586; clear HB; have HO_10 := n0_; have HO_11 := n1_; have HO_587000 := n2_; have HO604 := n3_; have BK586 := n4_; have HB := n5_; clear n0_ n1_ n2_ n3_ n4_ n5_; (try clear hb); (try clear hb2); (try clear hk); (try clear hi); (try clear ho0); (first | (have EHO604 := errV_no HO604.out (by with_reducible assumption)) | (have EHO604 := errV_yes HO604.out (by with_reducible assumption)) | skip)) | ((with_reducible refine gate_dst (N := 94) rfl ?_); (try (refine gate_guard (by rfl) ?_; dsimp only)); refine Kd.R_lit (Kd.int .i64) _ 2 ?hg (N := 94) ?hd (xs := ([] : List Int)) (inner := []) (ok := fun _ => True) (okp := fun _ => True) ?hr ?hp (fun _ hk => hk) trivial (Below.refl _ _) (Nat.le_refl _) (by simp) ?_; (case hd => rfl); (case hg => rfl); (case hr => first | (go_simp; done) | (go_simp; rfl)); (case hp => exact (Reps.none _ _)); intro v606 w36 ho37 hb hg_ hnew_; clear hg_ hnew_; (first | rw [← Ny605.out] at ho37 | (simp only [Int.reduceToNat] at ho37; rw [← Ny605.out] at ho37)); have n0_ := mk0 (Kd.R_elder' (uR HO_10.out) (Kd.R_base ho37) hb); have n1_ := mk0 (Kd.R_elder' (uR HO_11.out) (Kd.R_base ho37) hb); have n2_ := mk0 (Kd.R_elder' (uR HO_587000.out) (Kd.R_base ho37) hb); have n3_ := mk0 (Kd.R_below (uR HO604.out) hb); have n4_ := mk0 (Kd.R_lower (Kd.R_new' (Kd.R_new' (Kd.R_new' ho37 (Kd.R_lt (uR HO_10.out))) (Kd.R_lt (uR HO_11.out))) (Kd.R_lt (uR HO_587000.out))) (below_size (by repeat (first | (with_reducible first | exact HB.out | apply bA | apply bN | apply bD | refine bS ?_ (by assumption)) | exact HB.out)))); have n5_ := mk0 (blk_below (g := gb586) (o := .cells #[.slice Ao32 x587000_2.length co32, .int .i64 (wrap64 (a1))] 24 (0, 0)) (uB BK586.out) hb); have n6_ := mk0 (below_step (by repeat (first | (with_reducible first | exact HB.out | apply bA | apply bN | apply bD | refine bS ?_ (by assumption)) | exact HB.out)) hb); clear HO_10; clear HO_11; clear HO_587000; clear HO604; clear BK586; clear HB; have HO_10 := n0_; have HO_11 := n1_; have HO_587000 := n2_; have HO604 := n3_; have HO607 := n4_; have BK586 := n5_; have HB := n6_; clear n0_ n1_ n2_ n3_ n4_ n5_ n6_; clear hb ho37) | ((with_reducible refine gate_builtin (b := .append) (xs := #[.tmp 94, .tmp 95]) rfl ?_); (try (refine gate_guard (by rfl) ?_; dsimp only)); at_builtin; refine Kd.R_append_rows (Kd.int .i64) (w0 := w) w.heap.size rfl (.tmp 94) (.tmp 95) 22 2 (.int .i64 0) 8 rfl Tryd.underlying22 info2 rfl (by decide) (by omega) v606 y605 x10_2 _ _ _ (fun k_ => some k_ ≠ (.slice Ao33 x10_2.length co33 : Value).ownBlock ∧ some k_ ≠ (.slice Ao34 x11_2.length co34 : Value).ownBlock ∧ some k_ ≠ (.slice Ao32 x587000_2.length co32 : Value).ownBlock) (fun _ => False) rfl rfl ?aO ?aR (fun _ _ h => h) (fun _ h => h.elim) ?aF ?aB ?aS ?aL ?_; (case aR => repeat (first | exact (Kd.R_reads' HO_10.out).2.2 | (with_reducible refine Kd.C_alloc ?_ _) | (with_reducible refine Kd.C_drewN ?_ _) | (with_reducible refine Kd.C_drew ?_))); (case aB => exact (by repeat (first | (with_reducible first | exact HB.out | apply bA | apply bN | apply bD | refine bS ?_ (by assumption)) | exact HB.out))); (case aF => exact (fun k_ hk => ⟨Kd.fresh' (Kd.R_lt (uR HO_10.out)) k_ hk, Kd.fresh' (Kd.R_lt (uR HO_11.out)) k_ hk, Kd.fresh' (Kd.R_lt (uR HO_587000.out)) k_ hk⟩)); (case aO => exact (uR (Kd.R_mono HO607.out (fun _ hk => ⟨hk.1.1.2, ⟨hk.1.2, hk.2⟩⟩)))); (case aS => exact (below_size (by repeat (first | (with_reducible first | exact HB.out | apply bA | apply bN | apply bD | refine bS ?_ (by assumption)) | exact HB.out)))); (case aL => have := LMc30.out; omega); intro v609 w38 ho hb hg hat; rw [← Ny608.out] at ho; have n0_ := mk0 (Kd.R_after (ok := (fun k_ => some k_ ≠ (.slice Ao34 x11_2.length co34 : Value).ownBlock ∧ some k_ ≠ (.slice Ao32 x587000_2.length co32 : Value).ownBlock)) (uR HO_10.out) hg hat); have n1_ := mk0 (Kd.R_after (ok := (fun k_ => some k_ ≠ (.slice Ao33 x10_2.length co33 : Value).ownBlock ∧ some k_ ≠ (.slice Ao32 x587000_2.length co32 : Value).ownBlock)) (uR HO_11.out) hg hat); have n2_ := mk0 (Kd.R_after (ok := (fun k_ => some k_ ≠ (.slice Ao33 x10_2.length co33 : Value).ownBlock ∧ some k_ ≠ (.slice Ao34 x11_2.length co34 : Value).ownBlock)) (uR HO_587000.out) hg hat); have n3_ := mk0 (blk_grown (g := gb586) (o := .cells #[.slice Ao32 x587000_2.length co32, .int .i64 (wrap64 (a1))] 24 (0, 0)) (uB BK586.out) hg (Kd.R_ne HO607.out BK586.out (by decide))); have n4_ := mk0 (Kd.R_over' (uR HO604.out) (Kd.R_typed (uR HO607.out)) (by decide) hg); have n5_ := mk0 (hb); have n6_ := mk0 (ho); clear HO_10; clear HO_11; clear HO_587000; clear BK586; clear HO604; clear HB; clear HO607; have HO_10 := n0_; have HO_11 := n1_; have HO_587000 := n2_; have BK586 := n3_; have HO604 := n4_; have HB := n5_; have HO610 := n6_; clear n0_ n1_ n2_ n3_ n4_ n5_ n6_; clear ho hb hg hat))
          go_loopg [17, 18, 19] k2 (fun kq v17 v18 v19 w' => ∃ (x16_3 : List Int) (x17_3 : Int) (x18_3 : Int) (x19_3 : Bool), v17 = .int .i64 x17_3 ∧ v18 = .int .i64 x18_3 ∧ v19 = .bool x19_3 ∧ Aside0 (furrowlaw11_FormBox.l1 kq x10_2 x11_2 t600 t601 x16_3 x17_3 x18_3 x19_3 x587000_2 (wrap64 (a1)) = some true) ∧ Aside0 (kq ≤ k2) ∧ Aside0 (Kd.R (Kd.int .i64) 2 w' w.heap.size (fun k_ => some k_ ≠ ((.slice Ao34 x11_2.length co34) : Value).ownBlock ∧ some k_ ≠ (v609 : Value).ownBlock ∧ some k_ ≠ ((.slice Ao32 x587000_2.length co32) : Value).ownBlock) (.slice Ao33 x10_2.length co33) x10_2) ∧ Aside0 (Kd.R (Kd.int .i64) 2 w' w.heap.size (fun k_ => some k_ ≠ ((.slice Ao33 x10_2.length co33) : Value).ownBlock ∧ some k_ ≠ (v609 : Value).ownBlock ∧ some k_ ≠ ((.slice Ao32 x587000_2.length co32) : Value).ownBlock) (.slice Ao34 x11_2.length co34) x11_2) ∧ Aside0 (Kd.R (Kd.int .i64) 2 w' w.heap.size (fun k_ => some k_ ≠ ((.slice Ao33 x10_2.length co33) : Value).ownBlock ∧ some k_ ≠ ((.slice Ao34 x11_2.length co34) : Value).ownBlock ∧ some k_ ≠ ((.slice Ao32 x587000_2.length co32) : Value).ownBlock) v609 x16_3) ∧ Aside0 (Kd.R (Kd.int .i64) 2 w' w.heap.size (fun k_ => some k_ ≠ ((.slice Ao33 x10_2.length co33) : Value).ownBlock ∧ some k_ ≠ ((.slice Ao34 x11_2.length co34) : Value).ownBlock ∧ some k_ ≠ (v609 : Value).ownBlock) (.slice Ao32 x587000_2.length co32) x587000_2) ∧ Aside0 (w'.heap[gb586]? = some (.cells #[(.slice Ao32 x587000_2.length co32), .int .i64 (wrap64 (a1))] 24 (0, 0))) ∧ Aside0 (Below w.heap.size w w'))
          case atStart => exact ⟨(y608), (4611686018427387904), ((-4611686018427387904)), (true), (by first | rfl | (simp; done) | (simp [*]; done) | (simp [bne_nil_, beq_nil_]; done)), (by first | rfl | (simp; done) | (simp [*]; done) | (simp [bne_nil_, beq_nil_]; done)), (by first | rfl | (simp; done) | (simp [*]; done) | (simp [bne_nil_, beq_nil_]; done)), H', ⟨Nat.le_refl _⟩, ⟨uR (Kd.R_mono HO_10.out (fun _ hk => ⟨hk.1.1, ⟨hk.2, hk.1.2⟩⟩))⟩, ⟨uR (Kd.R_mono HO_11.out (fun _ hk => ⟨hk.1.1, ⟨hk.2, hk.1.2⟩⟩))⟩, ⟨uR HO610.out⟩, ⟨uR (Kd.R_mono HO_587000.out (fun _ hk => ⟨hk.1.1, ⟨hk.1.2, hk.2⟩⟩))⟩, ⟨uB BK586.out⟩, ⟨by repeat (first | (with_reducible first | exact HB.out | apply bA | apply bN | apply bD | refine bS ?_ (by assumption)) | exact HB.out)⟩⟩
          case round =>
           clear H'
           try clear c1
           try clear c2
           try clear p2
           try clear c3
           try clear p5
           try clear q5
           try clear hx5
           try clear c6
           try clear p6
           try clear c9
           try clear c9b0
           try clear c9b1
           try clear c10
           try clear c10b0
           try clear c10b1
           try clear c11
           try clear c14
           try clear c14b0
           try clear c15
           try clear c15b0
           try clear c16
           try clear c17
           try clear c17b0
           try clear c18
           try clear c19
           try clear c19b0
           try clear c20
           try clear c21
           try clear c29
           try clear c29b0
           try clear c29b1
           try clear c30
           try clear hcz13_0
           try clear hcz13_1
           try clear hcz31_0
           try clear hcz31_1
           try clear hfz13_0
           try clear hfz13_1
           try clear hfz31_0
           try clear hfz31_1
           try clear hx587_0
           try clear hx591_0
           try clear hx595_0
           try clear hx596_0
           try clear p2
           try clear p587
           try clear p591
           try clear p595
           try clear p596
           try clear p6
           try clear q587
           try clear q591
           try clear q595
           try clear q596
           obtain ⟨x16_3, x17_3, x18_3, x19_3, rfl, rfl, rfl, HA, HK3, HO_10, HO_11, HO_16, HO_587000, BK586, HB⟩ := hrel
           cases gk with
           | zero => exact absurd HA.out (by simp [furrowlaw11_FormBox.l1])
           | succ k3 =>
            have H := HA.out
            clear HA
            simp only [furrowlaw11_FormBox.l1] at H
            by_cases c39 : x19_3 = true
            ·subst c39
             have H1 : (furrowlaw11_FormBox.l2 k3 x10_2 x11_2 t600 t601 x16_3 x17_3 x18_3 (wrap64 (a1)) 0 x587000_2 (wrap64 (a1))) = some true := by rw [if_pos rfl] at H; first | done | exact H
             clear H
             have H := H1
             clear H1
             have H' := mk0 H
             clear H
             have hcz40_0 : wr.cell? ⟨gb586, 0, none⟩ = some (.slice Ao32 x587000_2.length co32) := (blk_cell BK586.out 0).trans rfl
             have hcz40_1 : wr.cell? ⟨gb586, 1, none⟩ = some (.int .i64 (wrap64 (a1))) := (blk_cell BK586.out 1).trans rfl
             have hfz40_0 := blk_frozen BK586.out 0
             have hfz40_1 := blk_frozen BK586.out 1
             go_wp2
             go_loopg [20, 21] k3 (fun kq v20 v21 w' => ∃ (x20_4 : Int) (x21_4 : Int), v20 = .int .i64 x20_4 ∧ v21 = .int .i64 x21_4 ∧ Aside0 (furrowlaw11_FormBox.l2 kq x10_2 x11_2 t600 t601 x16_3 x17_3 x18_3 x20_4 x21_4 x587000_2 (wrap64 (a1)) = some true) ∧ Aside0 (kq ≤ k3) ∧ Aside0 (Kd.R (Kd.int .i64) 2 w' w.heap.size (fun k_ => some k_ ≠ ((.slice Ao34 x11_2.length co34) : Value).ownBlock ∧ some k_ ≠ (v609 : Value).ownBlock ∧ some k_ ≠ ((.slice Ao32 x587000_2.length co32) : Value).ownBlock) (.slice Ao33 x10_2.length co33) x10_2) ∧ Aside0 (Kd.R (Kd.int .i64) 2 w' w.heap.size (fun k_ => some k_ ≠ ((.slice Ao33 x10_2.length co33) : Value).ownBlock ∧ some k_ ≠ (v609 : Value).ownBlock ∧ some k_ ≠ ((.slice Ao32 x587000_2.length co32) : Value).ownBlock) (.slice Ao34 x11_2.length co34) x11_2) ∧ Aside0 (Kd.R (Kd.int .i64) 2 w' w.heap.size (fun k_ => some k_ ≠ ((.slice Ao33 x10_2.length co33) : Value).ownBlock ∧ some k_ ≠ ((.slice Ao34 x11_2.length co34) : Value).ownBlock ∧ some k_ ≠ ((.slice Ao32 x587000_2.length co32) : Value).ownBlock) v609 x16_3) ∧ Aside0 (Kd.R (Kd.int .i64) 2 w' w.heap.size (fun k_ => some k_ ≠ ((.slice Ao33 x10_2.length co33) : Value).ownBlock ∧ some k_ ≠ ((.slice Ao34 x11_2.length co34) : Value).ownBlock ∧ some k_ ≠ (v609 : Value).ownBlock) (.slice Ao32 x587000_2.length co32) x587000_2) ∧ Aside0 (w'.heap[gb586]? = some (.cells #[(.slice Ao32 x587000_2.length co32), .int .i64 (wrap64 (a1))] 24 (0, 0))) ∧ Aside0 (Below w.heap.size w w'))
             case atStart => exact ⟨((wrap64 (a1))), (0), (by first | rfl | (simp; done) | (simp [*]; done) | (simp [bne_nil_, beq_nil_]; done)), (by first | rfl | (simp; done) | (simp [*]; done) | (simp [bne_nil_, beq_nil_]; done)), H', ⟨Nat.le_refl _⟩, ⟨uR HO_10.out⟩, ⟨uR HO_11.out⟩, ⟨uR HO_16.out⟩, ⟨uR HO_587000.out⟩, ⟨uB BK586.out⟩, ⟨by repeat (first | (with_reducible first | exact HB.out | apply bA | apply bN | apply bD | refine bS ?_ (by assumption)) | exact HB.out)⟩⟩
             case round =>
              clear H'
              try clear c1
              try clear c2
              try clear p2
              try clear c3
              try clear p5
              try clear q5
              try clear hx5
              try clear c6
              try clear p6
              try clear c9
              try clear c9b0
              try clear c9b1
              try clear c10
              try clear c10b0
              try clear c10b1
              try clear c11
              try clear c14
              try clear c14b0
              try clear c15
              try clear c15b0
              try clear c16
              try clear c17
              try clear c17b0
              try clear c18
              try clear c19
              try clear c19b0
              try clear c20
              try clear c21
              try clear c29
              try clear c29b0
              try clear c29b1
              try clear c30
              try clear c39
              try clear hcz13_0
              try clear hcz13_1
              try clear hcz31_0
              try clear hcz31_1
              try clear hcz40_0
              try clear hcz40_1
              try clear hfz13_0
              try clear hfz13_1
              try clear hfz31_0
              try clear hfz31_1
              try clear hfz40_0
              try clear hfz40_1
              try clear hx587_0
              try clear hx591_0
              try clear hx595_0
              try clear hx596_0
              try clear p2
              try clear p5
              try clear p587
              try clear p591
              try clear p595
              try clear p596
              try clear p6
              try clear q5
              try clear q587
              try clear q591
              try clear q595
              try clear q596
              obtain ⟨x20_4, x21_4, rfl, rfl, HA, HK4, HO_10, HO_11, HO_16, HO_587000, BK586, HB⟩ := hrel
              cases gk with
              | zero => exact absurd HA.out (by simp [furrowlaw11_FormBox.l2])
              | succ k4 =>
               have H := HA.out
               clear HA
               simp only [furrowlaw11_FormBox.l2] at H
               by_cases c41 : x21_4 < (x16_3.length : Int)
               ·rw [if_pos c41] at H
                have c41b0 : decide (x21_4 < (x16_3.length : Int)) = true := decide_eq_true c41
                clear c41
                by_cases c42 : 0 ≤ x21_4
                ·rw [if_pos c42] at H
                 have c42b0 : decide (0 ≤ x21_4) = true := decide_eq_true c42
                 clear c42
                 by_cases c43 : x21_4 < (x587000_2.length : Int)
                 ·rw [if_pos c43] at H
                  have c43b0 : decide (x21_4 < (x587000_2.length : Int)) = true := decide_eq_true c43
                  clear c43
                  have H' := mk0 H
                  clear H
                  obtain ⟨Ao44, co44, eo44⟩ := Kd.R_slice HO_16.out
                  subst eo44
                  try go_wp2
                  have n0_ := mk0 (Kd.R_drew HO_10.out)
                  have n1_ := mk0 (Kd.R_drew HO_11.out)
                  have n2_ := mk0 (Kd.R_drew HO_16.out)
                  have n3_ := mk0 (Kd.R_drew HO_587000.out)
                  have n4_ := mk0 (blk_drew BK586.out)
                  have n5_ := mk0 (below_drew1 HB.out)
                  clear HO_10
                  clear HO_11
                  clear HO_16
                  clear HO_587000
                  clear BK586
                  clear HB
                  have HO_10 := n0_
                  have HO_11 := n1_
                  have HO_16 := n2_
                  have HO_587000 := n3_
                  have BK586 := n4_
                  have HB := n5_
                  clear n0_ n1_ n2_ n3_ n4_ n5_
                  have p611 : 0 ≤ (x21_4 : Int) := of_decide_eq_true (by first | (with_reducible assumption) | assumption)
                  have q611 : x21_4 < (x587000_2.length : Int) := of_decide_eq_true (by first | (with_reducible assumption) | assumption)
                  obtain ⟨ad611, e611, hx611_0⟩ := Kd.at_int (Kd.R_reads' HO_587000.out).2.2 x21_4 p611 q611
                  cases e611
                  replace p611 := eq_true p611
                  replace q611 := eq_true q611
                  have p612 : 0 ≤ (x21_4 : Int) := of_decide_eq_true (by first | (with_reducible assumption) | assumption)
                  have q612 : x21_4 < (x16_3.length : Int) := of_decide_eq_true (by first | (with_reducible assumption) | assumption)
                  obtain ⟨ad612, e612, hx612_0⟩ := Kd.at_int (Kd.R_reads' HO_16.out).2.2 x21_4 p612 q612
                  cases e612
                  replace p612 := eq_true p612
                  replace q612 := eq_true q612
                  refine start_ (n := 13) (S := fun w' => w'.cell? ⟨gb586, 0, none⟩ = some (.slice (some ad611) x587000_2.length co32) ∧ w'.cell? ⟨gb586, 1, none⟩ = some (.int .i64 (wrap64 (a1))) ∧ w'.cell? (ad611.add (x21_4).toNat) = some (.int .i64 (rd x587000_2 x21_4)) ∧ w'.cell? (ad612.add (x21_4).toNat) = some (.int .i64 (rd x16_3 x21_4))) (ds := []) #[false, false, false, false, false, false, false, false, false, false, false, false, false] (by kernel_rfl) rfl rfl ⟨(blk_cell BK586.out 0).trans rfl, (blk_cell BK586.out 1).trans rfl, hx611_0, hx612_0⟩ (fun hHeld => ?_); refine with_tabW furrowlaw11_FormBox.tab24 furrowlaw11_FormBox.bits24 (fun HT_ HW_ => ?_)
                  generalize wr.drew = w45 at HO_10 HO_11 HO_16 HO_587000 BK586 HB hx611_0 hx612_0 hHeld ⊢
                  refine pure_ (i := 0) (N := some 106) (v := ?_) (a' := ?_) #[true, false, false, false, false, false, false, false, false, false, false, false, false] rfl rfl (any_of HT_.out (by kernel_rfl)) (fun _ _ _ h => h) (Or.inl ⟨by rfl, ?_⟩) ?_ ?_
                  rotate_left
                  ·intro w'
                   go_simp
                   with_reducible rfl
                  rotate_left
                  ·simp only [Act.put, List.setIfInBounds_toArray, List.set_cons_zero, List.set_cons_succ, i64_w, i32_w]
                   rfl
                  refine pure_ (i := 1) (N := some 107) (v := ?_) (a' := ?_) #[true, true, false, false, false, false, false, false, false, false, false, false, false] rfl rfl (any_of HT_.out (by kernel_rfl)) (fun _ _ _ h => h) (Or.inl ⟨by rfl, ?_⟩) ?_ ?_
                  rotate_left
                  ·intro w'
                   go_simp
                   with_reducible rfl
                  rotate_left
                  ·simp only [Act.put, List.setIfInBounds_toArray, List.set_cons_zero, List.set_cons_succ, i64_w, i32_w]
                   rfl
                  refine pure_ (i := 3) (N := some 109) (v := ?_) (a' := ?_) #[true, true, false, true, false, false, false, false, false, false, false, false, false] rfl rfl (any_of HT_.out (by kernel_rfl)) (fun _ _ _ h => h) (Or.inl ⟨by rfl, ?_⟩) ?_ ?_
                  rotate_left
                  ·intro w'
                   go_simp
                   with_reducible rfl
                  rotate_left
                  ·simp only [Act.put, List.setIfInBounds_toArray, List.set_cons_zero, List.set_cons_succ, i64_w, i32_w]
                   rfl
                  refine pure_ (i := 6) (N := some 112) (v := ?_) (a' := ?_) #[true, true, false, true, false, false, true, false, false, false, false, false, false] rfl rfl (any_of HT_.out (by kernel_rfl)) (fun _ _ _ h => h) (Or.inl ⟨by rfl, ?_⟩) ?_ ?_
                  rotate_left
                  ·intro w'
                   go_simp
                   with_reducible rfl
                  rotate_left
                  ·simp only [Act.put, List.setIfInBounds_toArray, List.set_cons_zero, List.set_cons_succ, i64_w, i32_w]
                   rfl
                  refine pure_ (i := 7) (N := some 113) (v := ?_) (a' := ?_) #[true, true, false, true, false, false, true, true, false, false, false, false, false] rfl rfl (any_of HT_.out (by kernel_rfl)) (fun _ _ _ h => h) (Or.inl ⟨by rfl, ?_⟩) ?_ ?_
                  rotate_left
                  ·intro w'
                   go_simp
                   with_reducible rfl
                  rotate_left
                  ·simp only [Act.put, List.setIfInBounds_toArray, List.set_cons_zero, List.set_cons_succ, i64_w, i32_w]
                   rfl
                  refine pure_ (i := 8) (N := some 114) (v := ?_) (a' := ?_) #[true, true, false, true, false, false, true, true, true, false, false, false, false] rfl rfl (any_of HT_.out (by kernel_rfl)) (fun _ _ _ h => h) (Or.inl ⟨by rfl, ?_⟩) ?_ ?_
                  rotate_left
                  ·intro w'
                   go_simp
                   with_reducible rfl
                  rotate_left
                  ·simp only [Act.put, List.setIfInBounds_toArray, List.set_cons_zero, List.set_cons_succ, i64_w, i32_w]
                   rfl
                  refine take_ (i := 2) (N := some 108) (v := ?_) (a' := ?_) #[true, true, true, true, false, false, true, true, true, false, false, false, false] rfl rfl (take_ofW HT_.out HW_.out (by kernel_rfl)) (fun _ _ _ h => h) (Or.inl ⟨by rfl, ?_⟩) hHeld ?_ ?_
                  rotate_left
                  ·rintro w' ⟨s0, s1, s2, s3⟩
                   go_simp
                   with_reducible rfl
                  rotate_left
                  ·simp only [Act.put, List.setIfInBounds_toArray, List.set_cons_zero, List.set_cons_succ, i64_w, i32_w]
                   rfl
                  refine pure_ (i := 4) (N := some 110) (v := ?_) (a' := ?_) #[true, true, true, true, true, false, true, true, true, false, false, false, false] rfl rfl (any_of HT_.out (by kernel_rfl)) (fun _ _ _ h => h) (Or.inl ⟨by rfl, ?_⟩) ?_ ?_
                  rotate_left
                  ·intro w'
                   go_simp
                   with_reducible rfl
                  rotate_left
                  ·simp only [Act.put, List.setIfInBounds_toArray, List.set_cons_zero, List.set_cons_succ, i64_w, i32_w]
                   rfl
                  refine take_ (i := 5) (N := some 111) (v := ?_) (a' := ?_) #[true, true, true, true, true, true, true, true, true, false, false, false, false] rfl rfl (take_ofW HT_.out HW_.out (by kernel_rfl)) (fun _ _ _ h => h) (Or.inl ⟨by rfl, ?_⟩) hHeld ?_ ?_
                  rotate_left
                  ·rintro w' ⟨s0, s1, s2, s3⟩
                   go_simp
                   with_reducible rfl
                  rotate_left
                  ·simp only [Act.put, List.setIfInBounds_toArray, List.set_cons_zero, List.set_cons_succ, i64_w, i32_w]
                   rfl
                  refine take_ (i := 9) (N := some 115) (v := ?_) (a' := ?_) #[true, true, true, true, true, true, true, true, true, true, false, false, false] rfl rfl (take_ofW HT_.out HW_.out (by kernel_rfl)) (fun _ _ _ h => h) (Or.inl ⟨by rfl, ?_⟩) hHeld ?_ ?_
                  rotate_left
                  ·rintro w' ⟨s0, s1, s2, s3⟩
                   go_simp
                   with_reducible rfl
                  rotate_left
                  ·simp only [Act.put, List.setIfInBounds_toArray, List.set_cons_zero, List.set_cons_succ, i64_w, i32_w]
                   rfl
                  refine pure_ (i := 10) (N := some 116) (v := ?_) (a' := ?_) #[true, true, true, true, true, true, true, true, true, true, true, false, false] rfl rfl (any_of HT_.out (by kernel_rfl)) (fun _ _ _ h => h) (Or.inl ⟨by rfl, ?_⟩) ?_ ?_
                  rotate_left
                  ·intro w'
                   go_simp
                   with_reducible rfl
                  rotate_left
                  ·simp only [Act.put, List.setIfInBounds_toArray, List.set_cons_zero, List.set_cons_succ, i64_w, i32_w]
                   rfl
                  refine pure_ (i := 11) (N := some 117) (v := ?_) (a' := ?_) #[true, true, true, true, true, true, true, true, true, true, true, true, false] rfl rfl (any_of HT_.out (by kernel_rfl)) (fun _ _ _ h => h) (Or.inl ⟨by rfl, ?_⟩) ?_ ?_
                  rotate_left
                  ·intro w'
                   go_simp
                   with_reducible rfl
                  rotate_left
                  ·simp only [Act.put, List.setIfInBounds_toArray, List.set_cons_zero, List.set_cons_succ, i64_w, i32_w]
                   rfl
                  refine pure_ (i := 12) (N := some 20) (v := ?_) (a' := ?_) #[true, true, true, true, true, true, true, true, true, true, true, true, true] rfl rfl (any_of HT_.out (by kernel_rfl)) (fun _ _ _ h => h) (Or.inl ⟨by rfl, ?_⟩) ?_ ?_
                  rotate_left
                  ·intro w'
                   go_simp
                   with_reducible rfl
                  rotate_left
                  ·simp only [Act.put, List.setIfInBounds_toArray, List.set_cons_zero, List.set_cons_succ, i64_w, i32_w]
                   rfl
                  refine done_ (done_of HT_.out (by kernel_rfl)) ?_
                  try go_wp2
                  go_roundg k4
                  case measure => have := HJ6.out; have := HK2.out; have := HK3.out; have := HK4.out; omega
                  case rel => exact ⟨(wrap64 (x20_4 + (wrap64 ((rd x587000_2 x21_4) * (rd x16_3 x21_4))))), (wrap64 (x21_4 + 1)), (by first | rfl | (simp; done) | (simp [*]; done) | (simp [bne_nil_, beq_nil_]; done)), (by first | rfl | (simp; done) | (simp [*]; done) | (simp [bne_nil_, beq_nil_]; done)), H', ⟨by have := HJ6.out; have := HK2.out; have := HK3.out; have := HK4.out; omega⟩, ⟨uR HO_10.out⟩, ⟨uR HO_11.out⟩, ⟨uR HO_16.out⟩, ⟨uR HO_587000.out⟩, ⟨uB BK586.out⟩, ⟨by repeat (first | (with_reducible first | exact HB.out | apply bA | apply bN | apply bD | refine bS ?_ (by assumption)) | exact HB.out)⟩⟩
                 ·rw [if_neg c43] at H
                  exact absurd H (by simp)
                ·rw [if_neg c42] at H
                 exact absurd H (by simp)
               ·rw [if_neg c41] at H
                have c41b0 : decide (x21_4 < (x16_3.length : Int)) = false := decide_eq_false c41
                clear c41
                obtain ⟨ji46, hji46⟩ : ∃ j_ : Int, (mn x17_3 x20_4) = j_ := ⟨_, rfl⟩
                replace H : (furrowlaw11_FormBox.l3 k4 x10_2 x11_2 t600 t601 x16_3 ji46 (mx x18_3 x20_4) false 0 x587000_2 (wrap64 (a1))) = some true := by first | (rw [hji46] at H; exact H) | (simp only [hji46] at H ⊢; exact H)
                have hji46_ : (if x20_4 < x17_3 then x20_4 else x17_3) = ji46 := hji46
                obtain ⟨ji47, hji47⟩ : ∃ j_ : Int, (mx x18_3 x20_4) = j_ := ⟨_, rfl⟩
                replace H : (furrowlaw11_FormBox.l3 k4 x10_2 x11_2 t600 t601 x16_3 ji46 ji47 false 0 x587000_2 (wrap64 (a1))) = some true := by first | (rw [hji47] at H; exact H) | (simp only [hji47] at H ⊢; exact H)
                have hji47_ : (if x18_3 < x20_4 then x20_4 else x18_3) = ji47 := hji47
                have H' := mk0 H
                clear H
                obtain ⟨Ao48, co48, eo48⟩ := Kd.R_slice HO_16.out
                subst eo48
                go_wp2
                go_loopg [19, 22] k4 (fun kq v19 v22 w' => ∃ (x16_5 : List Int) (x19_5 : Bool) (x22_5 : Int), v19 = .bool x19_5 ∧ v22 = .int .i64 x22_5 ∧ Aside0 (furrowlaw11_FormBox.l3 kq x10_2 x11_2 t600 t601 x16_5 ji46 ji47 x19_5 x22_5 x587000_2 (wrap64 (a1)) = some true) ∧ Aside0 (kq ≤ k4) ∧ Aside0 (Kd.R (Kd.int .i64) 2 w' w.heap.size (fun k_ => some k_ ≠ ((.slice Ao34 x11_2.length co34) : Value).ownBlock ∧ some k_ ≠ ((.slice Ao48 x16_3.length co48) : Value).ownBlock ∧ some k_ ≠ ((.slice Ao32 x587000_2.length co32) : Value).ownBlock) (.slice Ao33 x10_2.length co33) x10_2) ∧ Aside0 (Kd.R (Kd.int .i64) 2 w' w.heap.size (fun k_ => some k_ ≠ ((.slice Ao33 x10_2.length co33) : Value).ownBlock ∧ some k_ ≠ ((.slice Ao48 x16_3.length co48) : Value).ownBlock ∧ some k_ ≠ ((.slice Ao32 x587000_2.length co32) : Value).ownBlock) (.slice Ao34 x11_2.length co34) x11_2) ∧ Aside0 (Kd.R (Kd.int .i64) 2 w' w.heap.size (fun k_ => some k_ ≠ ((.slice Ao33 x10_2.length co33) : Value).ownBlock ∧ some k_ ≠ ((.slice Ao34 x11_2.length co34) : Value).ownBlock ∧ some k_ ≠ ((.slice Ao32 x587000_2.length co32) : Value).ownBlock) (.slice Ao48 x16_3.length co48) x16_5) ∧ Aside0 (Kd.R (Kd.int .i64) 2 w' w.heap.size (fun k_ => some k_ ≠ ((.slice Ao33 x10_2.length co33) : Value).ownBlock ∧ some k_ ≠ ((.slice Ao34 x11_2.length co34) : Value).ownBlock ∧ some k_ ≠ ((.slice Ao48 x16_3.length co48) : Value).ownBlock) (.slice Ao32 x587000_2.length co32) x587000_2) ∧ Aside0 (w'.heap[gb586]? = some (.cells #[(.slice Ao32 x587000_2.length co32), .int .i64 (wrap64 (a1))] 24 (0, 0))) ∧ Aside0 (Below w.heap.size w w'))
                case atStart => exact ⟨(x16_3), (false), (0), (by first | rfl | (simp; done) | (simp [*]; done) | (simp [bne_nil_, beq_nil_]; done)), (by first | rfl | (simp; done) | (simp [*]; done) | (simp [bne_nil_, beq_nil_]; done)), H', ⟨Nat.le_refl _⟩, ⟨uR HO_10.out⟩, ⟨uR HO_11.out⟩, ⟨uR HO_16.out⟩, ⟨uR HO_587000.out⟩, ⟨uB BK586.out⟩, ⟨by repeat (first | (with_reducible first | exact HB.out | apply bA | apply bN | apply bD | refine bS ?_ (by assumption)) | exact HB.out)⟩⟩
                case round =>
                 clear H'
                 try clear c1
                 try clear c2
                 try clear p2
                 try clear c3
                 try clear c4
                 try clear p5
                 try clear q5
                 try clear hx5
                 try clear c6
                 try clear p6
                 try clear q6
                 try clear hx6
                 try clear c9
                 try clear c9b0
                 try clear c9b1
                 try clear c10
                 try clear c10b0
                 try clear c10b1
                 try clear c11
                 try clear c14
                 try clear c14b0
                 try clear c15
                 try clear c15b0
                 try clear c16
                 try clear c17
                 try clear c17b0
                 try clear c18
                 try clear c19
                 try clear c19b0
                 try clear c20
                 try clear c21
                 try clear c29
                 try clear c29b0
                 try clear c29b1
                 try clear c30
                 try clear c39
                 try clear c41
                 try clear c41b0
                 try clear c42
                 try clear c42b0
                 try clear c43
                 try clear c43b0
                 try clear hcz13_0
                 try clear hcz13_1
                 try clear hcz31_0
                 try clear hcz31_1
                 try clear hcz40_0
                 try clear hcz40_1
                 try clear hfz13_0
                 try clear hfz13_1
                 try clear hfz31_0
                 try clear hfz31_1
                 try clear hfz40_0
                 try clear hfz40_1
                 try clear hx587_0
                 try clear hx591_0
                 try clear hx595_0
                 try clear hx596_0
                 try clear hx611_0
                 try clear hx612_0
                 try clear p2
                 try clear p5
                 try clear p587
                 try clear p591
                 try clear p595
                 try clear p596
                 try clear p6
                 try clear p611
                 try clear p612
                 try clear q5
                 try clear q587
                 try clear q591
                 try clear q595
                 try clear q596
                 try clear q611
                 try clear q612
                 obtain ⟨x16_5, x19_5, x22_5, rfl, rfl, HA, HK5, HO_10, HO_11, HO_16, HO_587000, BK586, HB⟩ := hrel
                 have hl16_5 := (Kd.R_reads' HO_16.out).1
                 rw [hl16_5] at HO_16
                 (try simp only [hl16_5])
                 (try simp only [hl16_5] at BK586)
                 (try simp only [hl16_5] at HO_10)
                 (try simp only [hl16_5] at HO_11)
                 (try simp only [hl16_5] at HO_587000)
                 cases gk with
                 | zero => exact absurd HA.out (by simp [furrowlaw11_FormBox.l3])
                 | succ k5 =>
                  have H := HA.out
                  clear HA
                  simp only [furrowlaw11_FormBox.l3] at H
                  by_cases c49 : x22_5 < (x16_5.length : Int)
                  ·rw [if_pos c49] at H
                   have c49b0 : decide (x22_5 < (x16_5.length : Int)) = true := decide_eq_true c49
                   clear c49
                   by_cases c50 : 0 ≤ x22_5
                   ·rw [if_pos c50] at H
                    have c50b0 : decide (0 ≤ x22_5) = true := decide_eq_true c50
                    clear c50
                    by_cases c51 : x22_5 < (x11_2.length : Int)
                    ·rw [if_pos c51] at H
                     have c51b0 : decide (x22_5 < (x11_2.length : Int)) = true := decide_eq_true c51
                     clear c51
                     by_cases c52 : (rd x16_5 x22_5) < (rd x11_2 x22_5)
                     ·rw [if_pos c52] at H
                      have c52b0 : decide ((rd x16_5 x22_5) < (rd x11_2 x22_5)) = true := decide_eq_true c52
                      clear c52
                      obtain ⟨y616, hy616⟩ : ∃ y_ : List Int, y_ = (x16_5.set (x22_5 : Int).toNat (wrap64 ((rd x16_5 x22_5) + 1))) := ⟨_, rfl⟩
                      replace H : (furrowlaw11_FormBox.l1 k5 x10_2 x11_2 t600 t601 y616 ji46 ji47 true x587000_2 (wrap64 (a1))) = some true := by first | (rw [hy616]; with_reducible exact H) | (have H2_ := (Option.bind_some _ _).symm.trans H; rw [hy616]; with_reducible exact H2_) | (have H2_ := (Option.bind_some _ _).symm.trans H; with_reducible exact H2_) | with_reducible exact H | (rw [hy616]; exact H) | exact H
                      have Ny616 := mk0 hy616
                      clear hy616
                      have H' := mk0 H
                      clear H
                      try go_wp2
                      have n0_ := mk0 (Kd.R_drew HO_10.out)
                      have n1_ := mk0 (Kd.R_drew HO_11.out)
                      have n2_ := mk0 (Kd.R_drew HO_16.out)
                      have n3_ := mk0 (Kd.R_drew HO_587000.out)
                      have n4_ := mk0 (blk_drew BK586.out)
                      have n5_ := mk0 (below_drew1 HB.out)
                      clear HO_10
                      clear HO_11
                      clear HO_16
                      clear HO_587000
                      clear BK586
                      clear HB
                      have HO_10 := n0_
                      have HO_11 := n1_
                      have HO_16 := n2_
                      have HO_587000 := n3_
                      have BK586 := n4_
                      have HB := n5_
                      clear n0_ n1_ n2_ n3_ n4_ n5_
                      have p613 : 0 ≤ (x22_5 : Int) := of_decide_eq_true (by first | (with_reducible assumption) | assumption)
                      have q613 : x22_5 < (x16_5.length : Int) := of_decide_eq_true (by first | (with_reducible assumption) | assumption)
                      obtain ⟨ad613, e613, hx613_0⟩ := Kd.at_int (Kd.R_reads' HO_16.out).2.2 x22_5 p613 q613
                      cases e613
                      replace p613 := eq_true p613
                      replace q613 := eq_true q613
                      have p614 : 0 ≤ (x22_5 : Int) := of_decide_eq_true (by first | (with_reducible assumption) | assumption)
                      have q614 : x22_5 < (x11_2.length : Int) := of_decide_eq_true (by first | (with_reducible assumption) | assumption)
                      obtain ⟨ad614, e614, hx614_0⟩ := Kd.at_int (Kd.R_reads' HO_11.out).2.2 x22_5 p614 q614
                      cases e614
                      replace p614 := eq_true p614
                      replace q614 := eq_true q614
                      refine start_ (n := 9) (S := fun w' => w'.cell? (ad613.add (x22_5).toNat) = some (.int .i64 (rd x16_5 x22_5)) ∧ w'.cell? (ad614.add (x22_5).toNat) = some (.int .i64 (rd x11_2 x22_5))) (ds := []) #[false, false, false, false, false, false, false, false, false] (by kernel_rfl) rfl rfl ⟨hx613_0, hx614_0⟩ (fun hHeld => ?_); refine with_tabW furrowlaw11_FormBox.tab31 furrowlaw11_FormBox.bits31 (fun HT_ HW_ => ?_)
                      generalize wr.drew = w54 at HO_10 HO_11 HO_16 HO_587000 BK586 HB hx613_0 hx614_0 hHeld ⊢
                      refine pure_ (i := 0) (N := some 130) (v := ?_) (a' := ?_) #[true, false, false, false, false, false, false, false, false] rfl rfl (any_of HT_.out (by kernel_rfl)) (fun _ _ _ h => h) (Or.inl ⟨by rfl, ?_⟩) ?_ ?_
                      rotate_left
                      ·intro w'
                       go_simp
                       with_reducible rfl
                      rotate_left
                      ·simp only [Act.put, List.setIfInBounds_toArray, List.set_cons_zero, List.set_cons_succ, i64_w, i32_w]
                       rfl
                      refine pure_ (i := 1) (N := some 131) (v := ?_) (a' := ?_) #[true, true, false, false, false, false, false, false, false] rfl rfl (any_of HT_.out (by kernel_rfl)) (fun _ _ _ h => h) (Or.inl ⟨by rfl, ?_⟩) ?_ ?_
                      rotate_left
                      ·intro w'
                       go_simp
                       with_reducible rfl
                      rotate_left
                      ·simp only [Act.put, List.setIfInBounds_toArray, List.set_cons_zero, List.set_cons_succ, i64_w, i32_w]
                       rfl
                      refine pure_ (i := 2) (N := some 132) (v := ?_) (a' := ?_) #[true, true, true, false, false, false, false, false, false] rfl rfl (any_of HT_.out (by kernel_rfl)) (fun _ _ _ h => h) (Or.inl ⟨by rfl, ?_⟩) ?_ ?_
                      rotate_left
                      ·intro w'
                       go_simp
                       with_reducible rfl
                      rotate_left
                      ·simp only [Act.put, List.setIfInBounds_toArray, List.set_cons_zero, List.set_cons_succ, i64_w, i32_w]
                       rfl
                      refine pure_ (i := 4) (N := some 134) (v := ?_) (a' := ?_) #[true, true, true, false, true, false, false, false, false] rfl rfl (any_of HT_.out (by kernel_rfl)) (fun _ _ _ h => h) (Or.inl ⟨by rfl, ?_⟩) ?_ ?_
                      rotate_left
                      ·intro w'
                       go_simp
                       with_reducible rfl
                      rotate_left
                      ·simp only [Act.put, List.setIfInBounds_toArray, List.set_cons_zero, List.set_cons_succ, i64_w, i32_w]
                       rfl
                      refine pure_ (i := 5) (N := some 135) (v := ?_) (a' := ?_) #[true, true, true, false, true, true, false, false, false] rfl rfl (any_of HT_.out (by kernel_rfl)) (fun _ _ _ h => h) (Or.inl ⟨by rfl, ?_⟩) ?_ ?_
                      rotate_left
                      ·intro w'
                       go_simp
                       with_reducible rfl
                      rotate_left
                      ·simp only [Act.put, List.setIfInBounds_toArray, List.set_cons_zero, List.set_cons_succ, i64_w, i32_w]
                       rfl
                      refine pure_ (i := 6) (N := some 136) (v := ?_) (a' := ?_) #[true, true, true, false, true, true, true, false, false] rfl rfl (any_of HT_.out (by kernel_rfl)) (fun _ _ _ h => h) (Or.inl ⟨by rfl, ?_⟩) ?_ ?_
                      rotate_left
                      ·intro w'
                       go_simp
                       with_reducible rfl
                      rotate_left
                      ·simp only [Act.put, List.setIfInBounds_toArray, List.set_cons_zero, List.set_cons_succ, i64_w, i32_w]
                       rfl
                      refine take_ (i := 3) (N := some 133) (v := ?_) (a' := ?_) #[true, true, true, true, true, true, true, false, false] rfl rfl (take_ofW HT_.out HW_.out (by kernel_rfl)) (fun _ _ _ h => h) (Or.inl ⟨by rfl, ?_⟩) hHeld ?_ ?_
                      rotate_left
                      ·rintro w' ⟨s0, s1⟩
                       go_simp
                       with_reducible rfl
                      rotate_left
                      ·simp only [Act.put, List.setIfInBounds_toArray, List.set_cons_zero, List.set_cons_succ, i64_w, i32_w]
                       rfl
                      refine take_ (i := 7) (N := some 137) (v := ?_) (a' := ?_) #[true, true, true, true, true, true, true, true, false] rfl rfl (take_ofW HT_.out HW_.out (by kernel_rfl)) (fun _ _ _ h => h) (Or.inl ⟨by rfl, ?_⟩) hHeld ?_ ?_
                      rotate_left
                      ·rintro w' ⟨s0, s1⟩
                       go_simp
                       with_reducible rfl
                      rotate_left
                      ·simp only [Act.put, List.setIfInBounds_toArray, List.set_cons_zero, List.set_cons_succ, i64_w, i32_w]
                       rfl
                      refine pure_ (i := 8) (N := some 138) (v := ?_) (a' := ?_) #[true, true, true, true, true, true, true, true, true] rfl rfl (any_of HT_.out (by kernel_rfl)) (fun _ _ _ h => h) (Or.inl ⟨by rfl, ?_⟩) ?_ ?_
                      rotate_left
                      ·intro w'
                       go_simp
                       with_reducible rfl
                      rotate_left
                      ·simp only [Act.put, List.setIfInBounds_toArray, List.set_cons_zero, List.set_cons_succ, i64_w, i32_w]
                       rfl
                      refine done_ (done_of HT_.out (by kernel_rfl)) ?_
                      have p615 : 0 ≤ (x22_5 : Int) := of_decide_eq_true (by first | (with_reducible assumption) | assumption)
                      have q615 : x22_5 < (x16_5.length : Int) := of_decide_eq_true (by first | (with_reducible assumption) | assumption)
                      obtain ⟨ad615, e615, hx615_0⟩ := Kd.at_int (Kd.R_reads' HO_16.out).2.2 x22_5 p615 q615
                      obtain rfl : ad613 = ad615 := (by injection e615)
                      replace p615 := eq_true p615
                      replace q615 := eq_true q615
                      have p53 : 0 ≤ (x22_5 : Int) := of_decide_eq_true (by first | (with_reducible assumption) | assumption)
                      have q53 : (x22_5 : Int) < ((x16_5.length : Int) : Int) := of_decide_eq_true (by first | (with_reducible assumption) | assumption)
                      obtain ⟨go53, co53, eo53, gb53, gl53, cl53, HG53⟩ := Kd.R_form HO_16.out (by omega)
                      (first | cases eo53 | (injection eo53 with ea_ en_ ec_; (first | subst ea_ | (injection ea_ with ea_; subst ea_)); subst ec_; clear en_))
                      have GB53 := mk0 gb53
                      have GG53 := mk0 HG53
                      clear gb53 gl53 HG53
                      (first | simp only [add_plain] at hx613_0 | skip)
                      (first | simp only [add_plain] at hx615_0 | skip)
                      obtain ⟨hx53_0, hf53_0⟩ := Kd.R_celln 0 HO_16.out (x22_5 : Int) p53 q53
                      replace p53 := eq_true p53
                      replace q53 := eq_true q53
                      obtain ⟨hy55_, hz55_⟩ := Kd.R_celln 0 HO_16.out (x22_5 : Int) (of_decide_eq_true (by first | (with_reducible assumption) | assumption)) (of_decide_eq_true (by first | (with_reducible assumption) | assumption))
                      have HP55 := Kd.R_putg HO_16.out (x22_5 : Int) (wrap64 ((rd x16_5 x22_5) + 1))
                      try go_wp2_with (first | ((with_reducible refine gate_store (t := 2) (p := 144) rfl ?_); refine store_event (t := 2) (p := 144) (v := ?vo_w56) (w1 := (w54.setCell ⟨go53, (x22_5 : Int).toNat, none⟩ (.int .i64 (wrap64 ((rd x16_5 x22_5) + 1))))) ?hg ?ho ?hn ?hr ?_; (case ho => rfl); (case hg => rfl); (case hn => rfl); (case hr => first | (go_simp; done) | (go_simp; rfl)); intro w56 hw; have hg : w54.grownBy w56 (some go53) := (by rw [hw]; exact HP55.2); have hp_ : Kd.R (Kd.int .i64) 2 w56 w.heap.size (fun k_ => some k_ ≠ (.slice Ao33 x10_2.length co33 : Value).ownBlock ∧ some k_ ≠ (.slice (some ad614) x11_2.length co34 : Value).ownBlock ∧ some k_ ≠ (.slice Ao32 x587000_2.length co32 : Value).ownBlock) (.slice (some ⟨go53, 0, none⟩) x16_5.length co48) y616 := (by rw [hw, Ny616.out]; exact HP55.1); clear HP55; have n0_ := mk0 (Kd.R_after (v := (.slice (some ⟨go53, 0, none⟩) x16_5.length co48)) (v1 := (.slice (some ⟨go53, 0, none⟩) x16_5.length co48)) (ok := (fun k_ => some k_ ≠ (.slice (some ad614) x11_2.length co34 : Value).ownBlock ∧ some k_ ≠ (.slice Ao32 x587000_2.length co32 : Value).ownBlock)) (uR (Kd.R_mono HO_10.out (fun _ hk => ⟨⟨hk.1, hk.2.2⟩, hk.2.1⟩))) hg (.inl rfl)); have n1_ := mk0 (Kd.R_after (v := (.slice (some ⟨go53, 0, none⟩) x16_5.length co48)) (v1 := (.slice (some ⟨go53, 0, none⟩) x16_5.length co48)) (ok := (fun k_ => some k_ ≠ (.slice Ao33 x10_2.length co33 : Value).ownBlock ∧ some k_ ≠ (.slice Ao32 x587000_2.length co32 : Value).ownBlock)) (uR (Kd.R_mono HO_11.out (fun _ hk => ⟨⟨hk.1, hk.2.2⟩, hk.2.1⟩))) hg (.inl rfl)); have n2_ := mk0 (hp_); have n3_ := mk0 (Kd.R_after (v := (.slice (some ⟨go53, 0, none⟩) x16_5.length co48)) (v1 := (.slice (some ⟨go53, 0, none⟩) x16_5.length co48)) (ok := (fun k_ => some k_ ≠ (.slice Ao33 x10_2.length co33 : Value).ownBlock ∧ some k_ ≠ (.slice (some ad614) x11_2.length co34 : Value).ownBlock)) (uR (Kd.R_mono HO_587000.out (fun _ hk => ⟨⟨hk.1, hk.2.1⟩, hk.2.2⟩))) hg (.inl rfl)); have n4_ := mk0 (blk_grown (g := gb586) (o := .cells #[.slice Ao32 x587000_2.length co32, .int .i64 (wrap64 (a1))] 24 (0, 0)) (uB BK586.out) hg (Kd.R_ne HO_16.out BK586.out (by decide))); have n5_ := mk0 ((by rw [hw]; exact below_set (HB.out) GB53.out : Below w.heap.size w w56)); clear HO_10; clear HO_11; clear HO_16; clear HO_587000; clear BK586; clear HB; have HO_10 := n0_; have HO_11 := n1_; have HO_16 := n2_; have HO_587000 := n3_; have BK586 := n4_; have HB := n5_; clear n0_ n1_ n2_ n3_ n4_ n5_; clear hg hw hp_))
                      (try simp only [← hl16_5])
                      go_roundg k5
                      case measure => have := HJ6.out; have := HK2.out; have := HK3.out; have := HK4.out; have := HK5.out; omega
                      case rel => exact ⟨(y616), (ji46), (ji47), (true), (by first | rfl | (simp; done) | (simp only [← hji46] <;> (first | rfl | simp)) | (simp [*]; done)), (by first | rfl | (simp; done) | (simp only [← hji47] <;> (first | rfl | simp)) | (simp [*]; done)), (by first | rfl | (simp; done) | (simp [*]; done) | (simp [bne_nil_, beq_nil_]; done)), H', ⟨by have := HJ6.out; have := HK2.out; have := HK3.out; have := HK4.out; have := HK5.out; omega⟩, ⟨by (try simp only [hl16_5]); (with_reducible repeat (first | apply Kd.R_alloc | apply Kd.R_drewN | apply Kd.R_drew)); exact Kd.R_mono HO_10.out (fun _ hk => ⟨hk.1.1, ⟨hk.2, hk.1.2⟩⟩)⟩, ⟨by (try simp only [hl16_5]); (with_reducible repeat (first | apply Kd.R_alloc | apply Kd.R_drewN | apply Kd.R_drew)); exact Kd.R_mono HO_11.out (fun _ hk => ⟨hk.1.1, ⟨hk.2, hk.1.2⟩⟩)⟩, ⟨by (try simp only [hl16_5]); (with_reducible repeat (first | apply Kd.R_alloc | apply Kd.R_drewN | apply Kd.R_drew)); exact HO_16.out⟩, ⟨by (try simp only [hl16_5]); (with_reducible repeat (first | apply Kd.R_alloc | apply Kd.R_drewN | apply Kd.R_drew)); exact Kd.R_mono HO_587000.out (fun _ hk => ⟨hk.1.1, ⟨hk.1.2, hk.2⟩⟩)⟩, ⟨by (try simp only [hl16_5]); (with_reducible repeat (first | refine blk_drewN ?_ _ | refine blk_drew ?_ | refine blk_alloc ?_ _)); exact BK586.out⟩, ⟨by repeat (first | (with_reducible first | exact HB.out | apply bA | apply bN | apply bD | refine bS ?_ (by assumption)) | exact HB.out)⟩⟩
                     ·rw [if_neg c52] at H
                      have c52b0 : decide ((rd x16_5 x22_5) < (rd x11_2 x22_5)) = false := decide_eq_false c52
                      clear c52
                      by_cases c57 : x22_5 < (x10_2.length : Int)
                      ·rw [if_pos c57] at H
                       have c57b0 : decide (x22_5 < (x10_2.length : Int)) = true := decide_eq_true c57
                       clear c57
                       obtain ⟨y618, hy618⟩ : ∃ y_ : List Int, y_ = (x16_5.set (x22_5 : Int).toNat (rd x10_2 x22_5)) := ⟨_, rfl⟩
                       replace H : (furrowlaw11_FormBox.l3 k5 x10_2 x11_2 t600 t601 y618 ji46 ji47 x19_5 (wrap64 (x22_5 + 1)) x587000_2 (wrap64 (a1))) = some true := by first | (rw [hy618]; with_reducible exact H) | (have H2_ := (Option.bind_some _ _).symm.trans H; rw [hy618]; with_reducible exact H2_) | (have H2_ := (Option.bind_some _ _).symm.trans H; with_reducible exact H2_) | with_reducible exact H | (rw [hy618]; exact H) | exact H
                       have Ny618 := mk0 hy618
                       clear hy618
                       have H' := mk0 H
                       clear H
                       try go_wp2
                       have n0_ := mk0 (Kd.R_drew HO_10.out)
                       have n1_ := mk0 (Kd.R_drew HO_11.out)
                       have n2_ := mk0 (Kd.R_drew HO_16.out)
                       have n3_ := mk0 (Kd.R_drew HO_587000.out)
                       have n4_ := mk0 (blk_drew BK586.out)
                       have n5_ := mk0 (below_drew1 HB.out)
                       clear HO_10
                       clear HO_11
                       clear HO_16
                       clear HO_587000
                       clear BK586
                       clear HB
                       have HO_10 := n0_
                       have HO_11 := n1_
                       have HO_16 := n2_
                       have HO_587000 := n3_
                       have BK586 := n4_
                       have HB := n5_
                       clear n0_ n1_ n2_ n3_ n4_ n5_
                       have p613 : 0 ≤ (x22_5 : Int) := of_decide_eq_true (by first | (with_reducible assumption) | assumption)
                       have q613 : x22_5 < (x16_5.length : Int) := of_decide_eq_true (by first | (with_reducible assumption) | assumption)
                       obtain ⟨ad613, e613, hx613_0⟩ := Kd.at_int (Kd.R_reads' HO_16.out).2.2 x22_5 p613 q613
                       cases e613
                       replace p613 := eq_true p613
                       replace q613 := eq_true q613
                       have p614 : 0 ≤ (x22_5 : Int) := of_decide_eq_true (by first | (with_reducible assumption) | assumption)
                       have q614 : x22_5 < (x11_2.length : Int) := of_decide_eq_true (by first | (with_reducible assumption) | assumption)
                       obtain ⟨ad614, e614, hx614_0⟩ := Kd.at_int (Kd.R_reads' HO_11.out).2.2 x22_5 p614 q614
                       cases e614
                       replace p614 := eq_true p614
                       replace q614 := eq_true q614
                       refine start_ (n := 9) (S := fun w' => w'.cell? (ad613.add (x22_5).toNat) = some (.int .i64 (rd x16_5 x22_5)) ∧ w'.cell? (ad614.add (x22_5).toNat) = some (.int .i64 (rd x11_2 x22_5))) (ds := []) #[false, false, false, false, false, false, false, false, false] (by kernel_rfl) rfl rfl ⟨hx613_0, hx614_0⟩ (fun hHeld => ?_); refine with_tabW furrowlaw11_FormBox.tab31 furrowlaw11_FormBox.bits31 (fun HT_ HW_ => ?_)
                       generalize wr.drew = w59 at HO_10 HO_11 HO_16 HO_587000 BK586 HB hx613_0 hx614_0 hHeld ⊢
                       refine pure_ (i := 0) (N := some 130) (v := ?_) (a' := ?_) #[true, false, false, false, false, false, false, false, false] rfl rfl (any_of HT_.out (by kernel_rfl)) (fun _ _ _ h => h) (Or.inl ⟨by rfl, ?_⟩) ?_ ?_
                       rotate_left
                       ·intro w'
                        go_simp
                        with_reducible rfl
                       rotate_left
                       ·simp only [Act.put, List.setIfInBounds_toArray, List.set_cons_zero, List.set_cons_succ, i64_w, i32_w]
                        rfl
                       refine pure_ (i := 1) (N := some 131) (v := ?_) (a' := ?_) #[true, true, false, false, false, false, false, false, false] rfl rfl (any_of HT_.out (by kernel_rfl)) (fun _ _ _ h => h) (Or.inl ⟨by rfl, ?_⟩) ?_ ?_
                       rotate_left
                       ·intro w'
                        go_simp
                        with_reducible rfl
                       rotate_left
                       ·simp only [Act.put, List.setIfInBounds_toArray, List.set_cons_zero, List.set_cons_succ, i64_w, i32_w]
                        rfl
                       refine pure_ (i := 2) (N := some 132) (v := ?_) (a' := ?_) #[true, true, true, false, false, false, false, false, false] rfl rfl (any_of HT_.out (by kernel_rfl)) (fun _ _ _ h => h) (Or.inl ⟨by rfl, ?_⟩) ?_ ?_
                       rotate_left
                       ·intro w'
                        go_simp
                        with_reducible rfl
                       rotate_left
                       ·simp only [Act.put, List.setIfInBounds_toArray, List.set_cons_zero, List.set_cons_succ, i64_w, i32_w]
                        rfl
                       refine pure_ (i := 4) (N := some 134) (v := ?_) (a' := ?_) #[true, true, true, false, true, false, false, false, false] rfl rfl (any_of HT_.out (by kernel_rfl)) (fun _ _ _ h => h) (Or.inl ⟨by rfl, ?_⟩) ?_ ?_
                       rotate_left
                       ·intro w'
                        go_simp
                        with_reducible rfl
                       rotate_left
                       ·simp only [Act.put, List.setIfInBounds_toArray, List.set_cons_zero, List.set_cons_succ, i64_w, i32_w]
                        rfl
                       refine pure_ (i := 5) (N := some 135) (v := ?_) (a' := ?_) #[true, true, true, false, true, true, false, false, false] rfl rfl (any_of HT_.out (by kernel_rfl)) (fun _ _ _ h => h) (Or.inl ⟨by rfl, ?_⟩) ?_ ?_
                       rotate_left
                       ·intro w'
                        go_simp
                        with_reducible rfl
                       rotate_left
                       ·simp only [Act.put, List.setIfInBounds_toArray, List.set_cons_zero, List.set_cons_succ, i64_w, i32_w]
                        rfl
                       refine pure_ (i := 6) (N := some 136) (v := ?_) (a' := ?_) #[true, true, true, false, true, true, true, false, false] rfl rfl (any_of HT_.out (by kernel_rfl)) (fun _ _ _ h => h) (Or.inl ⟨by rfl, ?_⟩) ?_ ?_
                       rotate_left
                       ·intro w'
                        go_simp
                        with_reducible rfl
                       rotate_left
                       ·simp only [Act.put, List.setIfInBounds_toArray, List.set_cons_zero, List.set_cons_succ, i64_w, i32_w]
                        rfl
                       refine take_ (i := 3) (N := some 133) (v := ?_) (a' := ?_) #[true, true, true, true, true, true, true, false, false] rfl rfl (take_ofW HT_.out HW_.out (by kernel_rfl)) (fun _ _ _ h => h) (Or.inl ⟨by rfl, ?_⟩) hHeld ?_ ?_
                       rotate_left
                       ·rintro w' ⟨s0, s1⟩
                        go_simp
                        with_reducible rfl
                       rotate_left
                       ·simp only [Act.put, List.setIfInBounds_toArray, List.set_cons_zero, List.set_cons_succ, i64_w, i32_w]
                        rfl
                       refine take_ (i := 7) (N := some 137) (v := ?_) (a' := ?_) #[true, true, true, true, true, true, true, true, false] rfl rfl (take_ofW HT_.out HW_.out (by kernel_rfl)) (fun _ _ _ h => h) (Or.inl ⟨by rfl, ?_⟩) hHeld ?_ ?_
                       rotate_left
                       ·rintro w' ⟨s0, s1⟩
                        go_simp
                        with_reducible rfl
                       rotate_left
                       ·simp only [Act.put, List.setIfInBounds_toArray, List.set_cons_zero, List.set_cons_succ, i64_w, i32_w]
                        rfl
                       refine pure_ (i := 8) (N := some 138) (v := ?_) (a' := ?_) #[true, true, true, true, true, true, true, true, true] rfl rfl (any_of HT_.out (by kernel_rfl)) (fun _ _ _ h => h) (Or.inl ⟨by rfl, ?_⟩) ?_ ?_
                       rotate_left
                       ·intro w'
                        go_simp
                        with_reducible rfl
                       rotate_left
                       ·simp only [Act.put, List.setIfInBounds_toArray, List.set_cons_zero, List.set_cons_succ, i64_w, i32_w]
                        rfl
                       refine done_ (done_of HT_.out (by kernel_rfl)) ?_
                       have p617 : 0 ≤ (x22_5 : Int) := of_decide_eq_true (by first | (with_reducible assumption) | assumption)
                       have q617 : x22_5 < (x10_2.length : Int) := of_decide_eq_true (by first | (with_reducible assumption) | assumption)
                       obtain ⟨ad617, e617, hx617_0⟩ := Kd.at_int (Kd.R_reads' HO_10.out).2.2 x22_5 p617 q617
                       cases e617
                       replace p617 := eq_true p617
                       replace q617 := eq_true q617
                       have p58 : 0 ≤ (x22_5 : Int) := of_decide_eq_true (by first | (with_reducible assumption) | assumption)
                       have q58 : (x22_5 : Int) < ((x16_5.length : Int) : Int) := of_decide_eq_true (by first | (with_reducible assumption) | assumption)
                       obtain ⟨go58, co58, eo58, gb58, gl58, cl58, HG58⟩ := Kd.R_form HO_16.out (by omega)
                       (first | cases eo58 | (injection eo58 with ea_ en_ ec_; (first | subst ea_ | (injection ea_ with ea_; subst ea_)); subst ec_; clear en_))
                       have GB58 := mk0 gb58
                       have GG58 := mk0 HG58
                       clear gb58 gl58 HG58
                       (first | simp only [add_plain] at hx613_0 | skip)
                       obtain ⟨hx58_0, hf58_0⟩ := Kd.R_celln 0 HO_16.out (x22_5 : Int) p58 q58
                       replace p58 := eq_true p58
                       replace q58 := eq_true q58
                       obtain ⟨hy60_, hz60_⟩ := Kd.R_celln 0 HO_16.out (x22_5 : Int) (of_decide_eq_true (by first | (with_reducible assumption) | assumption)) (of_decide_eq_true (by first | (with_reducible assumption) | assumption))
                       have HP60 := Kd.R_putg HO_16.out (x22_5 : Int) (rd x10_2 x22_5)
                       try go_wp2_with (first | ((with_reducible refine gate_store (t := 2) (p := 151) rfl ?_); refine store_event (t := 2) (p := 151) (v := ?vo_w61) (w1 := (w59.setCell ⟨go58, (x22_5 : Int).toNat, none⟩ (.int .i64 (rd x10_2 x22_5)))) ?hg ?ho ?hn ?hr ?_; (case ho => rfl); (case hg => rfl); (case hn => rfl); (case hr => first | (go_simp; done) | (go_simp; rfl)); intro w61 hw; have hg : w59.grownBy w61 (some go58) := (by rw [hw]; exact HP60.2); have hp_ : Kd.R (Kd.int .i64) 2 w61 w.heap.size (fun k_ => some k_ ≠ (.slice (some ad617) x10_2.length co33 : Value).ownBlock ∧ some k_ ≠ (.slice (some ad614) x11_2.length co34 : Value).ownBlock ∧ some k_ ≠ (.slice Ao32 x587000_2.length co32 : Value).ownBlock) (.slice (some ⟨go58, 0, none⟩) x16_5.length co48) y618 := (by rw [hw, Ny618.out]; exact HP60.1); clear HP60; have n0_ := mk0 (Kd.R_after (v := (.slice (some ⟨go58, 0, none⟩) x16_5.length co48)) (v1 := (.slice (some ⟨go58, 0, none⟩) x16_5.length co48)) (ok := (fun k_ => some k_ ≠ (.slice (some ad614) x11_2.length co34 : Value).ownBlock ∧ some k_ ≠ (.slice Ao32 x587000_2.length co32 : Value).ownBlock)) (uR (Kd.R_mono HO_10.out (fun _ hk => ⟨⟨hk.1, hk.2.2⟩, hk.2.1⟩))) hg (.inl rfl)); have n1_ := mk0 (Kd.R_after (v := (.slice (some ⟨go58, 0, none⟩) x16_5.length co48)) (v1 := (.slice (some ⟨go58, 0, none⟩) x16_5.length co48)) (ok := (fun k_ => some k_ ≠ (.slice (some ad617) x10_2.length co33 : Value).ownBlock ∧ some k_ ≠ (.slice Ao32 x587000_2.length co32 : Value).ownBlock)) (uR (Kd.R_mono HO_11.out (fun _ hk => ⟨⟨hk.1, hk.2.2⟩, hk.2.1⟩))) hg (.inl rfl)); have n2_ := mk0 (hp_); have n3_ := mk0 (Kd.R_after (v := (.slice (some ⟨go58, 0, none⟩) x16_5.length co48)) (v1 := (.slice (some ⟨go58, 0, none⟩) x16_5.length co48)) (ok := (fun k_ => some k_ ≠ (.slice (some ad617) x10_2.length co33 : Value).ownBlock ∧ some k_ ≠ (.slice (some ad614) x11_2.length co34 : Value).ownBlock)) (uR (Kd.R_mono HO_587000.out (fun _ hk => ⟨⟨hk.1, hk.2.1⟩, hk.2.2⟩))) hg (.inl rfl)); have n4_ := mk0 (blk_grown (g := gb586) (o := .cells #[.slice Ao32 x587000_2.length co32, .int .i64 (wrap64 (a1))] 24 (0, 0)) (uB BK586.out) hg (Kd.R_ne HO_16.out BK586.out (by decide))); have n5_ := mk0 ((by rw [hw]; exact below_set (HB.out) GB58.out : Below w.heap.size w w61)); clear HO_10; clear HO_11; clear HO_16; clear HO_587000; clear BK586; clear HB; have HO_10 := n0_; have HO_11 := n1_; have HO_16 := n2_; have HO_587000 := n3_; have BK586 := n4_; have HB := n5_; clear n0_ n1_ n2_ n3_ n4_ n5_; clear hg hw hp_))
                       (try simp only [← hl16_5])
                       go_roundg k5
                       case measure => have := HJ6.out; have := HK2.out; have := HK3.out; have := HK4.out; have := HK5.out; omega
                       case rel => exact ⟨(y618), (x19_5), (wrap64 (x22_5 + 1)), (by first | rfl | (simp; done) | (simp [*]; done) | (simp [bne_nil_, beq_nil_]; done)), (by first | rfl | (simp; done) | (simp [*]; done) | (simp [bne_nil_, beq_nil_]; done)), H', ⟨by have := HJ6.out; have := HK2.out; have := HK3.out; have := HK4.out; have := HK5.out; omega⟩, ⟨by (try simp only [hl16_5]); (with_reducible repeat (first | apply Kd.R_alloc | apply Kd.R_drewN | apply Kd.R_drew)); exact Kd.R_mono HO_10.out (fun _ hk => ⟨hk.1.1, ⟨hk.2, hk.1.2⟩⟩)⟩, ⟨by (try simp only [hl16_5]); (with_reducible repeat (first | apply Kd.R_alloc | apply Kd.R_drewN | apply Kd.R_drew)); exact Kd.R_mono HO_11.out (fun _ hk => ⟨hk.1.1, ⟨hk.2, hk.1.2⟩⟩)⟩, ⟨by (try simp only [hl16_5]); (with_reducible repeat (first | apply Kd.R_alloc | apply Kd.R_drewN | apply Kd.R_drew)); exact HO_16.out⟩, ⟨by (try simp only [hl16_5]); (with_reducible repeat (first | apply Kd.R_alloc | apply Kd.R_drewN | apply Kd.R_drew)); exact Kd.R_mono HO_587000.out (fun _ hk => ⟨hk.1.1, ⟨hk.1.2, hk.2⟩⟩)⟩, ⟨by (try simp only [hl16_5]); (with_reducible repeat (first | refine blk_drewN ?_ _ | refine blk_drew ?_ | refine blk_alloc ?_ _)); exact BK586.out⟩, ⟨by repeat (first | (with_reducible first | exact HB.out | apply bA | apply bN | apply bD | refine bS ?_ (by assumption)) | exact HB.out)⟩⟩
                      ·rw [if_neg c57] at H
                       exact absurd H (by simp)
                    ·rw [if_neg c51] at H
                     exact absurd H (by simp)
                   ·rw [if_neg c50] at H
                    exact absurd H (by simp)
                  ·rw [if_neg c49] at H
                   have c49b0 : decide (x22_5 < (x16_5.length : Int)) = false := decide_eq_false c49
                   clear c49
                   have H' := mk0 H
                   clear H
                   go_wp2
                   (try simp only [← hl16_5])
                   go_roundg k5
                   case measure => have := HJ6.out; have := HK2.out; have := HK3.out; have := HK4.out; have := HK5.out; omega
                   case rel => exact ⟨(x16_5), (ji46), (ji47), (x19_5), (by first | rfl | (simp; done) | (simp only [← hji46] <;> (first | rfl | simp)) | (simp [*]; done)), (by first | rfl | (simp; done) | (simp only [← hji47] <;> (first | rfl | simp)) | (simp [*]; done)), (by first | rfl | (simp; done) | (simp [*]; done) | (simp [bne_nil_, beq_nil_]; done)), H', ⟨by have := HJ6.out; have := HK2.out; have := HK3.out; have := HK4.out; have := HK5.out; omega⟩, ⟨by (try simp only [hl16_5]); (with_reducible repeat (first | apply Kd.R_alloc | apply Kd.R_drewN | apply Kd.R_drew)); exact HO_10.out⟩, ⟨by (try simp only [hl16_5]); (with_reducible repeat (first | apply Kd.R_alloc | apply Kd.R_drewN | apply Kd.R_drew)); exact HO_11.out⟩, ⟨by (try simp only [hl16_5]); (with_reducible repeat (first | apply Kd.R_alloc | apply Kd.R_drewN | apply Kd.R_drew)); exact HO_16.out⟩, ⟨by (try simp only [hl16_5]); (with_reducible repeat (first | apply Kd.R_alloc | apply Kd.R_drewN | apply Kd.R_drew)); exact HO_587000.out⟩, ⟨by (try simp only [hl16_5]); (with_reducible repeat (first | refine blk_drewN ?_ _ | refine blk_drew ?_ | refine blk_alloc ?_ _)); exact BK586.out⟩, ⟨by repeat (first | (with_reducible first | exact HB.out | apply bA | apply bN | apply bD | refine bS ?_ (by assumption)) | exact HB.out)⟩⟩
            ·replace c39 := Bool.eq_false_iff.mpr c39
             subst c39
             have H1 : (if t600 = x17_3 then (some (t601 == x18_3)) else (some false)) = some true := by rw [if_neg (show ¬ (false = true) by decide)] at H; first | done | exact H
             clear H
             have H := H1
             clear H1
             by_cases c62 : t600 = x17_3
             ·rw [if_pos c62] at H
              have c62b0 : (t600 == x17_3) = true := beq_iff_eq.mpr c62
              have c62b1 : (t600 != x17_3) = false := bne_eq_false_iff_eq.mpr c62
              clear c62
              have HT := mk0 (Option.some.inj H)
              clear H
              go_wp2
              go_ret
              exact ⟨by first | rfl | (simp [errW_none, errW_some] <;> rfl) | (exact congrArg (fun b_ => Ending.returned (Value.bool b_)) HT.out) | (rw [show _ = _ from HT.out]) | (simp [HT.out]; done) | (simp [show _ = _ from HT.out]; done) | (simp [*, errW_none, errW_some] <;> rfl), by repeat (first | (with_reducible first | exact HB.out | apply bA | apply bN | apply bD | refine bS ?_ (by assumption)) | exact HB.out)⟩
             ·rw [if_neg c62] at H
              have c62b0 : (t600 == x17_3) = false := beq_eq_false_iff_ne.mpr c62
              have c62b1 : (t600 != x17_3) = true := bne_iff_ne.mpr c62
              exact absurd H (by simp)
         ·rw [if_neg c30] at H
          exact absurd H (by simp)
        ·rw [if_neg c29] at H
         have c29b0 : ((t602.length : Int) == 0) = false := beq_eq_false_iff_ne.mpr c29
         have c29b1 : ((t602.length : Int) != 0) = true := bne_iff_ne.mpr c29
         have c29b2 : ¬ (t602 = []) := fun h_ => c29 (by rw [h_]; rfl)
         exact absurd H (by simp)
 ·replace c6 := Bool.eq_false_iff.mpr c6
  subst c6
  have H1 : (some false) = some true := by rw [if_neg (show ¬ (false = true) by decide)] at H; first | done | exact H
  clear H
  have H := H1
  clear H1
  exact absurd H (by simp)

/-- THE ONE PURE STATEMENT of furrowlaw11_FormBox: yours. -/
def furrowlaw11_FormBox.Pure : Prop := ∀ (l0 : List Int) (a1 : Int) (l2 : List Int) (l3 : List Int), l0.length ≤ maxLen → l0.length * 1 ≤ 140737488351232 → (∀ x ∈ l0, (Lit.int .i8 x).wf = true) → (Lit.int .i16 a1).wf = true → l2.length ≤ maxLen → l2.length * 1 ≤ 140737488351232 → (∀ x ∈ l2, (Lit.int .i8 x).wf = true) → l3.length ≤ maxLen → l3.length * 1 ≤ 140737488351232 → (∀ x ∈ l3, (Lit.int .u8 x).wf = true) → ∃ k, furrowlaw11_FormBox.f k l0 a1 l2 l3 = some true
theorem furrowlaw11_FormBox.walk (P : furrowlaw11_FormBox.Pure) (a0 : Option Addr) (len0 cap0 : Nat) (z0 : List Int) (a1 : Int) (a2 : Option Addr) (len2 cap2 : Nat) (z2 : List Int) (a3 : Option Addr) (len3 cap3 : Nat) (z3 : List Int) (w : World) (w0 : (a0 = none ∧ len0 = 0 ∧ cap0 = 0 ∧ z0 = []) ∨ ∃ x, a0 = some x ∧ len0 ≤ cap0 ∧ cap0 ≤ maxLen ∧ z0.length = cap0 ∧ (∀ i, i < z0.length → w.cell? (x.add i) = some (.int .i8 (z0.getD i 0))) ∧ ∀ n ∈ z0, (Lit.int .i8 n).wf = true) (y0 : len0 * 1 ≤ 140737488351232) (w1 : (Lit.int .i16 a1).wf = true) (w2 : (a2 = none ∧ len2 = 0 ∧ cap2 = 0 ∧ z2 = []) ∨ ∃ x, a2 = some x ∧ len2 ≤ cap2 ∧ cap2 ≤ maxLen ∧ z2.length = cap2 ∧ (∀ i, i < z2.length → w.cell? (x.add i) = some (.int .i8 (z2.getD i 0))) ∧ ∀ n ∈ z2, (Lit.int .i8 n).wf = true) (y2 : len2 * 1 ≤ 140737488351232) (w3 : (a3 = none ∧ len3 = 0 ∧ cap3 = 0 ∧ z3 = []) ∨ ∃ x, a3 = some x ∧ len3 ≤ cap3 ∧ cap3 ≤ maxLen ∧ z3.length = cap3 ∧ (∀ i, i < z3.length → w.cell? (x.add i) = some (.int .u8 (z3.getD i 0))) ∧ ∀ n ∈ z3, (Lit.int .u8 n).wf = true) (y3 : len3 * 1 ≤ 140737488351232) (hG : Glob w) :
  Calls Tryd.prog 6 #[.slice a0 len0 cap0, .int .i16 a1, .slice a2 len2 cap2, .slice a3 len3 cap3] w fun e w' => e = .returned (.bool true) ∧ Below w.heap.size w w' := by
 obtain ⟨l0, rfl, hr0, hm0, hw0, hc0⟩ := ReadsInt.ofRowC w0
 obtain ⟨l2, rfl, hr2, hm2, hw2, hc2⟩ := ReadsInt.ofRowC w2
 obtain ⟨l3, rfl, hr3, hm3, hw3, hc3⟩ := ReadsInt.ofRowC w3
 obtain ⟨k, h⟩ := P l0 a1 l2 l3 hm0 y0 hw0 w1 hm2 y2 hw2 hm3 y3 hw3
 refine (furrowlaw11_FormBox.calls k _ _ l0 a1 _ _ l2 _ _ l3  w (Kd.C_of_reads (d := (0 : Int)) (h1 := fun _ => rfl) hr0) hc0 (Kd.C_of_reads (d := (0 : Int)) (h1 := fun _ => rfl) hr2) hc2 (Kd.C_of_reads (d := (0 : Int)) (h1 := fun _ => rfl) hr3) hc3 hG h).mono ?_
 rintro e w' ⟨rfl, hd⟩
 exact ⟨rfl, hd⟩

end Go.Proofs.YtmnifoeodohphaaDoor.X
