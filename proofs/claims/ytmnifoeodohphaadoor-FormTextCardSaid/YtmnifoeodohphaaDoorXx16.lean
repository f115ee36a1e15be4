-- PRINTED by print.py (a twelfth state) out of the translation. Not trusted: Lean checks it.
import Derived.Test.YtmnifoeodohphaaDoorXx0
import Derived.Test.YtmnifoeodohphaaDoorXx13
import Derived.Test.YtmnifoeodohphaaDoorXx2
import Derived.Test.YtmnifoeodohphaaDoorXx3
import Derived.Test.YtmnifoeodohphaaDoorXx5
import Derived.Test.YtmnifoeodohphaaDoorXx8
import Derived.Test.YtmnifoeodohphaaDoorXx9
import Derived.Test.YtmnifoeodohphaaDoorHandT
namespace Go.Proofs.YtmnifoeodohphaaDoor.X
open Go.Proofs.YtmnifoeodohphaaDoor.Flt Go.Proofs.YtmnifoeodohphaaDoor.H Go.RowKit Go.Proofs.YtmnifoeodohphaaDoorW.PrintWords Go.Proofs.YtmnifoeodohphaaDoorW.PrintLast Go.Proofs.YtmnifoeodohphaaDoorW.PrintMore
attribute [local go_sem] max2_int min2_int max_two min_two max_three min_three max_four min_four   -- for this text's walks alone
set_option linter.unusedVariables false
set_option linter.unusedSimpArgs false

/-! ### furrowlaw11_FormText: function 5 -/
def furrowlaw11_FormText.j0 : Nat → List ByteArray → Int → Int → Bool → List Int → Int → Option (Bool)
 | 0, _, _, _, _, _, _ => none
 | k + 1, x1, x2, x3, x26, x547000, x547001 => if x26 = true then (some true) else ((lin_Const.f x2 7).bind fun bt549 => ((furrowref14_Const.f x2 7).bind fun bt554 => ((lin_Index.f x2 x3).bind fun bt559 => ((furrowref14_Index.f x2 x3).bind fun bt564 => ((lin_Text.f x547000 x547001 x1).bind fun t569 => ((furrowlaw11_Of.f x547000 x547001).bind fun bt570 => ((furrowref14_Text.f k bt570.1 bt570.2 x1).bind fun t574 => (if t569.toList = t574.toList then (if (bt549.1.length : Int) = (bt554.1.length : Int) then ((furrowlaw11_Of.f bt549.1 bt549.2).bind fun bt575 => ((furrowref14_Same.f k bt575.1 bt575.2 bt554.1 bt554.2).bind fun t579 => (if t579 = true then (if (bt559.1.length : Int) = (bt564.1.length : Int) then ((furrowlaw11_Of.f bt559.1 bt559.2).bind fun bt580 => ((furrowref14_Same.f k bt580.1 bt580.2 bt564.1 bt564.2).bind fun t584 => (some t584))) else (some false)) else (some false)))) else (some false)) else (some false)))))))))
def furrowlaw11_FormText.f (k : Nat) (l0_0 : List Int) (a0_1 : Int) (l1 : List ByteArray) (a2 : Int) (a3 : Int) : Option (Bool) := (furrowlaw11_known.f k).bind fun t547 => (if t547 = true then ((furrowlaw11_few.f l0_0 a0_1).bind fun t548 => (if t548 = true then (if (l1.length : Int) > 20 then (furrowlaw11_FormText.j0 k l1 a2 a3 true l0_0 a0_1) else (furrowlaw11_FormText.j0 k l1 a2 a3 (decide (a2 > 50)) l0_0 a0_1)) else (furrowlaw11_FormText.j0 k l1 a2 a3 true l0_0 a0_1))) else (some false))
theorem furrowlaw11_FormText.mono_l : ∀ k, (∀ y0 y1 y2 y3 y4 y5, LeO (furrowlaw11_FormText.j0 k y0 y1 y2 y3 y4 y5) (furrowlaw11_FormText.j0 (k + 1) y0 y1 y2 y3 y4 y5))
 | 0 => fun _ _ _ _ _ _ r h => by simp [furrowlaw11_FormText.j0] at h
 | k + 1 => by
  have ih0 := furrowlaw11_FormText.mono_l k
  ·intro y0 y1 y2 y3 y4 y5
   unfold furrowlaw11_FormText.j0
   repeat' first
   | (with_reducible exact ih0 _ _ _ _ _ _)
   | (with_reducible exact furrowlaw11_known.mono _)
   | (with_reducible exact furrowref14_Same.mono _ _ _ _ _)
   | (with_reducible exact furrowref14_Text.mono _ _ _ _)
   | (with_reducible exact LeO.refl _)
   | (with_reducible exact LeO.none _)
   | (with_reducible refine LeO.ite ?_ ?_)
   | (with_reducible refine LeO.bind ?_ (fun _ => ?_))
   | exact ih0 _ _ _ _ _ _
   | exact furrowlaw11_known.mono _
   | exact furrowref14_Same.mono _ _ _ _ _
   | exact furrowref14_Text.mono _ _ _ _
   | exact LeO.none _
   | refine LeO.ite ?_ ?_
   | refine LeO.bind ?_ (fun _ => ?_)
theorem furrowlaw11_FormText.mono : ∀ a0 a1 a2 a3 a4 k, LeO (furrowlaw11_FormText.f k a0 a1 a2 a3 a4) (furrowlaw11_FormText.f (k + 1) a0 a1 a2 a3 a4) := by
 intro a0 a1 a2 a3 a4 k
 have ih0 := furrowlaw11_FormText.mono_l k
 unfold furrowlaw11_FormText.f
 repeat' first
   | (with_reducible exact ih0 _ _ _ _ _ _)
   | (with_reducible exact furrowlaw11_known.mono _)
   | (with_reducible exact furrowref14_Same.mono _ _ _ _ _)
   | (with_reducible exact furrowref14_Text.mono _ _ _ _)
   | (with_reducible exact LeO.refl _)
   | (with_reducible exact LeO.none _)
   | (with_reducible refine LeO.ite ?_ ?_)
   | (with_reducible refine LeO.bind ?_ (fun _ => ?_))
   | exact ih0 _ _ _ _ _ _
   | exact furrowlaw11_known.mono _
   | exact furrowref14_Same.mono _ _ _ _ _
   | exact furrowref14_Text.mono _ _ _ _
   | exact LeO.none _
   | refine LeO.ite ?_ ?_
   | refine LeO.bind ?_ (fun _ => ?_)
def furrowlaw11_FormText.T9 : Bool × List (List Nat × List Nat) := (true, [([], []), ([], []), ([0, 1], [0, 1]), ([], []), ([3, 2], [3]), ([], []), ([4, 5, 4], [4, 5]), ([2, 6], [2, 6]), ([7, 6], [7]), ([8], [8]), ([9, 8], [8, 9]), ([10, 8], [8, 10]), ([8], [8]), ([12, 8], [8, 12]), ([13, 8], [8, 13]), ([11, 14, 8], [8, 11, 14]), ([8, 15], [8, 15]), ([16, 8], [16]), ([17], [17]), ([18, 17, 17], [17, 18]), ([17], [17]), ([19, 20, 19, 17], [17, 19, 20]), ([17, 21], [17, 21]), ([22, 21], [22]), ([23], [23]), ([24, 23], [23, 24]), ([25, 23], [23, 25]), ([23], [23]), ([27, 23], [23, 27]), ([28, 23], [23, 28]), ([26, 29, 23], [23, 26, 29]), ([23, 30], [23, 30]), ([31, 23], [31]), ([32], [32]), ([33, 32, 32], [32, 33]), ([32], [32]), ([34, 35, 34, 32], [32, 34, 35]), ([32, 36], [32, 36]), ([37, 36, 0, 1, 2, 3, 4, 5, 6, 7, 8, 9, 10, 11, 12, 13, 14, 15, 16, 17, 18, 19, 20, 21, 22, 23, 24, 25, 26, 27, 28, 29, 30, 31, 32, 33, 34, 35, 36, 37], [37])])
def furrowlaw11_FormText.B9 : List Nat := [0, 0, 3, 0, 15, 0, 63, 127, 255, 511, 1023, 2047, 511, 4607, 12799, 32767, 65535, 131071, 262143, 524287, 262143, 2097151, 4194303, 8388607, 16777215, 33554431, 67108863, 16777215, 150994943, 419430399, 1073741823, 2147483647, 4294967295, 8589934591, 17179869183, 8589934591, 68719476735, 137438953471, 274877906943]
theorem furrowlaw11_FormText.tab9 : rtab .any (opsOf Tryd.f5 9) = furrowlaw11_FormText.T9 := by kernel_rfl
theorem furrowlaw11_FormText.bits9 : waitsOk furrowlaw11_FormText.T9.2 furrowlaw11_FormText.B9 = true := by kernel_rfl
set_option maxHeartbeats 8000000 in
set_option maxRecDepth 100000 in
theorem furrowlaw11_FormText.calls (k : Nat) (A0_0 : Option Addr) (c0_0 : Nat) (l0_0 : List Int) (a0_1 : Int) (A1 : Option Addr) (c1 : Nat) (l1 : List ByteArray) (a2 : Int) (a3 : Int) (w : World) (hr0_0 : Kd.C (Kd.int .i64) w A0_0 l0_0.length l0_0) (hc0_0 : l0_0.length ≤ c0_0) (hr1 : Kd.C Kd.string w A1 l1.length l1) (hc1 : l1.length ≤ c1) (hG : Glob w) (h : furrowlaw11_FormText.f k l0_0 a0_1 l1 a2 a3 = some true) :
  Calls Tryd.prog 5 #[.agg #[.slice A0_0 l0_0.length c0_0, .int .i64 a0_1], .slice A1 l1.length c1, .int .i64 a2, .int .i64 a3] w fun e w' => e = .returned (.bool true) ∧ Below w.heap.size w w' := by
 have hu24 := Tryd.underlying24
 have hu31 := Tryd.underlying31
 have HR0_0 := mk0 hr0_0
 have HC0_0 := mk0 hc0_0
 clear hr0_0 hc0_0
 have HR1 := mk0 hr1
 have HC1 := mk0 hc1
 clear hr1 hc1
 have HG := mk0 hG
 clear hG
 have HB := mk0 (Below.refl w.heap.size w)
 have H : ((furrowlaw11_known.f k).bind fun t547 => (if t547 = true then ((furrowlaw11_few.f l0_0 a0_1).bind fun t548 => (if t548 = true then (if (l1.length : Int) > 20 then (furrowlaw11_FormText.j0 k l1 a2 a3 true l0_0 a0_1) else (furrowlaw11_FormText.j0 k l1 a2 a3 (decide (a2 > 50)) l0_0 a0_1)) else (furrowlaw11_FormText.j0 k l1 a2 a3 true l0_0 a0_1))) else (some false))) = some true := h
 clear h
 replace H := Option.bind_eq_some_iff.mp H
 obtain ⟨t547, A50, H⟩ := H
 replace H : (if t547 = true then ((furrowlaw11_few.f l0_0 a0_1).bind fun t548 => (if t548 = true then (if (l1.length : Int) > 20 then (furrowlaw11_FormText.j0 k l1 a2 a3 true l0_0 a0_1) else (furrowlaw11_FormText.j0 k l1 a2 a3 (decide (a2 > 50)) l0_0 a0_1)) else (furrowlaw11_FormText.j0 k l1 a2 a3 true l0_0 a0_1))) else (some false)) = some true := H
 have A5 := mk0 A50
 clear A50
 by_cases c6 : t547 = true
 ·subst c6
  have H1 : ((furrowlaw11_few.f l0_0 a0_1).bind fun t548 => (if t548 = true then (if (l1.length : Int) > 20 then (furrowlaw11_FormText.j0 k l1 a2 a3 true l0_0 a0_1) else (furrowlaw11_FormText.j0 k l1 a2 a3 (decide (a2 > 50)) l0_0 a0_1)) else (furrowlaw11_FormText.j0 k l1 a2 a3 true l0_0 a0_1))) = some true := by rw [if_pos rfl] at H; first | done | exact H
  clear H
  have H := H1
  clear H1
  have HC7 := mk0 H
  clear H
  go_enter Tryd.func5, Tryd.ntmps5
  go_upto_region 3 with (first | ((with_reducible refine gate_dst (N := 4) rfl ?_); (try (refine gate_guard (by rfl) ?_; dsimp only)); refine box_event ?hg (N := 4) ?hd (cs := #[.slice A0_0 l0_0.length c0_0, .int .i64 a0_1]) (t := 24) ?hr ?_; (case hd => rfl); (case hg => rfl); (case hr => first | (go_simp; done) | (go_simp; rfl)); intro gb546 hg w8 hbox hb; have n0_ := mk0 (below_step (uL HB.out) hb); have n1_ := mk0 (hbox); have n2_ := mk0 ((by rw [hg]; exact (below_size (uL HB.out)) : w.heap.size ≤ gb546)); have n3_ := mk0 ((by rw [hg]; exact (below_size (uL HB.out)) : w.heap.size ≤ gb546)); clear HB; have HB := n0_; have BK546 := n1_; have GW546 := n2_; have GE546 := n3_; clear n0_ n1_ n2_ n3_; clear hb hbox hg) | ((with_reducible refine gate_callee (f := 9) rfl ?_); refine goesL_ (some 13) rfl rfl Tryd.func9 (by kernel_rfl) rfl #[] rfl (by (try simp only [List.map_toArray, List.map_cons, List.map_nil]); first | done | rfl | (simp only [List.length_drop, List.length_take]; rfl)) ?_; (with_reducible refine (furrowlaw11_known.calls k   _ ?side1 A5.out).mono ?_); (case side1 => exact Glob.below HG.out (by repeat (first | (with_reducible first | exact HB.out | apply bA | apply bN | apply bD | refine bS ?_ (by assumption)) | exact HB.out))); rintro e w9 ⟨rfl, hb⟩; refine ⟨_, rfl, ?_⟩; have n0_ := mk0 (blk_below (g := gb546) (o := .cells #[.slice A0_0 l0_0.length c0_0, .int .i64 a0_1] 24 (0, 0)) (uB BK546.out) hb); have n1_ := mk0 (below_step (by repeat (first | (with_reducible first | exact HB.out | apply bA | apply bN | apply bD | refine bS ?_ (by assumption)) | exact HB.out)) hb); clear BK546; clear HB; have BK546 := n0_; have HB := n1_; clear n0_ n1_; (try clear hb); (try clear hb2); (try clear hk); (try clear hi)))
  (try simp only [Act.put, List.setIfInBounds_toArray, List.set_cons_zero, List.set_cons_succ])
  go_cut [26] (fun v26 wc => ∃ (kq : Nat) (x26_6 : Bool), v26 = .bool x26_6 ∧ Aside0 (furrowlaw11_FormText.j0 kq l1 a2 a3 x26_6 l0_0 a0_1 = some true) ∧ Aside0 (kq ≤ k) ∧ Aside0 (wc.heap[gb546]? = some (.cells #[(.slice A0_0 l0_0.length c0_0), .int .i64 a0_1] 24 (0, 0))) ∧ Aside0 (Below w.heap.size w wc))
  case first =>
   have H := HC7.out
   clear HC7
   replace H := Option.bind_eq_some_iff.mp H
   obtain ⟨t548, A100, H⟩ := H
   replace H : (if t548 = true then (if (l1.length : Int) > 20 then (furrowlaw11_FormText.j0 k l1 a2 a3 true l0_0 a0_1) else (furrowlaw11_FormText.j0 k l1 a2 a3 (decide (a2 > 50)) l0_0 a0_1)) else (furrowlaw11_FormText.j0 k l1 a2 a3 true l0_0 a0_1)) = some true := H
   have A10 := mk0 A100
   clear A100
   by_cases c11 : t548 = true
   ·subst c11
    have H1 : (if (l1.length : Int) > 20 then (furrowlaw11_FormText.j0 k l1 a2 a3 true l0_0 a0_1) else (furrowlaw11_FormText.j0 k l1 a2 a3 (decide (a2 > 50)) l0_0 a0_1)) = some true := by rw [if_pos rfl] at H; first | done | exact H
    clear H
    have H := H1
    clear H1
    by_cases c12 : (l1.length : Int) > 20
    ·rw [if_pos c12] at H
     have c12b0 : decide (20 < (l1.length : Int)) = true := decide_eq_true c12
     have c12b1 : decide (20 < l1.length) = true := decide_eq_true (by omega)
     clear c12
     (first | rw [c12b0] | (simp only [i64_w, i32_w]; rw [c12b0]) | skip)
     have H' := mk0 H
     clear H
     have hcz13_0 : w9.cell? ⟨gb546, 0, none⟩ = some (.slice A0_0 l0_0.length c0_0) := (blk_cell BK546.out 0).trans rfl
     have hcz13_1 : w9.cell? ⟨gb546, 1, none⟩ = some (.int .i64 a0_1) := (blk_cell BK546.out 1).trans rfl
     have hfz13_0 := blk_frozen BK546.out 0
     have hfz13_1 := blk_frozen BK546.out 1
     go_wp2_with (first | ((with_reducible refine gate_callee (f := 10) rfl ?_); refine goesL_ (some 16) rfl rfl Tryd.func10 (by kernel_rfl) rfl #[.agg #[.slice A0_0 l0_0.length c0_0, .int .i64 a0_1]] rfl (by (try simp only [List.map_toArray, List.map_cons, List.map_nil]); first | done | rfl | (simp only [List.length_drop, List.length_take]; rfl)) ?_; (with_reducible refine (furrowlaw11_few.calls _ _ l0_0 a0_1 true _ ?side1 ?side2 A10.out).mono ?_); (case side1 => repeat (first | exact (Kd.C_below HR0_0.out HB.out) | (with_reducible refine Kd.C_alloc ?_ _) | (with_reducible refine Kd.C_drewN ?_ _) | (with_reducible refine Kd.C_drew ?_))); (case side2 => exact HC0_0.out); rintro e w14 ⟨rfl, hb⟩; refine ⟨_, rfl, ?_⟩; have n0_ := mk0 (blk_below (g := gb546) (o := .cells #[.slice A0_0 l0_0.length c0_0, .int .i64 a0_1] 24 (0, 0)) (uB BK546.out) hb); have n1_ := mk0 (below_step (by repeat (first | (with_reducible first | exact HB.out | apply bA | apply bN | apply bD | refine bS ?_ (by assumption)) | exact HB.out)) hb); clear BK546; clear HB; have BK546 := n0_; have HB := n1_; clear n0_ n1_; (try clear hb); (try clear hb2); (try clear hk); (try clear hi)))
     go_meet
     case rel => exact ⟨_, (true), (by first | rfl | (simp; done) | (simp [*]; done) | (simp [bne_nil_, beq_nil_]; done)), H', ⟨by first | omega | exact Nat.le_refl _⟩, ⟨uB BK546.out⟩, ⟨by repeat (first | (with_reducible first | exact HB.out | apply bA | apply bN | apply bD | refine bS ?_ (by assumption)) | exact HB.out)⟩⟩
    ·rw [if_neg c12] at H
     have c12b0 : decide (20 < (l1.length : Int)) = false := decide_eq_false c12
     have c12b1 : decide (20 < l1.length) = false := decide_eq_false (by omega)
     clear c12
     (first | rw [c12b0] | (simp only [i64_w, i32_w]; rw [c12b0]) | skip)
     have H' := mk0 H
     clear H
     have hcz15_0 : w9.cell? ⟨gb546, 0, none⟩ = some (.slice A0_0 l0_0.length c0_0) := (blk_cell BK546.out 0).trans rfl
     have hcz15_1 : w9.cell? ⟨gb546, 1, none⟩ = some (.int .i64 a0_1) := (blk_cell BK546.out 1).trans rfl
     have hfz15_0 := blk_frozen BK546.out 0
     have hfz15_1 := blk_frozen BK546.out 1
     go_wp2_with (first | ((with_reducible refine gate_callee (f := 10) rfl ?_); refine goesL_ (some 16) rfl rfl Tryd.func10 (by kernel_rfl) rfl #[.agg #[.slice A0_0 l0_0.length c0_0, .int .i64 a0_1]] rfl (by (try simp only [List.map_toArray, List.map_cons, List.map_nil]); first | done | rfl | (simp only [List.length_drop, List.length_take]; rfl)) ?_; (with_reducible refine (furrowlaw11_few.calls _ _ l0_0 a0_1 true _ ?side1 ?side2 A10.out).mono ?_); (case side1 => repeat (first | exact (Kd.C_below HR0_0.out HB.out) | (with_reducible refine Kd.C_alloc ?_ _) | (with_reducible refine Kd.C_drewN ?_ _) | (with_reducible refine Kd.C_drew ?_))); (case side2 => exact HC0_0.out); rintro e w16 ⟨rfl, hb⟩; refine ⟨_, rfl, ?_⟩; have n0_ := mk0 (blk_below (g := gb546) (o := .cells #[.slice A0_0 l0_0.length c0_0, .int .i64 a0_1] 24 (0, 0)) (uB BK546.out) hb); have n1_ := mk0 (below_step (by repeat (first | (with_reducible first | exact HB.out | apply bA | apply bN | apply bD | refine bS ?_ (by assumption)) | exact HB.out)) hb); clear BK546; clear HB; have BK546 := n0_; have HB := n1_; clear n0_ n1_; (try clear hb); (try clear hb2); (try clear hk); (try clear hi)))
     go_meet
     case rel => exact ⟨_, (decide (a2 > 50)), (by first | rfl | (simp; done) | (simp [*]; done) | (simp [bne_nil_, beq_nil_]; done)), H', ⟨by first | omega | exact Nat.le_refl _⟩, ⟨uB BK546.out⟩, ⟨by repeat (first | (with_reducible first | exact HB.out | apply bA | apply bN | apply bD | refine bS ?_ (by assumption)) | exact HB.out)⟩⟩
   ·replace c11 := Bool.eq_false_iff.mpr c11
    subst c11
    have H1 : (furrowlaw11_FormText.j0 k l1 a2 a3 true l0_0 a0_1) = some true := by rw [if_neg (show ¬ (false = true) by decide)] at H; first | done | exact H
    clear H
    have H := H1
    clear H1
    have H' := mk0 H
    clear H
    have hcz17_0 : w9.cell? ⟨gb546, 0, none⟩ = some (.slice A0_0 l0_0.length c0_0) := (blk_cell BK546.out 0).trans rfl
    have hcz17_1 : w9.cell? ⟨gb546, 1, none⟩ = some (.int .i64 a0_1) := (blk_cell BK546.out 1).trans rfl
    have hfz17_0 := blk_frozen BK546.out 0
    have hfz17_1 := blk_frozen BK546.out 1
    go_wp2_with (first | ((with_reducible refine gate_callee (f := 10) rfl ?_); refine goesL_ (some 16) rfl rfl Tryd.func10 (by kernel_rfl) rfl #[.agg #[.slice A0_0 l0_0.length c0_0, .int .i64 a0_1]] rfl (by (try simp only [List.map_toArray, List.map_cons, List.map_nil]); first | done | rfl | (simp only [List.length_drop, List.length_take]; rfl)) ?_; (with_reducible refine (furrowlaw11_few.calls _ _ l0_0 a0_1 false _ ?side1 ?side2 A10.out).mono ?_); (case side1 => repeat (first | exact (Kd.C_below HR0_0.out HB.out) | (with_reducible refine Kd.C_alloc ?_ _) | (with_reducible refine Kd.C_drewN ?_ _) | (with_reducible refine Kd.C_drew ?_))); (case side2 => exact HC0_0.out); rintro e w18 ⟨rfl, hb⟩; refine ⟨_, rfl, ?_⟩; have n0_ := mk0 (blk_below (g := gb546) (o := .cells #[.slice A0_0 l0_0.length c0_0, .int .i64 a0_1] 24 (0, 0)) (uB BK546.out) hb); have n1_ := mk0 (below_step (by repeat (first | (with_reducible first | exact HB.out | apply bA | apply bN | apply bD | refine bS ?_ (by assumption)) | exact HB.out)) hb); clear BK546; clear HB; have BK546 := n0_; have HB := n1_; clear n0_ n1_; (try clear hb); (try clear hb2); (try clear hk); (try clear hi)))
    go_meet
    case rel => exact ⟨_, (true), (by first | rfl | (simp; done) | (simp [*]; done) | (simp [bne_nil_, beq_nil_]; done)), H', ⟨by first | omega | exact Nat.le_refl _⟩, ⟨uB BK546.out⟩, ⟨by repeat (first | (with_reducible first | exact HB.out | apply bA | apply bN | apply bD | refine bS ?_ (by assumption)) | exact HB.out)⟩⟩
  case rest =>
   clear HC7
   try clear c1
   try clear p2
   try clear c5
   try clear c6
   try clear c9
   try clear c10
   try clear c11
   try clear c12
   try clear c12b0
   try clear c12b1
   try clear hcz13_0
   try clear hcz13_1
   try clear hcz15_0
   try clear hcz15_1
   try clear hcz17_0
   try clear hcz17_1
   try clear hfz13_0
   try clear hfz13_1
   try clear hfz15_0
   try clear hfz15_1
   try clear hfz17_0
   try clear hfz17_1
   obtain ⟨kq, x26_6, rfl, HA, HJ6, BK546, HB⟩ := hcut
   cases kq with
   | zero => exact absurd HA.out (by simp [furrowlaw11_FormText.j0])
   | succ kj6 =>
    have H := HA.out
    clear HA
    simp only [furrowlaw11_FormText.j0] at H
    by_cases c19 : x26_6 = true
    ·subst c19
     have H1 : (some true) = some true := by rw [if_pos rfl] at H; first | done | exact H
     clear H
     have H := H1
     clear H1
     have HT := mk0 (Option.some.inj H)
     clear H
     go_wp2
     go_ret
     exact ⟨by first | rfl | (simp [errW_none, errW_some] <;> rfl) | (exact congrArg (fun b_ => Ending.returned (Value.bool b_)) HT.out) | (rw [show _ = _ from HT.out]) | (simp [HT.out]; done) | (simp [show _ = _ from HT.out]; done) | (simp [*, errW_none, errW_some] <;> rfl), by repeat (first | (with_reducible first | exact HB.out | apply bA | apply bN | apply bD | refine bS ?_ (by assumption)) | exact HB.out)⟩
    ·replace c19 := Bool.eq_false_iff.mpr c19
     subst c19
     have H1 : ((lin_Const.f a2 7).bind fun bt549 => ((furrowref14_Const.f a2 7).bind fun bt554 => ((lin_Index.f a2 a3).bind fun bt559 => ((furrowref14_Index.f a2 a3).bind fun bt564 => ((lin_Text.f l0_0 a0_1 l1).bind fun t569 => ((furrowlaw11_Of.f l0_0 a0_1).bind fun bt570 => ((furrowref14_Text.f kj6 bt570.1 bt570.2 l1).bind fun t574 => (if t569.toList = t574.toList then (if (bt549.1.length : Int) = (bt554.1.length : Int) then ((furrowlaw11_Of.f bt549.1 bt549.2).bind fun bt575 => ((furrowref14_Same.f kj6 bt575.1 bt575.2 bt554.1 bt554.2).bind fun t579 => (if t579 = true then (if (bt559.1.length : Int) = (bt564.1.length : Int) then ((furrowlaw11_Of.f bt559.1 bt559.2).bind fun bt580 => ((furrowref14_Same.f kj6 bt580.1 bt580.2 bt564.1 bt564.2).bind fun t584 => (some t584))) else (some false)) else (some false)))) else (some false)) else (some false))))))))) = some true := by rw [if_neg (show ¬ (false = true) by decide)] at H; first | done | exact H
     clear H
     have H := H1
     clear H1
     replace H := Option.bind_eq_some_iff.mp H
     obtain ⟨⟨t549, t552⟩, A200, H⟩ := H
     replace H : ((furrowref14_Const.f a2 7).bind fun bt554 => ((lin_Index.f a2 a3).bind fun bt559 => ((furrowref14_Index.f a2 a3).bind fun bt564 => ((lin_Text.f l0_0 a0_1 l1).bind fun t569 => ((furrowlaw11_Of.f l0_0 a0_1).bind fun bt570 => ((furrowref14_Text.f kj6 bt570.1 bt570.2 l1).bind fun t574 => (if t569.toList = t574.toList then (if (t549.length : Int) = (bt554.1.length : Int) then ((furrowlaw11_Of.f t549 t552).bind fun bt575 => ((furrowref14_Same.f kj6 bt575.1 bt575.2 bt554.1 bt554.2).bind fun t579 => (if t579 = true then (if (bt559.1.length : Int) = (bt564.1.length : Int) then ((furrowlaw11_Of.f bt559.1 bt559.2).bind fun bt580 => ((furrowref14_Same.f kj6 bt580.1 bt580.2 bt564.1 bt564.2).bind fun t584 => (some t584))) else (some false)) else (some false)))) else (some false)) else (some false)))))))) = some true := H
     have A20 := mk0 A200
     clear A200
     replace H := Option.bind_eq_some_iff.mp H
     obtain ⟨⟨t554, t557⟩, A210, H⟩ := H
     replace H : ((lin_Index.f a2 a3).bind fun bt559 => ((furrowref14_Index.f a2 a3).bind fun bt564 => ((lin_Text.f l0_0 a0_1 l1).bind fun t569 => ((furrowlaw11_Of.f l0_0 a0_1).bind fun bt570 => ((furrowref14_Text.f kj6 bt570.1 bt570.2 l1).bind fun t574 => (if t569.toList = t574.toList then (if (t549.length : Int) = (t554.length : Int) then ((furrowlaw11_Of.f t549 t552).bind fun bt575 => ((furrowref14_Same.f kj6 bt575.1 bt575.2 t554 t557).bind fun t579 => (if t579 = true then (if (bt559.1.length : Int) = (bt564.1.length : Int) then ((furrowlaw11_Of.f bt559.1 bt559.2).bind fun bt580 => ((furrowref14_Same.f kj6 bt580.1 bt580.2 bt564.1 bt564.2).bind fun t584 => (some t584))) else (some false)) else (some false)))) else (some false)) else (some false))))))) = some true := H
     have A21 := mk0 A210
     clear A210
     replace H := Option.bind_eq_some_iff.mp H
     obtain ⟨⟨t559, t562⟩, A220, H⟩ := H
     replace H : ((furrowref14_Index.f a2 a3).bind fun bt564 => ((lin_Text.f l0_0 a0_1 l1).bind fun t569 => ((furrowlaw11_Of.f l0_0 a0_1).bind fun bt570 => ((furrowref14_Text.f kj6 bt570.1 bt570.2 l1).bind fun t574 => (if t569.toList = t574.toList then (if (t549.length : Int) = (t554.length : Int) then ((furrowlaw11_Of.f t549 t552).bind fun bt575 => ((furrowref14_Same.f kj6 bt575.1 bt575.2 t554 t557).bind fun t579 => (if t579 = true then (if (t559.length : Int) = (bt564.1.length : Int) then ((furrowlaw11_Of.f t559 t562).bind fun bt580 => ((furrowref14_Same.f kj6 bt580.1 bt580.2 bt564.1 bt564.2).bind fun t584 => (some t584))) else (some false)) else (some false)))) else (some false)) else (some false)))))) = some true := H
     have A22 := mk0 A220
     clear A220
     replace H := Option.bind_eq_some_iff.mp H
     obtain ⟨⟨t564, t567⟩, A230, H⟩ := H
     replace H : ((lin_Text.f l0_0 a0_1 l1).bind fun t569 => ((furrowlaw11_Of.f l0_0 a0_1).bind fun bt570 => ((furrowref14_Text.f kj6 bt570.1 bt570.2 l1).bind fun t574 => (if t569.toList = t574.toList then (if (t549.length : Int) = (t554.length : Int) then ((furrowlaw11_Of.f t549 t552).bind fun bt575 => ((furrowref14_Same.f kj6 bt575.1 bt575.2 t554 t557).bind fun t579 => (if t579 = true then (if (t559.length : Int) = (t564.length : Int) then ((furrowlaw11_Of.f t559 t562).bind fun bt580 => ((furrowref14_Same.f kj6 bt580.1 bt580.2 t564 t567).bind fun t584 => (some t584))) else (some false)) else (some false)))) else (some false)) else (some false))))) = some true := H
     have A23 := mk0 A230
     clear A230
     replace H := Option.bind_eq_some_iff.mp H
     obtain ⟨t569, A240, H⟩ := H
     replace H : ((furrowlaw11_Of.f l0_0 a0_1).bind fun bt570 => ((furrowref14_Text.f kj6 bt570.1 bt570.2 l1).bind fun t574 => (if t569.toList = t574.toList then (if (t549.length : Int) = (t554.length : Int) then ((furrowlaw11_Of.f t549 t552).bind fun bt575 => ((furrowref14_Same.f kj6 bt575.1 bt575.2 t554 t557).bind fun t579 => (if t579 = true then (if (t559.length : Int) = (t564.length : Int) then ((furrowlaw11_Of.f t559 t562).bind fun bt580 => ((furrowref14_Same.f kj6 bt580.1 bt580.2 t564 t567).bind fun t584 => (some t584))) else (some false)) else (some false)))) else (some false)) else (some false)))) = some true := H
     have A24 := mk0 A240
     clear A240
     replace H := Option.bind_eq_some_iff.mp H
     obtain ⟨⟨t570, t573⟩, A250, H⟩ := H
     replace H : ((furrowref14_Text.f kj6 t570 t573 l1).bind fun t574 => (if t569.toList = t574.toList then (if (t549.length : Int) = (t554.length : Int) then ((furrowlaw11_Of.f t549 t552).bind fun bt575 => ((furrowref14_Same.f kj6 bt575.1 bt575.2 t554 t557).bind fun t579 => (if t579 = true then (if (t559.length : Int) = (t564.length : Int) then ((furrowlaw11_Of.f t559 t562).bind fun bt580 => ((furrowref14_Same.f kj6 bt580.1 bt580.2 t564 t567).bind fun t584 => (some t584))) else (some false)) else (some false)))) else (some false)) else (some false))) = some true := H
     have A25 := mk0 A250
     clear A250
     replace H := Option.bind_eq_some_iff.mp H
     obtain ⟨t574, A260, H⟩ := H
     replace H : (if t569.toList = t574.toList then (if (t549.length : Int) = (t554.length : Int) then ((furrowlaw11_Of.f t549 t552).bind fun bt575 => ((furrowref14_Same.f kj6 bt575.1 bt575.2 t554 t557).bind fun t579 => (if t579 = true then (if (t559.length : Int) = (t564.length : Int) then ((furrowlaw11_Of.f t559 t562).bind fun bt580 => ((furrowref14_Same.f kj6 bt580.1 bt580.2 t564 t567).bind fun t584 => (some t584))) else (some false)) else (some false)))) else (some false)) else (some false)) = some true := H
     have A26 := mk0 A260
     clear A260
     by_cases c27 : t569.toList = t574.toList
     ·rw [if_pos c27] at H
      have c27b0 : (t569.toList == t574.toList) = true := beq_iff_eq.mpr c27
      have c27b1 : (t569.toList != t574.toList) = false := bne_eq_false_iff_eq.mpr c27
      clear c27
      by_cases c28 : (t549.length : Int) = (t554.length : Int)
      ·rw [if_pos c28] at H
       have c28b0 : ((t549.length : Int) == (t554.length : Int)) = true := beq_iff_eq.mpr c28
       have c28b1 : ((t549.length : Int) != (t554.length : Int)) = false := bne_eq_false_iff_eq.mpr c28
       have c28b2 : (t549.length == t554.length) = true := by first | simpa using c28 | (simp at c28 ⊢; omega)
       clear c28
       replace H := Option.bind_eq_some_iff.mp H
       obtain ⟨⟨t575, t578⟩, A290, H⟩ := H
       replace H : ((furrowref14_Same.f kj6 t575 t578 t554 t557).bind fun t579 => (if t579 = true then (if (t559.length : Int) = (t564.length : Int) then ((furrowlaw11_Of.f t559 t562).bind fun bt580 => ((furrowref14_Same.f kj6 bt580.1 bt580.2 t564 t567).bind fun t584 => (some t584))) else (some false)) else (some false))) = some true := H
       have A29 := mk0 A290
       clear A290
       replace H := Option.bind_eq_some_iff.mp H
       obtain ⟨t579, A300, H⟩ := H
       replace H : (if t579 = true then (if (t559.length : Int) = (t564.length : Int) then ((furrowlaw11_Of.f t559 t562).bind fun bt580 => ((furrowref14_Same.f kj6 bt580.1 bt580.2 t564 t567).bind fun t584 => (some t584))) else (some false)) else (some false)) = some true := H
       have A30 := mk0 A300
       clear A300
       by_cases c31 : t579 = true
       ·subst c31
        have H1 : (if (t559.length : Int) = (t564.length : Int) then ((furrowlaw11_Of.f t559 t562).bind fun bt580 => ((furrowref14_Same.f kj6 bt580.1 bt580.2 t564 t567).bind fun t584 => (some t584))) else (some false)) = some true := by rw [if_pos rfl] at H; first | done | exact H
        clear H
        have H := H1
        clear H1
        by_cases c32 : (t559.length : Int) = (t564.length : Int)
        ·rw [if_pos c32] at H
         have c32b0 : ((t559.length : Int) == (t564.length : Int)) = true := beq_iff_eq.mpr c32
         have c32b1 : ((t559.length : Int) != (t564.length : Int)) = false := bne_eq_false_iff_eq.mpr c32
         have c32b2 : (t559.length == t564.length) = true := by first | simpa using c32 | (simp at c32 ⊢; omega)
         clear c32
         replace H := Option.bind_eq_some_iff.mp H
         obtain ⟨⟨t580, t583⟩, A330, H⟩ := H
         replace H : ((furrowref14_Same.f kj6 t580 t583 t564 t567).bind fun t584 => (some t584)) = some true := H
         have A33 := mk0 A330
         clear A330
         replace H := Option.bind_eq_some_iff.mp H
         obtain ⟨t584, A340, H⟩ := H
         replace H : (some t584) = some true := H
         have A34 := mk0 A340
         clear A340
         have HT := mk0 (Option.some.inj H)
         clear H
         try go_wp2_with (first | ((with_reducible refine gate_callee (f := 23) rfl ?_); refine goesL_ (some 28) rfl rfl Tryd.func23 (by kernel_rfl) rfl #[.int .i64 a2, .int .i64 7] rfl (by (try simp only [List.map_toArray, List.map_cons, List.map_nil]); first | done | rfl | (simp only [List.length_drop, List.length_take]; rfl)) ?_; (with_reducible refine (lin_Const.calls a2 7 t549 t552 _ A20.out).mono ?_); rintro e w35 ⟨v550, rfl, ho0, hb⟩; refine ⟨_, rfl, ?_⟩; have n0_ := mk0 (Kd.R_lower ho0 (below_size (by repeat (first | (with_reducible first | exact HB.out | apply bA | apply bN | apply bD | refine bS ?_ (by assumption)) | exact HB.out)))); have n1_ := mk0 (blk_below (g := gb546) (o := .cells #[.slice A0_0 l0_0.length c0_0, .int .i64 a0_1] 24 (0, 0)) (uB BK546.out) hb); have n2_ := mk0 (below_step (by repeat (first | (with_reducible first | exact HB.out | apply bA | apply bN | apply bD | refine bS ?_ (by assumption)) | exact HB.out)) hb); clear BK546; clear HB; have HO551 := n0_; have BK546 := n1_; have HB := n2_; clear n0_ n1_ n2_; (try clear hb); (try clear hb2); (try clear hk); (try clear hi); (try clear ho0)) | ((with_reducible refine gate_dst (N := 9) rfl ?_); (try (refine gate_guard (by rfl) ?_; dsimp only)); refine box_event ?hg (N := 9) ?hd (cs := #[.slice none 0 0, .int .i64 0]) (t := 24) ?hr ?_; (case hd => rfl); (case hg => rfl); (case hr => first | (go_simp; done) | (go_simp; rfl)); intro gb553 hg w36 hbox hb; have n0_ := mk0 (Kd.R_below (uR HO551.out) hb); have n1_ := mk0 (blk_below (g := gb546) (o := .cells #[.slice A0_0 l0_0.length c0_0, .int .i64 a0_1] 24 (0, 0)) (uB BK546.out) hb); have n2_ := mk0 (below_step (by repeat (first | (with_reducible first | exact HB.out | apply bA | apply bN | apply bD | refine bS ?_ (by assumption)) | exact HB.out)) hb); have n3_ := mk0 (hbox); have n4_ := mk0 ((by rw [hg]; exact (below_size (by repeat (first | (with_reducible first | exact HB.out | apply bA | apply bN | apply bD | refine bS ?_ (by assumption)) | exact HB.out))) : w.heap.size ≤ gb553)); have n5_ := mk0 ((by rw [hg]; exact (below_size (by repeat (first | (with_reducible first | exact HB.out | apply bA | apply bN | apply bD | refine bS ?_ (by assumption)) | exact HB.out))) : w.heap.size ≤ gb553)); have n6_ := mk0 ((by rw [hg]; exact Nat.ne_of_lt (blk_lt (g := gb546) (o := .cells #[.slice A0_0 l0_0.length c0_0, .int .i64 a0_1] 24 (0, 0)) (uB BK546.out)) : gb546 ≠ gb553)); have n7_ := mk0 ((by rw [hg]; exact Nat.ne_of_gt (blk_lt (g := gb546) (o := .cells #[.slice A0_0 l0_0.length c0_0, .int .i64 a0_1] 24 (0, 0)) (uB BK546.out)) : gb553 ≠ gb546)); clear HO551; clear BK546; clear HB; have HO551 := n0_; have BK546 := n1_; have HB := n2_; have BK553 := n3_; have GW553 := n4_; have GE553 := n5_; have NB546_553 := n6_; have NB553_546 := n7_; clear n0_ n1_ n2_ n3_ n4_ n5_ n6_ n7_; clear hb hbox hg; obtain ⟨Ao37, co37, eo37⟩ := Kd.R_slice HO551.out; subst eo37; have hnb38 := NB553_546.out; have hnc38 := NB546_553.out; have hcz39_0 : w36.cell? ⟨gb553, 0, none⟩ = some (.slice none 0 0) := (blk_cell BK553.out 0).trans rfl; have hcz39_1 : w36.cell? ⟨gb553, 1, none⟩ = some (.int .i64 0) := (blk_cell BK553.out 1).trans rfl; have hfz39_0 := blk_frozen BK553.out 0; have hfz39_1 := blk_frozen BK553.out 1) | ((with_reducible refine gate_callee (f := 24) rfl ?_); refine goesL_ (some 30) rfl rfl Tryd.func24 (by kernel_rfl) rfl #[.int .i64 a2, .int .i64 7] rfl (by (try simp only [List.map_toArray, List.map_cons, List.map_nil]); first | done | rfl | (simp only [List.length_drop, List.length_take]; rfl)) ?_; (with_reducible refine (furrowref14_Const.calls a2 7 t554 t557 _ A21.out).mono ?_); rintro e w40 ⟨v555, rfl, ho0, hb⟩; refine ⟨_, rfl, ?_⟩; have n0_ := mk0 (Kd.R_elder' (uR (Kd.R_mono (Kd.R_far (p := ⟨gb553, 1, none⟩) (Kd.R_far (p := ⟨gb553, 0, none⟩) (Kd.R_types HO551.out BK553.out (by decide)) (fun _ hk => hk.2) (.slice Ao37 t549.length co37)) (fun _ hk => hk.2) (.int .i64 t552)) (fun _ h_ => h_.1))) (Kd.R_base ho0) hb); have n1_ := mk0 (Kd.R_lower (Kd.R_new' ho0 (Kd.R_lt (uR (Kd.R_mono (Kd.R_far (p := ⟨gb553, 1, none⟩) (Kd.R_far (p := ⟨gb553, 0, none⟩) (Kd.R_types HO551.out BK553.out (by decide)) (fun _ hk => hk.2) (.slice Ao37 t549.length co37)) (fun _ hk => hk.2) (.int .i64 t552)) (fun _ h_ => h_.1))))) (below_size (by repeat (first | (with_reducible first | exact HB.out | apply bA | apply bN | apply bD | refine bS ?_ (by assumption)) | exact HB.out)))); have n2_ := mk0 (blk_below (g := gb546) (o := .cells #[.slice A0_0 l0_0.length c0_0, .int .i64 a0_1] 24 (0, 0)) (by (with_reducible repeat (first | refine blk_drewN ?_ _ | refine blk_drew ?_ | refine blk_alloc ?_ _)); refine blk_far ?_ NB546_553.out _; (with_reducible repeat (first | refine blk_drewN ?_ _ | refine blk_drew ?_ | refine blk_alloc ?_ _)); refine blk_far ?_ NB546_553.out _; (with_reducible repeat (first | refine blk_drewN ?_ _ | refine blk_drew ?_ | refine blk_alloc ?_ _)); exact BK546.out) hb); have n3_ := mk0 (blk_below (g := gb553) (o := .cells #[.slice Ao37 t549.length co37, .int .i64 t552] 24 (0, 0)) (by (with_reducible repeat (first | refine blk_drewN ?_ _ | refine blk_drew ?_ | refine blk_alloc ?_ _)); refine blk_put (cs := #[.slice Ao37 t549.length co37, .int .i64 0]) ?_ 1 _ rfl; (with_reducible repeat (first | refine blk_drewN ?_ _ | refine blk_drew ?_ | refine blk_alloc ?_ _)); refine blk_put (cs := #[.slice none 0 0, .int .i64 0]) ?_ 0 _ rfl; (with_reducible repeat (first | refine blk_drewN ?_ _ | refine blk_drew ?_ | refine blk_alloc ?_ _)); exact BK553.out) hb); have n4_ := mk0 (below_step (by repeat (first | (with_reducible first | exact HB.out | apply bA | apply bN | apply bD | refine bS ?_ (by assumption)) | exact HB.out)) hb); clear HO551; clear BK546; clear BK553; clear HB; have HO551 := n0_; have HO556 := n1_; have BK546 := n2_; have BK553 := n3_; have HB := n4_; clear n0_ n1_ n2_ n3_ n4_; (try clear hb); (try clear hb2); (try clear hk); (try clear hi); (try clear ho0)) | ((with_reducible refine gate_dst (N := 10) rfl ?_); (try (refine gate_guard (by rfl) ?_; dsimp only)); refine box_event ?hg (N := 10) ?hd (cs := #[.slice none 0 0, .int .i64 0]) (t := 31) ?hr ?_; (case hd => rfl); (case hg => rfl); (case hr => first | (go_simp; done) | (go_simp; rfl)); intro gb558 hg w41 hbox hb; have n0_ := mk0 (Kd.R_below (uR HO551.out) hb); have n1_ := mk0 (Kd.R_below (uR HO556.out) hb); have n2_ := mk0 (blk_below (g := gb546) (o := .cells #[.slice A0_0 l0_0.length c0_0, .int .i64 a0_1] 24 (0, 0)) (uB BK546.out) hb); have n3_ := mk0 (blk_below (g := gb553) (o := .cells #[.slice Ao37 t549.length co37, .int .i64 t552] 24 (0, 0)) (uB BK553.out) hb); have n4_ := mk0 (below_step (by repeat (first | (with_reducible first | exact HB.out | apply bA | apply bN | apply bD | refine bS ?_ (by assumption)) | exact HB.out)) hb); have n5_ := mk0 (hbox); have n6_ := mk0 ((by rw [hg]; exact (below_size (by repeat (first | (with_reducible first | exact HB.out | apply bA | apply bN | apply bD | refine bS ?_ (by assumption)) | exact HB.out))) : w.heap.size ≤ gb558)); have n7_ := mk0 ((by rw [hg]; exact (below_size (by repeat (first | (with_reducible first | exact HB.out | apply bA | apply bN | apply bD | refine bS ?_ (by assumption)) | exact HB.out))) : w.heap.size ≤ gb558)); have n8_ := mk0 ((by rw [hg]; exact Nat.ne_of_lt (blk_lt (g := gb546) (o := .cells #[.slice A0_0 l0_0.length c0_0, .int .i64 a0_1] 24 (0, 0)) (uB BK546.out)) : gb546 ≠ gb558)); have n9_ := mk0 ((by rw [hg]; exact Nat.ne_of_gt (blk_lt (g := gb546) (o := .cells #[.slice A0_0 l0_0.length c0_0, .int .i64 a0_1] 24 (0, 0)) (uB BK546.out)) : gb558 ≠ gb546)); have n10_ := mk0 ((by rw [hg]; exact Nat.ne_of_lt (blk_lt (g := gb553) (o := .cells #[.slice Ao37 t549.length co37, .int .i64 t552] 24 (0, 0)) (uB BK553.out)) : gb553 ≠ gb558)); have n11_ := mk0 ((by rw [hg]; exact Nat.ne_of_gt (blk_lt (g := gb553) (o := .cells #[.slice Ao37 t549.length co37, .int .i64 t552] 24 (0, 0)) (uB BK553.out)) : gb558 ≠ gb553)); clear HO551; clear HO556; clear BK546; clear BK553; clear HB; have HO551 := n0_; have HO556 := n1_; have BK546 := n2_; have BK553 := n3_; have HB := n4_; have BK558 := n5_; have GW558 := n6_; have GE558 := n7_; have NB546_558 := n8_; have NB558_546 := n9_; have NB553_558 := n10_; have NB558_553 := n11_; clear n0_ n1_ n2_ n3_ n4_ n5_ n6_ n7_ n8_ n9_ n10_ n11_; clear hb hbox hg; obtain ⟨Ao42, co42, eo42⟩ := Kd.R_slice HO556.out; subst eo42; have hnb43 := NB558_546.out; have hnc43 := NB546_558.out; have hnb44 := NB558_553.out; have hnc44 := NB553_558.out; have hcz45_0 : w41.cell? ⟨gb558, 0, none⟩ = some (.slice none 0 0) := (blk_cell BK558.out 0).trans rfl; have hcz45_1 : w41.cell? ⟨gb558, 1, none⟩ = some (.int .i64 0) := (blk_cell BK558.out 1).trans rfl; have hfz45_0 := blk_frozen BK558.out 0; have hfz45_1 := blk_frozen BK558.out 1) | ((with_reducible refine gate_callee (f := 25) rfl ?_); refine goesL_ (some 33) rfl rfl Tryd.func25 (by kernel_rfl) rfl #[.int .i64 a2, .int .i64 a3] rfl (by (try simp only [List.map_toArray, List.map_cons, List.map_nil]); first | done | rfl | (simp only [List.length_drop, List.length_take]; rfl)) ?_; (with_reducible refine (lin_Index.calls a2 a3 t559 t562 _ A22.out).mono ?_); rintro e w46 ⟨v560, rfl, ho0, hb⟩; refine ⟨_, rfl, ?_⟩; have n0_ := mk0 (Kd.R_elder' (uR (Kd.R_mono (Kd.R_far (p := ⟨gb558, 1, none⟩) (Kd.R_far (p := ⟨gb558, 0, none⟩) (Kd.R_types HO551.out BK558.out (by decide)) (fun _ hk => hk.2) (.slice Ao42 t554.length co42)) (fun _ hk => hk.2) (.int .i64 t557)) (fun _ h_ => h_.1))) (Kd.R_base ho0) hb); have n1_ := mk0 (Kd.R_elder' (uR (Kd.R_mono (Kd.R_far (p := ⟨gb558, 1, none⟩) (Kd.R_far (p := ⟨gb558, 0, none⟩) (Kd.R_types HO556.out BK558.out (by decide)) (fun _ hk => hk.2) (.slice Ao42 t554.length co42)) (fun _ hk => hk.2) (.int .i64 t557)) (fun _ h_ => h_.1))) (Kd.R_base ho0) hb); have n2_ := mk0 (Kd.R_lower (Kd.R_new' (Kd.R_new' ho0 (Kd.R_lt (uR (Kd.R_mono (Kd.R_far (p := ⟨gb558, 1, none⟩) (Kd.R_far (p := ⟨gb558, 0, none⟩) (Kd.R_types HO551.out BK558.out (by decide)) (fun _ hk => hk.2) (.slice Ao42 t554.length co42)) (fun _ hk => hk.2) (.int .i64 t557)) (fun _ h_ => h_.1))))) (Kd.R_lt (uR (Kd.R_mono (Kd.R_far (p := ⟨gb558, 1, none⟩) (Kd.R_far (p := ⟨gb558, 0, none⟩) (Kd.R_types HO556.out BK558.out (by decide)) (fun _ hk => hk.2) (.slice Ao42 t554.length co42)) (fun _ hk => hk.2) (.int .i64 t557)) (fun _ h_ => h_.1))))) (below_size (by repeat (first | (with_reducible first | exact HB.out | apply bA | apply bN | apply bD | refine bS ?_ (by assumption)) | exact HB.out)))); have n3_ := mk0 (blk_below (g := gb546) (o := .cells #[.slice A0_0 l0_0.length c0_0, .int .i64 a0_1] 24 (0, 0)) (by (with_reducible repeat (first | refine blk_drewN ?_ _ | refine blk_drew ?_ | refine blk_alloc ?_ _)); refine blk_far ?_ NB546_558.out _; (with_reducible repeat (first | refine blk_drewN ?_ _ | refine blk_drew ?_ | refine blk_alloc ?_ _)); refine blk_far ?_ NB546_558.out _; (with_reducible repeat (first | refine blk_drewN ?_ _ | refine blk_drew ?_ | refine blk_alloc ?_ _)); exact BK546.out) hb); have n4_ := mk0 (blk_below (g := gb553) (o := .cells #[.slice Ao37 t549.length co37, .int .i64 t552] 24 (0, 0)) (by (with_reducible repeat (first | refine blk_drewN ?_ _ | refine blk_drew ?_ | refine blk_alloc ?_ _)); refine blk_far ?_ NB553_558.out _; (with_reducible repeat (first | refine blk_drewN ?_ _ | refine blk_drew ?_ | refine blk_alloc ?_ _)); refine blk_far ?_ NB553_558.out _; (with_reducible repeat (first | refine blk_drewN ?_ _ | refine blk_drew ?_ | refine blk_alloc ?_ _)); exact BK553.out) hb); have n5_ := mk0 (blk_below (g := gb558) (o := .cells #[.slice Ao42 t554.length co42, .int .i64 t557] 31 (0, 0)) (by (with_reducible repeat (first | refine blk_drewN ?_ _ | refine blk_drew ?_ | refine blk_alloc ?_ _)); refine blk_put (cs := #[.slice Ao42 t554.length co42, .int .i64 0]) ?_ 1 _ rfl; (with_reducible repeat (first | refine blk_drewN ?_ _ | refine blk_drew ?_ | refine blk_alloc ?_ _)); refine blk_put (cs := #[.slice none 0 0, .int .i64 0]) ?_ 0 _ rfl; (with_reducible repeat (first | refine blk_drewN ?_ _ | refine blk_drew ?_ | refine blk_alloc ?_ _)); exact BK558.out) hb); have n6_ := mk0 (below_step (by repeat (first | (with_reducible first | exact HB.out | apply bA | apply bN | apply bD | refine bS ?_ (by assumption)) | exact HB.out)) hb); clear HO551; clear HO556; clear BK546; clear BK553; clear BK558; clear HB; have HO551 := n0_; have HO556 := n1_; have HO561 := n2_; have BK546 := n3_; have BK553 := n4_; have BK558 := n5_; have HB := n6_; clear n0_ n1_ n2_ n3_ n4_ n5_ n6_; (try clear hb); (try clear hb2); (try clear hk); (try clear hi); (try clear ho0)) | ((with_reducible refine gate_dst (N := 11) rfl ?_); (try (refine gate_guard (by rfl) ?_; dsimp only)); refine box_event ?hg (N := 11) ?hd (cs := #[.slice none 0 0, .int .i64 0]) (t := 24) ?hr ?_; (case hd => rfl); (case hg => rfl); (case hr => first | (go_simp; done) | (go_simp; rfl)); intro gb563 hg w47 hbox hb; have n0_ := mk0 (Kd.R_below (uR HO551.out) hb); have n1_ := mk0 (Kd.R_below (uR HO556.out) hb); have n2_ := mk0 (Kd.R_below (uR HO561.out) hb); have n3_ := mk0 (blk_below (g := gb546) (o := .cells #[.slice A0_0 l0_0.length c0_0, .int .i64 a0_1] 24 (0, 0)) (uB BK546.out) hb); have n4_ := mk0 (blk_below (g := gb553) (o := .cells #[.slice Ao37 t549.length co37, .int .i64 t552] 24 (0, 0)) (uB BK553.out) hb); have n5_ := mk0 (blk_below (g := gb558) (o := .cells #[.slice Ao42 t554.length co42, .int .i64 t557] 31 (0, 0)) (uB BK558.out) hb); have n6_ := mk0 (below_step (by repeat (first | (with_reducible first | exact HB.out | apply bA | apply bN | apply bD | refine bS ?_ (by assumption)) | exact HB.out)) hb); have n7_ := mk0 (hbox); have n8_ := mk0 ((by rw [hg]; exact (below_size (by repeat (first | (with_reducible first | exact HB.out | apply bA | apply bN | apply bD | refine bS ?_ (by assumption)) | exact HB.out))) : w.heap.size ≤ gb563)); have n9_ := mk0 ((by rw [hg]; exact (below_size (by repeat (first | (with_reducible first | exact HB.out | apply bA | apply bN | apply bD | refine bS ?_ (by assumption)) | exact HB.out))) : w.heap.size ≤ gb563)); have n10_ := mk0 ((by rw [hg]; exact Nat.ne_of_lt (blk_lt (g := gb546) (o := .cells #[.slice A0_0 l0_0.length c0_0, .int .i64 a0_1] 24 (0, 0)) (uB BK546.out)) : gb546 ≠ gb563)); have n11_ := mk0 ((by rw [hg]; exact Nat.ne_of_gt (blk_lt (g := gb546) (o := .cells #[.slice A0_0 l0_0.length c0_0, .int .i64 a0_1] 24 (0, 0)) (uB BK546.out)) : gb563 ≠ gb546)); have n12_ := mk0 ((by rw [hg]; exact Nat.ne_of_lt (blk_lt (g := gb553) (o := .cells #[.slice Ao37 t549.length co37, .int .i64 t552] 24 (0, 0)) (uB BK553.out)) : gb553 ≠ gb563)); have n13_ := mk0 ((by rw [hg]; exact Nat.ne_of_gt (blk_lt (g := gb553) (o := .cells #[.slice Ao37 t549.length co37, .int .i64 t552] 24 (0, 0)) (uB BK553.out)) : gb563 ≠ gb553)); have n14_ := mk0 ((by rw [hg]; exact Nat.ne_of_lt (blk_lt (g := gb558) (o := .cells #[.slice Ao42 t554.length co42, .int .i64 t557] 31 (0, 0)) (uB BK558.out)) : gb558 ≠ gb563)); have n15_ := mk0 ((by rw [hg]; exact Nat.ne_of_gt (blk_lt (g := gb558) (o := .cells #[.slice Ao42 t554.length co42, .int .i64 t557] 31 (0, 0)) (uB BK558.out)) : gb563 ≠ gb558)); clear HO551; clear HO556; clear HO561; clear BK546; clear BK553; clear BK558; clear HB; have HO551 := n0_; have HO556 := n1_; have HO561 := n2_; have BK546 := n3_; have BK553 := n4_; have BK558 := n5_; have HB := n6_; have BK563 := n7_; have GW563 := n8_; have GE563 := n9_; have NB546_563 := n10_; have NB563_546 := n11_; have NB553_563 := n12_; have NB563_553 := n13_; have NB558_563 := n14_; have NB563_558 := n15_; clear n0_ n1_ n2_ n3_ n4_ n5_ n6_ n7_ n8_ n9_ n10_ n11_ n12_ n13_ n14_ n15_; clear hb hbox hg; obtain ⟨Ao48, co48, eo48⟩ := Kd.R_slice HO561.out; subst eo48; have hnb49 := NB563_546.out; have hnc49 := NB546_563.out; have hnb50 := NB563_553.out; have hnc50 := NB553_563.out; have hnb51 := NB563_558.out; have hnc51 := NB558_563.out; have hcz52_0 : w47.cell? ⟨gb563, 0, none⟩ = some (.slice none 0 0) := (blk_cell BK563.out 0).trans rfl; have hcz52_1 : w47.cell? ⟨gb563, 1, none⟩ = some (.int .i64 0) := (blk_cell BK563.out 1).trans rfl; have hfz52_0 := blk_frozen BK563.out 0; have hfz52_1 := blk_frozen BK563.out 1) | ((with_reducible refine gate_callee (f := 26) rfl ?_); refine goesL_ (some 36) rfl rfl Tryd.func26 (by kernel_rfl) rfl #[.int .i64 a2, .int .i64 a3] rfl (by (try simp only [List.map_toArray, List.map_cons, List.map_nil]); first | done | rfl | (simp only [List.length_drop, List.length_take]; rfl)) ?_; (with_reducible refine (furrowref14_Index.calls a2 a3 t564 t567 _ A23.out).mono ?_); rintro e w53 ⟨v565, rfl, ho0, hb⟩; refine ⟨_, rfl, ?_⟩; have n0_ := mk0 (Kd.R_elder' (uR (Kd.R_mono (Kd.R_far (p := ⟨gb563, 1, none⟩) (Kd.R_far (p := ⟨gb563, 0, none⟩) (Kd.R_types HO551.out BK563.out (by decide)) (fun _ hk => hk.2) (.slice Ao48 t559.length co48)) (fun _ hk => hk.2) (.int .i64 t562)) (fun _ h_ => h_.1))) (Kd.R_base ho0) hb); have n1_ := mk0 (Kd.R_elder' (uR (Kd.R_mono (Kd.R_far (p := ⟨gb563, 1, none⟩) (Kd.R_far (p := ⟨gb563, 0, none⟩) (Kd.R_types HO556.out BK563.out (by decide)) (fun _ hk => hk.2) (.slice Ao48 t559.length co48)) (fun _ hk => hk.2) (.int .i64 t562)) (fun _ h_ => h_.1))) (Kd.R_base ho0) hb); have n2_ := mk0 (Kd.R_elder' (uR (Kd.R_mono (Kd.R_far (p := ⟨gb563, 1, none⟩) (Kd.R_far (p := ⟨gb563, 0, none⟩) (Kd.R_types HO561.out BK563.out (by decide)) (fun _ hk => hk.2) (.slice Ao48 t559.length co48)) (fun _ hk => hk.2) (.int .i64 t562)) (fun _ h_ => h_.1))) (Kd.R_base ho0) hb); have n3_ := mk0 (Kd.R_lower (Kd.R_new' (Kd.R_new' (Kd.R_new' ho0 (Kd.R_lt (uR (Kd.R_mono (Kd.R_far (p := ⟨gb563, 1, none⟩) (Kd.R_far (p := ⟨gb563, 0, none⟩) (Kd.R_types HO551.out BK563.out (by decide)) (fun _ hk => hk.2) (.slice Ao48 t559.length co48)) (fun _ hk => hk.2) (.int .i64 t562)) (fun _ h_ => h_.1))))) (Kd.R_lt (uR (Kd.R_mono (Kd.R_far (p := ⟨gb563, 1, none⟩) (Kd.R_far (p := ⟨gb563, 0, none⟩) (Kd.R_types HO556.out BK563.out (by decide)) (fun _ hk => hk.2) (.slice Ao48 t559.length co48)) (fun _ hk => hk.2) (.int .i64 t562)) (fun _ h_ => h_.1))))) (Kd.R_lt (uR (Kd.R_mono (Kd.R_far (p := ⟨gb563, 1, none⟩) (Kd.R_far (p := ⟨gb563, 0, none⟩) (Kd.R_types HO561.out BK563.out (by decide)) (fun _ hk => hk.2) (.slice Ao48 t559.length co48)) (fun _ hk => hk.2) (.int .i64 t562)) (fun _ h_ => h_.1))))) (below_size (by repeat (first | (with_reducible first | exact HB.out | apply bA | apply bN | apply bD | refine bS ?_ (by assumption)) | exact HB.out)))); have n4_ := mk0 (blk_below (g := gb546) (o := .cells #[.slice A0_0 l0_0.length c0_0, .int .i64 a0_1] 24 (0, 0)) (by (with_reducible repeat (first | refine blk_drewN ?_ _ | refine blk_drew ?_ | refine blk_alloc ?_ _)); refine blk_far ?_ NB546_563.out _; (with_reducible repeat (first | refine blk_drewN ?_ _ | refine blk_drew ?_ | refine blk_alloc ?_ _)); refine blk_far ?_ NB546_563.out _; (with_reducible repeat (first | refine blk_drewN ?_ _ | refine blk_drew ?_ | refine blk_alloc ?_ _)); exact BK546.out) hb); have n5_ := mk0 (blk_below (g := gb553) (o := .cells #[.slice Ao37 t549.length co37, .int .i64 t552] 24 (0, 0)) (by (with_reducible repeat (first | refine blk_drewN ?_ _ | refine blk_drew ?_ | refine blk_alloc ?_ _)); refine blk_far ?_ NB553_563.out _; (with_reducible repeat (first | refine blk_drewN ?_ _ | refine blk_drew ?_ | refine blk_alloc ?_ _)); refine blk_far ?_ NB553_563.out _; (with_reducible repeat (first | refine blk_drewN ?_ _ | refine blk_drew ?_ | refine blk_alloc ?_ _)); exact BK553.out) hb); have n6_ := mk0 (blk_below (g := gb558) (o := .cells #[.slice Ao42 t554.length co42, .int .i64 t557] 31 (0, 0)) (by (with_reducible repeat (first | refine blk_drewN ?_ _ | refine blk_drew ?_ | refine blk_alloc ?_ _)); refine blk_far ?_ NB558_563.out _; (with_reducible repeat (first | refine blk_drewN ?_ _ | refine blk_drew ?_ | refine blk_alloc ?_ _)); refine blk_far ?_ NB558_563.out _; (with_reducible repeat (first | refine blk_drewN ?_ _ | refine blk_drew ?_ | refine blk_alloc ?_ _)); exact BK558.out) hb); have n7_ := mk0 (blk_below (g := gb563) (o := .cells #[.slice Ao48 t559.length co48, .int .i64 t562] 24 (0, 0)) (by (with_reducible repeat (first | refine blk_drewN ?_ _ | refine blk_drew ?_ | refine blk_alloc ?_ _)); refine blk_put (cs := #[.slice Ao48 t559.length co48, .int .i64 0]) ?_ 1 _ rfl; (with_reducible repeat (first | refine blk_drewN ?_ _ | refine blk_drew ?_ | refine blk_alloc ?_ _)); refine blk_put (cs := #[.slice none 0 0, .int .i64 0]) ?_ 0 _ rfl; (with_reducible repeat (first | refine blk_drewN ?_ _ | refine blk_drew ?_ | refine blk_alloc ?_ _)); exact BK563.out) hb); have n8_ := mk0 (below_step (by repeat (first | (with_reducible first | exact HB.out | apply bA | apply bN | apply bD | refine bS ?_ (by assumption)) | exact HB.out)) hb); clear HO551; clear HO556; clear HO561; clear BK546; clear BK553; clear BK558; clear BK563; clear HB; have HO551 := n0_; have HO556 := n1_; have HO561 := n2_; have HO566 := n3_; have BK546 := n4_; have BK553 := n5_; have BK558 := n6_; have BK563 := n7_; have HB := n8_; clear n0_ n1_ n2_ n3_ n4_ n5_ n6_ n7_ n8_; (try clear hb); (try clear hb2); (try clear hk); (try clear hi); (try clear ho0)) | ((with_reducible refine gate_dst (N := 12) rfl ?_); (try (refine gate_guard (by rfl) ?_; dsimp only)); refine box_event ?hg (N := 12) ?hd (cs := #[.slice none 0 0, .int .i64 0]) (t := 31) ?hr ?_; (case hd => rfl); (case hg => rfl); (case hr => first | (go_simp; done) | (go_simp; rfl)); intro gb568 hg w54 hbox hb; have n0_ := mk0 (Kd.R_below (uR HO551.out) hb); have n1_ := mk0 (Kd.R_below (uR HO556.out) hb); have n2_ := mk0 (Kd.R_below (uR HO561.out) hb); have n3_ := mk0 (Kd.R_below (uR HO566.out) hb); have n4_ := mk0 (blk_below (g := gb546) (o := .cells #[.slice A0_0 l0_0.length c0_0, .int .i64 a0_1] 24 (0, 0)) (uB BK546.out) hb); have n5_ := mk0 (blk_below (g := gb553) (o := .cells #[.slice Ao37 t549.length co37, .int .i64 t552] 24 (0, 0)) (uB BK553.out) hb); have n6_ := mk0 (blk_below (g := gb558) (o := .cells #[.slice Ao42 t554.length co42, .int .i64 t557] 31 (0, 0)) (uB BK558.out) hb); have n7_ := mk0 (blk_below (g := gb563) (o := .cells #[.slice Ao48 t559.length co48, .int .i64 t562] 24 (0, 0)) (uB BK563.out) hb); have n8_ := mk0 (below_step (by repeat (first | (with_reducible first | exact HB.out | apply bA | apply bN | apply bD | refine bS ?_ (by assumption)) | exact HB.out)) hb); have n9_ := mk0 (hbox); have n10_ := mk0 ((by rw [hg]; exact (below_size (by repeat (first | (with_reducible first | exact HB.out | apply bA | apply bN | apply bD | refine bS ?_ (by assumption)) | exact HB.out))) : w.heap.size ≤ gb568)); have n11_ := mk0 ((by rw [hg]; exact (below_size (by repeat (first | (with_reducible first | exact HB.out | apply bA | apply bN | apply bD | refine bS ?_ (by assumption)) | exact HB.out))) : w.heap.size ≤ gb568)); have n12_ := mk0 ((by rw [hg]; exact Nat.ne_of_lt (blk_lt (g := gb546) (o := .cells #[.slice A0_0 l0_0.length c0_0, .int .i64 a0_1] 24 (0, 0)) (uB BK546.out)) : gb546 ≠ gb568)); have n13_ := mk0 ((by rw [hg]; exact Nat.ne_of_gt (blk_lt (g := gb546) (o := .cells #[.slice A0_0 l0_0.length c0_0, .int .i64 a0_1] 24 (0, 0)) (uB BK546.out)) : gb568 ≠ gb546)); have n14_ := mk0 ((by rw [hg]; exact Nat.ne_of_lt (blk_lt (g := gb553) (o := .cells #[.slice Ao37 t549.length co37, .int .i64 t552] 24 (0, 0)) (uB BK553.out)) : gb553 ≠ gb568)); have n15_ := mk0 ((by rw [hg]; exact Nat.ne_of_gt (blk_lt (g := gb553) (o := .cells #[.slice Ao37 t549.length co37, .int .i64 t552] 24 (0, 0)) (uB BK553.out)) : gb568 ≠ gb553)); have n16_ := mk0 ((by rw [hg]; exact Nat.ne_of_lt (blk_lt (g := gb558) (o := .cells #[.slice Ao42 t554.length co42, .int .i64 t557] 31 (0, 0)) (uB BK558.out)) : gb558 ≠ gb568)); have n17_ := mk0 ((by rw [hg]; exact Nat.ne_of_gt (blk_lt (g := gb558) (o := .cells #[.slice Ao42 t554.length co42, .int .i64 t557] 31 (0, 0)) (uB BK558.out)) : gb568 ≠ gb558)); have n18_ := mk0 ((by rw [hg]; exact Nat.ne_of_lt (blk_lt (g := gb563) (o := .cells #[.slice Ao48 t559.length co48, .int .i64 t562] 24 (0, 0)) (uB BK563.out)) : gb563 ≠ gb568)); have n19_ := mk0 ((by rw [hg]; exact Nat.ne_of_gt (blk_lt (g := gb563) (o := .cells #[.slice Ao48 t559.length co48, .int .i64 t562] 24 (0, 0)) (uB BK563.out)) : gb568 ≠ gb563)); clear HO551; clear HO556; clear HO561; clear HO566; clear BK546; clear BK553; clear BK558; clear BK563; clear HB; have HO551 := n0_; have HO556 := n1_; have HO561 := n2_; have HO566 := n3_; have BK546 := n4_; have BK553 := n5_; have BK558 := n6_; have BK563 := n7_; have HB := n8_; have BK568 := n9_; have GW568 := n10_; have GE568 := n11_; have NB546_568 := n12_; have NB568_546 := n13_; have NB553_568 := n14_; have NB568_553 := n15_; have NB558_568 := n16_; have NB568_558 := n17_; have NB563_568 := n18_; have NB568_563 := n19_; clear n0_ n1_ n2_ n3_ n4_ n5_ n6_ n7_ n8_ n9_ n10_ n11_ n12_ n13_ n14_ n15_ n16_ n17_ n18_ n19_; clear hb hbox hg; obtain ⟨Ao55, co55, eo55⟩ := Kd.R_slice HO566.out; subst eo55; have hnb56 := NB568_546.out; have hnc56 := NB546_568.out; have hnb57 := NB568_553.out; have hnc57 := NB553_568.out; have hnb58 := NB568_558.out; have hnc58 := NB558_568.out; have hnb59 := NB568_563.out; have hnc59 := NB563_568.out; have hcz60_0 : w54.cell? ⟨gb568, 0, none⟩ = some (.slice none 0 0) := (blk_cell BK568.out 0).trans rfl; have hcz60_1 : w54.cell? ⟨gb568, 1, none⟩ = some (.int .i64 0) := (blk_cell BK568.out 1).trans rfl; have hfz60_0 := blk_frozen BK568.out 0; have hfz60_1 := blk_frozen BK568.out 1))
         have n0_ : Aside0 (Kd.R (Kd.int .i64) 2 ((w54.setCell ⟨gb568, 0, none⟩ (.slice Ao55 t564.length co55)).setCell ⟨gb568, 1, none⟩ (.int .i64 t567)) w.heap.size (fun k_ => some k_ ≠ (.slice Ao42 t554.length co42 : Value).ownBlock ∧ some k_ ≠ (.slice Ao48 t559.length co48 : Value).ownBlock ∧ some k_ ≠ (.slice Ao55 t564.length co55 : Value).ownBlock) (.slice Ao37 t549.length co37) t549) := ⟨uR (Kd.R_mono (Kd.R_far (p := ⟨gb568, 1, none⟩) (Kd.R_far (p := ⟨gb568, 0, none⟩) (Kd.R_types HO551.out BK568.out (by decide)) (fun _ hk => hk.2) (.slice Ao55 t564.length co55)) (fun _ hk => hk.2) (.int .i64 t567)) (fun _ hk => ⟨hk.1.1.1.2, ⟨hk.1.1.2, hk.1.2⟩⟩))⟩
         have n1_ : Aside0 (Kd.R (Kd.int .i64) 2 ((w54.setCell ⟨gb568, 0, none⟩ (.slice Ao55 t564.length co55)).setCell ⟨gb568, 1, none⟩ (.int .i64 t567)) w.heap.size (fun k_ => some k_ ≠ (.slice Ao37 t549.length co37 : Value).ownBlock ∧ some k_ ≠ (.slice Ao48 t559.length co48 : Value).ownBlock ∧ some k_ ≠ (.slice Ao55 t564.length co55 : Value).ownBlock) (.slice Ao42 t554.length co42) t554) := ⟨uR (Kd.R_mono (Kd.R_far (p := ⟨gb568, 1, none⟩) (Kd.R_far (p := ⟨gb568, 0, none⟩) (Kd.R_types HO556.out BK568.out (by decide)) (fun _ hk => hk.2) (.slice Ao55 t564.length co55)) (fun _ hk => hk.2) (.int .i64 t567)) (fun _ hk => ⟨hk.1.1.1.2, ⟨hk.1.1.2, hk.1.2⟩⟩))⟩
         have n2_ : Aside0 (Kd.R (Kd.int .i64) 2 ((w54.setCell ⟨gb568, 0, none⟩ (.slice Ao55 t564.length co55)).setCell ⟨gb568, 1, none⟩ (.int .i64 t567)) w.heap.size (fun k_ => some k_ ≠ (.slice Ao37 t549.length co37 : Value).ownBlock ∧ some k_ ≠ (.slice Ao42 t554.length co42 : Value).ownBlock ∧ some k_ ≠ (.slice Ao55 t564.length co55 : Value).ownBlock) (.slice Ao48 t559.length co48) t559) := ⟨uR (Kd.R_mono (Kd.R_far (p := ⟨gb568, 1, none⟩) (Kd.R_far (p := ⟨gb568, 0, none⟩) (Kd.R_types HO561.out BK568.out (by decide)) (fun _ hk => hk.2) (.slice Ao55 t564.length co55)) (fun _ hk => hk.2) (.int .i64 t567)) (fun _ hk => ⟨hk.1.1.1.2, ⟨hk.1.1.2, hk.1.2⟩⟩))⟩
         have n3_ : Aside0 (Kd.R (Kd.int .i64) 2 ((w54.setCell ⟨gb568, 0, none⟩ (.slice Ao55 t564.length co55)).setCell ⟨gb568, 1, none⟩ (.int .i64 t567)) w.heap.size (fun k_ => some k_ ≠ (.slice Ao37 t549.length co37 : Value).ownBlock ∧ some k_ ≠ (.slice Ao42 t554.length co42 : Value).ownBlock ∧ some k_ ≠ (.slice Ao48 t559.length co48 : Value).ownBlock) (.slice Ao55 t564.length co55) t564) := ⟨uR (Kd.R_mono (Kd.R_far (p := ⟨gb568, 1, none⟩) (Kd.R_far (p := ⟨gb568, 0, none⟩) (Kd.R_types HO566.out BK568.out (by decide)) (fun _ hk => hk.2) (.slice Ao55 t564.length co55)) (fun _ hk => hk.2) (.int .i64 t567)) (fun _ hk => ⟨hk.1.1.1.2, ⟨hk.1.1.2, hk.1.2⟩⟩))⟩
         have n4_ : Aside0 (((w54.setCell ⟨gb568, 0, none⟩ (.slice Ao55 t564.length co55)).setCell ⟨gb568, 1, none⟩ (.int .i64 t567)).heap[gb546]? = some (.cells #[.slice A0_0 l0_0.length c0_0, .int .i64 a0_1] 24 (0, 0))) := ⟨by (with_reducible repeat (first | refine blk_drewN ?_ _ | refine blk_drew ?_ | refine blk_alloc ?_ _)); refine blk_far ?_ NB546_568.out _; (with_reducible repeat (first | refine blk_drewN ?_ _ | refine blk_drew ?_ | refine blk_alloc ?_ _)); refine blk_far ?_ NB546_568.out _; (with_reducible repeat (first | refine blk_drewN ?_ _ | refine blk_drew ?_ | refine blk_alloc ?_ _)); exact BK546.out⟩
         have n5_ : Aside0 (((w54.setCell ⟨gb568, 0, none⟩ (.slice Ao55 t564.length co55)).setCell ⟨gb568, 1, none⟩ (.int .i64 t567)).heap[gb553]? = some (.cells #[.slice Ao37 t549.length co37, .int .i64 t552] 24 (0, 0))) := ⟨by (with_reducible repeat (first | refine blk_drewN ?_ _ | refine blk_drew ?_ | refine blk_alloc ?_ _)); refine blk_far ?_ NB553_568.out _; (with_reducible repeat (first | refine blk_drewN ?_ _ | refine blk_drew ?_ | refine blk_alloc ?_ _)); refine blk_far ?_ NB553_568.out _; (with_reducible repeat (first | refine blk_drewN ?_ _ | refine blk_drew ?_ | refine blk_alloc ?_ _)); exact BK553.out⟩
         have n6_ : Aside0 (((w54.setCell ⟨gb568, 0, none⟩ (.slice Ao55 t564.length co55)).setCell ⟨gb568, 1, none⟩ (.int .i64 t567)).heap[gb558]? = some (.cells #[.slice Ao42 t554.length co42, .int .i64 t557] 31 (0, 0))) := ⟨by (with_reducible repeat (first | refine blk_drewN ?_ _ | refine blk_drew ?_ | refine blk_alloc ?_ _)); refine blk_far ?_ NB558_568.out _; (with_reducible repeat (first | refine blk_drewN ?_ _ | refine blk_drew ?_ | refine blk_alloc ?_ _)); refine blk_far ?_ NB558_568.out _; (with_reducible repeat (first | refine blk_drewN ?_ _ | refine blk_drew ?_ | refine blk_alloc ?_ _)); exact BK558.out⟩
         have n7_ : Aside0 (((w54.setCell ⟨gb568, 0, none⟩ (.slice Ao55 t564.length co55)).setCell ⟨gb568, 1, none⟩ (.int .i64 t567)).heap[gb563]? = some (.cells #[.slice Ao48 t559.length co48, .int .i64 t562] 24 (0, 0))) := ⟨by (with_reducible repeat (first | refine blk_drewN ?_ _ | refine blk_drew ?_ | refine blk_alloc ?_ _)); refine blk_far ?_ NB563_568.out _; (with_reducible repeat (first | refine blk_drewN ?_ _ | refine blk_drew ?_ | refine blk_alloc ?_ _)); refine blk_far ?_ NB563_568.out _; (with_reducible repeat (first | refine blk_drewN ?_ _ | refine blk_drew ?_ | refine blk_alloc ?_ _)); exact BK563.out⟩
         have n8_ : Aside0 (((w54.setCell ⟨gb568, 0, none⟩ (.slice Ao55 t564.length co55)).setCell ⟨gb568, 1, none⟩ (.int .i64 t567)).heap[gb568]? = some (.cells #[.slice Ao55 t564.length co55, .int .i64 t567] 31 (0, 0))) := ⟨by (with_reducible repeat (first | refine blk_drewN ?_ _ | refine blk_drew ?_ | refine blk_alloc ?_ _)); refine blk_put (cs := #[.slice Ao55 t564.length co55, .int .i64 0]) ?_ 1 _ rfl; (with_reducible repeat (first | refine blk_drewN ?_ _ | refine blk_drew ?_ | refine blk_alloc ?_ _)); refine blk_put (cs := #[.slice none 0 0, .int .i64 0]) ?_ 0 _ rfl; (with_reducible repeat (first | refine blk_drewN ?_ _ | refine blk_drew ?_ | refine blk_alloc ?_ _)); exact BK568.out⟩
         have n9_ : Aside0 (Below w.heap.size w ((w54.setCell ⟨gb568, 0, none⟩ (.slice Ao55 t564.length co55)).setCell ⟨gb568, 1, none⟩ (.int .i64 t567))) := ⟨by repeat (first | (with_reducible first | exact HB.out | apply bA | apply bN | apply bD | refine bS ?_ (by assumption)) | exact HB.out)⟩
         (try clear HO551)
         (try clear HO556)
         (try clear HO561)
         (try clear HO566)
         (try clear BK546)
         (try clear BK553)
         (try clear BK558)
         (try clear BK563)
         (try clear BK568)
         (try clear HB)
         generalize ((w54.setCell ⟨gb568, 0, none⟩ (.slice Ao55 t564.length co55)).setCell ⟨gb568, 1, none⟩ (.int .i64 t567)) = w61 at n0_ n1_ n2_ n3_ n4_ n5_ n6_ n7_ n8_ n9_ ⊢
         have HO551 := n0_
         have HO556 := n1_
         have HO561 := n2_
         have HO566 := n3_
         have BK546 := n4_
         have BK553 := n5_
         have BK558 := n6_
         have BK563 := n7_
         have BK568 := n8_
         have HB := n9_
         clear n0_ n1_ n2_ n3_ n4_ n5_ n6_ n7_ n8_ n9_
         have n0_ := mk0 (Kd.R_drew HO551.out)
         have n1_ := mk0 (Kd.R_drew HO556.out)
         have n2_ := mk0 (Kd.R_drew HO561.out)
         have n3_ := mk0 (Kd.R_drew HO566.out)
         have n4_ := mk0 (blk_drew BK546.out)
         have n5_ := mk0 (blk_drew BK553.out)
         have n6_ := mk0 (blk_drew BK558.out)
         have n7_ := mk0 (blk_drew BK563.out)
         have n8_ := mk0 (blk_drew BK568.out)
         have n9_ := mk0 (below_drew1 HB.out)
         clear HO551
         clear HO556
         clear HO561
         clear HO566
         clear BK546
         clear BK553
         clear BK558
         clear BK563
         clear BK568
         clear HB
         have HO551 := n0_
         have HO556 := n1_
         have HO561 := n2_
         have HO566 := n3_
         have BK546 := n4_
         have BK553 := n5_
         have BK558 := n6_
         have BK563 := n7_
         have BK568 := n8_
         have HB := n9_
         clear n0_ n1_ n2_ n3_ n4_ n5_ n6_ n7_ n8_ n9_
         refine start_ (n := 39) (S := fun w' => w'.cell? ⟨gb546, 0, none⟩ = some (.slice A0_0 l0_0.length c0_0) ∧ w'.cell? ⟨gb546, 1, none⟩ = some (.int .i64 a0_1) ∧ w'.cell? ⟨gb553, 0, none⟩ = some (.slice Ao37 t549.length co37) ∧ w'.cell? ⟨gb553, 1, none⟩ = some (.int .i64 t552) ∧ w'.cell? ⟨gb558, 0, none⟩ = some (.slice Ao42 t554.length co42) ∧ w'.cell? ⟨gb558, 1, none⟩ = some (.int .i64 t557) ∧ w'.cell? ⟨gb563, 0, none⟩ = some (.slice Ao48 t559.length co48) ∧ w'.cell? ⟨gb563, 1, none⟩ = some (.int .i64 t562) ∧ w'.cell? ⟨gb568, 0, none⟩ = some (.slice Ao55 t564.length co55) ∧ w'.cell? ⟨gb568, 1, none⟩ = some (.int .i64 t567)) (ds := []) #[false, false, false, false, false, false, false, false, false, false, false, false, false, false, false, false, false, false, false, false, false, false, false, false, false, false, false, false, false, false, false, false, false, false, false, false, false, false, false] (by kernel_rfl) rfl rfl ⟨(blk_cell BK546.out 0).trans rfl, (blk_cell BK546.out 1).trans rfl, (blk_cell BK553.out 0).trans rfl, (blk_cell BK553.out 1).trans rfl, (blk_cell BK558.out 0).trans rfl, (blk_cell BK558.out 1).trans rfl, (blk_cell BK563.out 0).trans rfl, (blk_cell BK563.out 1).trans rfl, (blk_cell BK568.out 0).trans rfl, (blk_cell BK568.out 1).trans rfl⟩ (fun hHeld => ?_); refine with_tabW furrowlaw11_FormText.tab9 furrowlaw11_FormText.bits9 (fun HT_ HW_ => ?_)
         generalize w61.drew = w62 at HO551 HO556 HO561 HO566 BK546 BK553 BK558 BK563 BK568 HB hHeld ⊢
         refine pure_ (i := 1) (N := some 38) (v := ?_) (a' := ?_) #[false, true, false, false, false, false, false, false, false, false, false, false, false, false, false, false, false, false, false, false, false, false, false, false, false, false, false, false, false, false, false, false, false, false, false, false, false, false, false] rfl rfl (any_of HT_.out (by kernel_rfl)) (fun _ _ _ h => h) (Or.inl ⟨by rfl, ?_⟩) ?_ ?_
         rotate_left
         ·intro w'
          go_simp
          with_reducible rfl
         rotate_left
         ·simp only [Act.put, List.setIfInBounds_toArray, List.set_cons_zero, List.set_cons_succ, i64_w, i32_w]
          rfl
         refine pure_ (i := 5) (N := some 42) (v := ?_) (a' := ?_) #[false, true, false, false, false, true, false, false, false, false, false, false, false, false, false, false, false, false, false, false, false, false, false, false, false, false, false, false, false, false, false, false, false, false, false, false, false, false, false] rfl rfl (any_of HT_.out (by kernel_rfl)) (fun _ _ _ h => h) (Or.inl ⟨by rfl, ?_⟩) ?_ ?_
         rotate_left
         ·intro w'
          go_simp
          with_reducible rfl
         rotate_left
         ·simp only [Act.put, List.setIfInBounds_toArray, List.set_cons_zero, List.set_cons_succ, i64_w, i32_w]
          rfl
         refine take_ (i := 0) (N := some 37) (v := ?_) (a' := ?_) #[true, true, false, false, false, true, false, false, false, false, false, false, false, false, false, false, false, false, false, false, false, false, false, false, false, false, false, false, false, false, false, false, false, false, false, false, false, false, false] rfl rfl (take_ofW HT_.out HW_.out (by kernel_rfl)) (fun _ _ _ h => h) (Or.inl ⟨by rfl, ?_⟩) hHeld ?_ ?_
         rotate_left
         ·rintro w' ⟨s0, s1, s2, s3, s4, s5, s6, s7, s8, s9⟩
          go_simp
          with_reducible rfl
         rotate_left
         ·simp only [Act.put, List.setIfInBounds_toArray, List.set_cons_zero, List.set_cons_succ, i64_w, i32_w]
          rfl
         refine take_ (i := 3) (N := some 40) (v := ?_) (a' := ?_) #[true, true, false, true, false, true, false, false, false, false, false, false, false, false, false, false, false, false, false, false, false, false, false, false, false, false, false, false, false, false, false, false, false, false, false, false, false, false, false] rfl rfl (take_ofW HT_.out HW_.out (by kernel_rfl)) (fun _ _ _ h => h) (Or.inl ⟨by rfl, ?_⟩) hHeld ?_ ?_
         rotate_left
         ·rintro w' ⟨s0, s1, s2, s3, s4, s5, s6, s7, s8, s9⟩
          go_simp
          with_reducible rfl
         rotate_left
         ·simp only [Act.put, List.setIfInBounds_toArray, List.set_cons_zero, List.set_cons_succ, i64_w, i32_w]
          rfl
         refine one_ (i := 2) (N := some 39) #[true, true, true, true, false, true, false, false, false, false, false, false, false, false, false, false, false, false, false, false, false, false, false, false, false, false, false, false, false, false, false, false, false, false, false, false, false, false, false] rfl rfl (one_of HT_.out (by kernel_rfl)) (by decide) (fun K hK => ?_)
         refine goes_ Tryd.func27 (by kernel_rfl) rfl #[.agg #[.slice A0_0 l0_0.length c0_0, .int .i64 a0_1], .slice A1 l1.length c1] (by rfl) rfl rfl (by (try simp only [List.map_toArray, List.map_cons, List.map_nil]); first | done | rfl | (simp only [List.length_drop, List.length_take]; rfl)) ?_
         with_reducible refine (lin_Text.calls _ _ l0_0 a0_1 _ _ l1 t569 _ ?side1 ?side2 ?side3 ?side4 ?side5 A24.out).mono ?_
         (case side1 => repeat (first | exact (Kd.C_below HR0_0.out HB.out) | (with_reducible refine Kd.C_alloc ?_ _) | (with_reducible refine Kd.C_drewN ?_ _) | (with_reducible refine Kd.C_drew ?_)))
         (case side2 => exact HC0_0.out)
         (case side3 => repeat (first | exact (Kd.C_below HR1.out HB.out) | (with_reducible refine Kd.C_alloc ?_ _) | (with_reducible refine Kd.C_drewN ?_ _) | (with_reducible refine Kd.C_drew ?_)))
         (case side4 => exact HC1.out)
         (case side5 => exact Glob.below HG.out (by repeat (first | (with_reducible first | exact HB.out | apply bA | apply bN | apply bD | refine bS ?_ (by assumption)) | exact HB.out)))
         rintro e w63 ⟨rfl, hb⟩
         refine ⟨_, rfl, ?_⟩
         have n0_ := mk0 (Kd.R_below (uR HO551.out) hb)
         have n1_ := mk0 (Kd.R_below (uR HO556.out) hb)
         have n2_ := mk0 (Kd.R_below (uR HO561.out) hb)
         have n3_ := mk0 (Kd.R_below (uR HO566.out) hb)
         have n4_ := mk0 (blk_below (g := gb546) (o := .cells #[.slice A0_0 l0_0.length c0_0, .int .i64 a0_1] 24 (0, 0)) (uB BK546.out) hb)
         have n5_ := mk0 (blk_below (g := gb553) (o := .cells #[.slice Ao37 t549.length co37, .int .i64 t552] 24 (0, 0)) (uB BK553.out) hb)
         have n6_ := mk0 (blk_below (g := gb558) (o := .cells #[.slice Ao42 t554.length co42, .int .i64 t557] 31 (0, 0)) (uB BK558.out) hb)
         have n7_ := mk0 (blk_below (g := gb563) (o := .cells #[.slice Ao48 t559.length co48, .int .i64 t562] 24 (0, 0)) (uB BK563.out) hb)
         have n8_ := mk0 (blk_below (g := gb568) (o := .cells #[.slice Ao55 t564.length co55, .int .i64 t567] 31 (0, 0)) (uB BK568.out) hb)
         have n9_ := mk0 (below_step (by repeat (first | (with_reducible first | exact HB.out | apply bA | apply bN | apply bD | refine bS ?_ (by assumption)) | exact HB.out)) hb)
         clear HO551
         clear HO556
         clear HO561
         clear HO566
         clear BK546
         clear BK553
         clear BK558
         clear BK563
         clear BK568
         clear HB
         have HO551 := n0_
         have HO556 := n1_
         have HO561 := n2_
         have HO566 := n3_
         have BK546 := n4_
         have BK553 := n5_
         have BK558 := n6_
         have BK563 := n7_
         have BK568 := n8_
         have HB := n9_
         clear n0_ n1_ n2_ n3_ n4_ n5_ n6_ n7_ n8_ n9_
         (try clear hb)
         (try clear hb2)
         (try clear hk)
         (try clear hi)
         refine hK.out _ _ ⟨(blk_cell BK546.out 0).trans rfl, (blk_cell BK546.out 1).trans rfl, (blk_cell BK553.out 0).trans rfl, (blk_cell BK553.out 1).trans rfl, (blk_cell BK558.out 0).trans rfl, (blk_cell BK558.out 1).trans rfl, (blk_cell BK563.out 0).trans rfl, (blk_cell BK563.out 1).trans rfl, (blk_cell BK568.out 0).trans rfl, (blk_cell BK568.out 1).trans rfl⟩ (fun hHeld => ?_)
         clear hK K
         refine norm_ (a' := ?_) ?_ ?_
         rotate_left
         ·show Act.put _ (some 39) _ = _
          simp only [Act.put, List.setIfInBounds_toArray, List.set_cons_zero, List.set_cons_succ, i64_w, i32_w]
          rfl
         refine one_ (i := 4) (N := some 41) #[true, true, true, true, true, true, false, false, false, false, false, false, false, false, false, false, false, false, false, false, false, false, false, false, false, false, false, false, false, false, false, false, false, false, false, false, false, false, false] rfl rfl (one_of HT_.out (by kernel_rfl)) (by decide) (fun K hK => ?_)
         refine goes_ Tryd.func13 (by kernel_rfl) rfl #[.agg #[.slice A0_0 l0_0.length c0_0, .int .i64 a0_1]] (by rfl) rfl rfl (by (try simp only [List.map_toArray, List.map_cons, List.map_nil]); first | done | rfl | (simp only [List.length_drop, List.length_take]; rfl)) ?_
         with_reducible refine (furrowlaw11_Of.calls (fun k_ => k_ < w.heap.size) _ _ l0_0 a0_1 t570 t573 _ ?side1 A25.out).mono ?_
         (case side1 => exact Kd.V_mk HC0_0.out (Kd.F_below (Kd.C_F (Kd.heap_int .i64) HR0_0.out) (by repeat (first | (with_reducible first | exact HB.out | apply bA | apply bN | apply bD | refine bS ?_ (by assumption)) | exact HB.out))))
         rintro e w64 ⟨v571, rfl, ho0, hb⟩
         refine ⟨_, rfl, ?_⟩
         have n0_ := mk0 (Kd.R_below (uR HO551.out) hb)
         have n1_ := mk0 (Kd.R_below (uR HO556.out) hb)
         have n2_ := mk0 (Kd.R_below (uR HO561.out) hb)
         have n3_ := mk0 (Kd.R_below (uR HO566.out) hb)
         have n4_ := mk0 (Kd.V_lower (Kd.V_mono (ok' := fun k_ => some k_ ≠ (.slice Ao37 t549.length co37 : Value).ownBlock ∧ some k_ ≠ (.slice Ao42 t554.length co42 : Value).ownBlock ∧ some k_ ≠ (.slice Ao48 t559.length co48 : Value).ownBlock ∧ some k_ ≠ (.slice Ao55 t564.length co55 : Value).ownBlock ∧ k_ ≠ gb546 ∧ k_ ≠ gb553 ∧ k_ ≠ gb558 ∧ k_ ≠ gb563 ∧ k_ ≠ gb568) ho0 (fun k_ hk_ => ⟨Or.elim hk_ (fun hs_ => fun e_ => Nat.not_le.2 hs_ (Kd.R_base HO551.out k_ e_.symm)) (fun hn_ => (Kd.fresh' (Kd.R_lt (uR HO551.out)) k_ hn_)), Or.elim hk_ (fun hs_ => fun e_ => Nat.not_le.2 hs_ (Kd.R_base HO556.out k_ e_.symm)) (fun hn_ => (Kd.fresh' (Kd.R_lt (uR HO556.out)) k_ hn_)), Or.elim hk_ (fun hs_ => fun e_ => Nat.not_le.2 hs_ (Kd.R_base HO561.out k_ e_.symm)) (fun hn_ => (Kd.fresh' (Kd.R_lt (uR HO561.out)) k_ hn_)), Or.elim hk_ (fun hs_ => fun e_ => Nat.not_le.2 hs_ (Kd.R_base HO566.out k_ e_.symm)) (fun hn_ => (Kd.fresh' (Kd.R_lt (uR HO566.out)) k_ hn_)), Or.elim hk_ (fun hs_ => fun e_ => Nat.not_le.2 hs_ (by rw [e_]; exact GW546.out)) (fun hn_ => (Kd.freshB (g := gb546) (o := .cells #[.slice A0_0 l0_0.length c0_0, .int .i64 a0_1] 24 (0, 0)) (uB BK546.out) k_ hn_)), Or.elim hk_ (fun hs_ => fun e_ => Nat.not_le.2 hs_ (by rw [e_]; exact GW553.out)) (fun hn_ => (Kd.freshB (g := gb553) (o := .cells #[.slice Ao37 t549.length co37, .int .i64 t552] 24 (0, 0)) (uB BK553.out) k_ hn_)), Or.elim hk_ (fun hs_ => fun e_ => Nat.not_le.2 hs_ (by rw [e_]; exact GW558.out)) (fun hn_ => (Kd.freshB (g := gb558) (o := .cells #[.slice Ao42 t554.length co42, .int .i64 t557] 31 (0, 0)) (uB BK558.out) k_ hn_)), Or.elim hk_ (fun hs_ => fun e_ => Nat.not_le.2 hs_ (by rw [e_]; exact GW563.out)) (fun hn_ => (Kd.freshB (g := gb563) (o := .cells #[.slice Ao48 t559.length co48, .int .i64 t562] 24 (0, 0)) (uB BK563.out) k_ hn_)), Or.elim hk_ (fun hs_ => fun e_ => Nat.not_le.2 hs_ (by rw [e_]; exact GW568.out)) (fun hn_ => (Kd.freshB (g := gb568) (o := .cells #[.slice Ao55 t564.length co55, .int .i64 t567] 31 (0, 0)) (uB BK568.out) k_ hn_))⟩)) (below_size (by repeat (first | (with_reducible first | exact HB.out | apply bA | apply bN | apply bD | refine bS ?_ (by assumption)) | exact HB.out))))
         have n5_ := mk0 (blk_below (g := gb546) (o := .cells #[.slice A0_0 l0_0.length c0_0, .int .i64 a0_1] 24 (0, 0)) (uB BK546.out) hb)
         have n6_ := mk0 (blk_below (g := gb553) (o := .cells #[.slice Ao37 t549.length co37, .int .i64 t552] 24 (0, 0)) (uB BK553.out) hb)
         have n7_ := mk0 (blk_below (g := gb558) (o := .cells #[.slice Ao42 t554.length co42, .int .i64 t557] 31 (0, 0)) (uB BK558.out) hb)
         have n8_ := mk0 (blk_below (g := gb563) (o := .cells #[.slice Ao48 t559.length co48, .int .i64 t562] 24 (0, 0)) (uB BK563.out) hb)
         have n9_ := mk0 (blk_below (g := gb568) (o := .cells #[.slice Ao55 t564.length co55, .int .i64 t567] 31 (0, 0)) (uB BK568.out) hb)
         have n10_ := mk0 (below_step (by repeat (first | (with_reducible first | exact HB.out | apply bA | apply bN | apply bD | refine bS ?_ (by assumption)) | exact HB.out)) hb)
         clear HO551
         clear HO556
         clear HO561
         clear HO566
         clear BK546
         clear BK553
         clear BK558
         clear BK563
         clear BK568
         clear HB
         have HO551 := n0_
         have HO556 := n1_
         have HO561 := n2_
         have HO566 := n3_
         have HO572 := n4_
         have BK546 := n5_
         have BK553 := n6_
         have BK558 := n7_
         have BK563 := n8_
         have BK568 := n9_
         have HB := n10_
         clear n0_ n1_ n2_ n3_ n4_ n5_ n6_ n7_ n8_ n9_ n10_
         (try clear hb)
         (try clear hb2)
         (try clear hk)
         (try clear hi)
         (try clear ho0)
         obtain ⟨Ao65, co65, eo65⟩ := Kd.V_slice HO572.out
         (first | subst eo65 | (injection eo65 with f1_ f2_ f3_; have f4_ := f1_.symm; have f5_ := f3_.symm; clear f1_ f2_ f3_; subst f4_; subst f5_))
         refine hK.out _ _ ⟨(blk_cell BK546.out 0).trans rfl, (blk_cell BK546.out 1).trans rfl, (blk_cell BK553.out 0).trans rfl, (blk_cell BK553.out 1).trans rfl, (blk_cell BK558.out 0).trans rfl, (blk_cell BK558.out 1).trans rfl, (blk_cell BK563.out 0).trans rfl, (blk_cell BK563.out 1).trans rfl, (blk_cell BK568.out 0).trans rfl, (blk_cell BK568.out 1).trans rfl⟩ (fun hHeld => ?_)
         clear hK K
         refine norm_ (a' := ?_) ?_ ?_
         rotate_left
         ·show Act.put _ (some 41) _ = _
          simp only [Act.put, List.setIfInBounds_toArray, List.set_cons_zero, List.set_cons_succ, i64_w, i32_w]
          rfl
         refine one_ (i := 6) (N := some 43) #[true, true, true, true, true, true, true, false, false, false, false, false, false, false, false, false, false, false, false, false, false, false, false, false, false, false, false, false, false, false, false, false, false, false, false, false, false, false, false] rfl rfl (one_of HT_.out (by kernel_rfl)) (by decide) (fun K hK => ?_)
         refine goes_ Tryd.func28 (by kernel_rfl) rfl #[.agg #[.slice Ao65 t570.length co65, .int .i64 t573], .slice A1 l1.length c1] (by rfl) rfl rfl (by (try simp only [List.map_toArray, List.map_cons, List.map_nil]); first | done | rfl | (simp only [List.length_drop, List.length_take]; rfl)) ?_
         with_reducible refine (furrowref14_Text.calls kj6 _ _ t570 t573 _ _ l1 t574 _ ?side1 ?side2 ?side3 ?side4 A26.out).mono ?_
         (case side1 => repeat (first | exact (Kd.V_reads' HO572.out).2.2 | (with_reducible refine Kd.C_alloc ?_ _) | (with_reducible refine Kd.C_drewN ?_ _) | (with_reducible refine Kd.C_drew ?_)))
         (case side2 => exact (Kd.V_reads' HO572.out).2.1)
         (case side3 => repeat (first | exact (Kd.C_below HR1.out HB.out) | (with_reducible refine Kd.C_alloc ?_ _) | (with_reducible refine Kd.C_drewN ?_ _) | (with_reducible refine Kd.C_drew ?_)))
         (case side4 => exact HC1.out)
         rintro e w66 ⟨rfl, hb⟩
         refine ⟨_, rfl, ?_⟩
         have n0_ := mk0 (Kd.R_below (uR HO551.out) hb)
         have n1_ := mk0 (Kd.R_below (uR HO556.out) hb)
         have n2_ := mk0 (Kd.R_below (uR HO561.out) hb)
         have n3_ := mk0 (Kd.R_below (uR HO566.out) hb)
         have n4_ := mk0 (Kd.V_below (uV HO572.out) hb)
         have n5_ := mk0 (blk_below (g := gb546) (o := .cells #[.slice A0_0 l0_0.length c0_0, .int .i64 a0_1] 24 (0, 0)) (uB BK546.out) hb)
         have n6_ := mk0 (blk_below (g := gb553) (o := .cells #[.slice Ao37 t549.length co37, .int .i64 t552] 24 (0, 0)) (uB BK553.out) hb)
         have n7_ := mk0 (blk_below (g := gb558) (o := .cells #[.slice Ao42 t554.length co42, .int .i64 t557] 31 (0, 0)) (uB BK558.out) hb)
         have n8_ := mk0 (blk_below (g := gb563) (o := .cells #[.slice Ao48 t559.length co48, .int .i64 t562] 24 (0, 0)) (uB BK563.out) hb)
         have n9_ := mk0 (blk_below (g := gb568) (o := .cells #[.slice Ao55 t564.length co55, .int .i64 t567] 31 (0, 0)) (uB BK568.out) hb)
         have n10_ := mk0 (below_step (by repeat (first | (with_reducible first | exact HB.out | apply bA | apply bN | apply bD | refine bS ?_ (by assumption)) | exact HB.out)) hb)
         clear HO551
         clear HO556
         clear HO561
         clear HO566
         clear HO572
         clear BK546
         clear BK553
         clear BK558
         clear BK563
         clear BK568
         clear HB
         have HO551 := n0_
         have HO556 := n1_
         have HO561 := n2_
         have HO566 := n3_
         have HO572 := n4_
         have BK546 := n5_
         have BK553 := n6_
         have BK558 := n7_
         have BK563 := n8_
         have BK568 := n9_
         have HB := n10_
         clear n0_ n1_ n2_ n3_ n4_ n5_ n6_ n7_ n8_ n9_ n10_
         (try clear hb)
         (try clear hb2)
         (try clear hk)
         (try clear hi)
         refine hK.out _ _ ⟨(blk_cell BK546.out 0).trans rfl, (blk_cell BK546.out 1).trans rfl, (blk_cell BK553.out 0).trans rfl, (blk_cell BK553.out 1).trans rfl, (blk_cell BK558.out 0).trans rfl, (blk_cell BK558.out 1).trans rfl, (blk_cell BK563.out 0).trans rfl, (blk_cell BK563.out 1).trans rfl, (blk_cell BK568.out 0).trans rfl, (blk_cell BK568.out 1).trans rfl⟩ (fun hHeld => ?_)
         clear hK K
         refine norm_ (a' := ?_) ?_ ?_
         rotate_left
         ·show Act.put _ (some 43) _ = _
          simp only [Act.put, List.setIfInBounds_toArray, List.set_cons_zero, List.set_cons_succ, i64_w, i32_w]
          rfl
         refine pure_ (i := 7) (N := some 44) (v := ?_) (a' := ?_) #[true, true, true, true, true, true, true, true, false, false, false, false, false, false, false, false, false, false, false, false, false, false, false, false, false, false, false, false, false, false, false, false, false, false, false, false, false, false, false] rfl rfl (any_of HT_.out (by kernel_rfl)) (fun _ _ _ h => h) (Or.inl ⟨by rfl, ?_⟩) ?_ ?_
         rotate_left
         ·intro w'
          go_simp
          with_reducible rfl
         rotate_left
         ·simp only [Act.put, List.setIfInBounds_toArray, List.set_cons_zero, List.set_cons_succ, i64_w, i32_w]
          rfl
         refine pure_ (i := 8) (N := some 45) (v := ?_) (a' := ?_) #[true, true, true, true, true, true, true, true, true, false, false, false, false, false, false, false, false, false, false, false, false, false, false, false, false, false, false, false, false, false, false, false, false, false, false, false, false, false, false] rfl rfl (any_of HT_.out (by kernel_rfl)) (fun _ _ _ h => h) (Or.inl ⟨by rfl, ?_⟩) ?_ ?_
         rotate_left
         ·intro w'
          go_simp
          with_reducible rfl
         rotate_left
         ·simp only [Act.put, List.setIfInBounds_toArray, List.set_cons_zero, List.set_cons_succ, i64_w, i32_w]
          rfl
         refine pure_ (i := 9) (N := some 46) (v := ?_) (a' := ?_) #[true, true, true, true, true, true, true, true, true, true, false, false, false, false, false, false, false, false, false, false, false, false, false, false, false, false, false, false, false, false, false, false, false, false, false, false, false, false, false] rfl rfl (any_of HT_.out (by kernel_rfl)) (fun _ _ _ h => h) (Or.inl ⟨by rfl, ?_⟩) ?_ ?_
         rotate_left
         ·intro w'
          go_simp
          with_reducible rfl
         rotate_left
         ·simp only [Act.put, List.setIfInBounds_toArray, List.set_cons_zero, List.set_cons_succ, i64_w, i32_w]
          rfl
         refine pure_ (i := 12) (N := some 49) (v := ?_) (a' := ?_) #[true, true, true, true, true, true, true, true, true, true, false, false, true, false, false, false, false, false, false, false, false, false, false, false, false, false, false, false, false, false, false, false, false, false, false, false, false, false, false] rfl rfl (any_of HT_.out (by kernel_rfl)) (fun _ _ _ h => h) (Or.inl ⟨by rfl, ?_⟩) ?_ ?_
         rotate_left
         ·intro w'
          go_simp
          with_reducible rfl
         rotate_left
         ·simp only [Act.put, List.setIfInBounds_toArray, List.set_cons_zero, List.set_cons_succ, i64_w, i32_w]
          rfl
         refine take_ (i := 10) (N := some 47) (v := ?_) (a' := ?_) #[true, true, true, true, true, true, true, true, true, true, true, false, true, false, false, false, false, false, false, false, false, false, false, false, false, false, false, false, false, false, false, false, false, false, false, false, false, false, false] rfl rfl (take_ofW HT_.out HW_.out (by kernel_rfl)) (fun _ _ _ h => h) (Or.inl ⟨by rfl, ?_⟩) hHeld ?_ ?_
         rotate_left
         ·rintro w' ⟨s0, s1, s2, s3, s4, s5, s6, s7, s8, s9⟩
          go_simp
          with_reducible rfl
         rotate_left
         ·simp only [Act.put, List.setIfInBounds_toArray, List.set_cons_zero, List.set_cons_succ, i64_w, i32_w]
          rfl
         refine pure_ (i := 11) (N := some 48) (v := ?_) (a' := ?_) #[true, true, true, true, true, true, true, true, true, true, true, true, true, false, false, false, false, false, false, false, false, false, false, false, false, false, false, false, false, false, false, false, false, false, false, false, false, false, false] rfl rfl (any_of HT_.out (by kernel_rfl)) (fun _ _ _ h => h) (Or.inl ⟨by rfl, ?_⟩) ?_ ?_
         rotate_left
         ·intro w'
          go_simp
          with_reducible rfl
         rotate_left
         ·simp only [Act.put, List.setIfInBounds_toArray, List.set_cons_zero, List.set_cons_succ, i64_w, i32_w]
          rfl
         refine take_ (i := 13) (N := some 50) (v := ?_) (a' := ?_) #[true, true, true, true, true, true, true, true, true, true, true, true, true, true, false, false, false, false, false, false, false, false, false, false, false, false, false, false, false, false, false, false, false, false, false, false, false, false, false] rfl rfl (take_ofW HT_.out HW_.out (by kernel_rfl)) (fun _ _ _ h => h) (Or.inl ⟨by rfl, ?_⟩) hHeld ?_ ?_
         rotate_left
         ·rintro w' ⟨s0, s1, s2, s3, s4, s5, s6, s7, s8, s9⟩
          go_simp
          with_reducible rfl
         rotate_left
         ·simp only [Act.put, List.setIfInBounds_toArray, List.set_cons_zero, List.set_cons_succ, i64_w, i32_w]
          rfl
         refine pure_ (i := 14) (N := some 51) (v := ?_) (a' := ?_) #[true, true, true, true, true, true, true, true, true, true, true, true, true, true, true, false, false, false, false, false, false, false, false, false, false, false, false, false, false, false, false, false, false, false, false, false, false, false, false] rfl rfl (any_of HT_.out (by kernel_rfl)) (fun _ _ _ h => h) (Or.inl ⟨by rfl, ?_⟩) ?_ ?_
         rotate_left
         ·intro w'
          go_simp
          with_reducible rfl
         rotate_left
         ·simp only [Act.put, List.setIfInBounds_toArray, List.set_cons_zero, List.set_cons_succ, i64_w, i32_w]
          rfl
         refine pure_ (i := 15) (N := some 52) (v := ?_) (a' := ?_) #[true, true, true, true, true, true, true, true, true, true, true, true, true, true, true, true, false, false, false, false, false, false, false, false, false, false, false, false, false, false, false, false, false, false, false, false, false, false, false] rfl rfl (any_of HT_.out (by kernel_rfl)) (fun _ _ _ h => h) (Or.inl ⟨by rfl, ?_⟩) ?_ ?_
         rotate_left
         ·intro w'
          go_simp
          with_reducible rfl
         rotate_left
         ·simp only [Act.put, List.setIfInBounds_toArray, List.set_cons_zero, List.set_cons_succ, i64_w, i32_w]
          rfl
         refine pure_ (i := 16) (N := some 53) (v := ?_) (a' := ?_) #[true, true, true, true, true, true, true, true, true, true, true, true, true, true, true, true, true, false, false, false, false, false, false, false, false, false, false, false, false, false, false, false, false, false, false, false, false, false, false] rfl rfl (any_of HT_.out (by kernel_rfl)) (fun _ _ _ h => h) (Or.inl ⟨by rfl, ?_⟩) ?_ ?_
         rotate_left
         ·intro w'
          go_simp
          with_reducible rfl
         rotate_left
         ·simp only [Act.put, List.setIfInBounds_toArray, List.set_cons_zero, List.set_cons_succ, i64_w, i32_w]
          rfl
         refine pure_ (i := 17) (N := some 54) (v := ?_) (a' := ?_) #[true, true, true, true, true, true, true, true, true, true, true, true, true, true, true, true, true, true, false, false, false, false, false, false, false, false, false, false, false, false, false, false, false, false, false, false, false, false, false] rfl rfl (any_of HT_.out (by kernel_rfl)) (fun _ _ _ h => h) (Or.inl ⟨by rfl, ?_⟩) ?_ ?_
         rotate_left
         ·intro w'
          go_simp
          with_reducible rfl
         rotate_left
         ·simp only [Act.put, List.setIfInBounds_toArray, List.set_cons_zero, List.set_cons_succ, i64_w, i32_w]
          rfl
         refine take_ (i := 18) (N := some 55) (v := ?_) (a' := ?_) #[true, true, true, true, true, true, true, true, true, true, true, true, true, true, true, true, true, true, true, false, false, false, false, false, false, false, false, false, false, false, false, false, false, false, false, false, false, false, false] rfl rfl (take_ofW HT_.out HW_.out (by kernel_rfl)) (fun _ _ _ h => h) (Or.inl ⟨by rfl, ?_⟩) hHeld ?_ ?_
         rotate_left
         ·rintro w' ⟨s0, s1, s2, s3, s4, s5, s6, s7, s8, s9⟩
          go_simp
          with_reducible rfl
         rotate_left
         ·simp only [Act.put, List.setIfInBounds_toArray, List.set_cons_zero, List.set_cons_succ, i64_w, i32_w]
          rfl
         refine take_ (i := 20) (N := some 57) (v := ?_) (a' := ?_) #[true, true, true, true, true, true, true, true, true, true, true, true, true, true, true, true, true, true, true, false, true, false, false, false, false, false, false, false, false, false, false, false, false, false, false, false, false, false, false] rfl rfl (take_ofW HT_.out HW_.out (by kernel_rfl)) (fun _ _ _ h => h) (Or.inl ⟨by rfl, ?_⟩) hHeld ?_ ?_
         rotate_left
         ·rintro w' ⟨s0, s1, s2, s3, s4, s5, s6, s7, s8, s9⟩
          go_simp
          with_reducible rfl
         rotate_left
         ·simp only [Act.put, List.setIfInBounds_toArray, List.set_cons_zero, List.set_cons_succ, i64_w, i32_w]
          rfl
         refine one_ (i := 19) (N := some 56) #[true, true, true, true, true, true, true, true, true, true, true, true, true, true, true, true, true, true, true, true, true, false, false, false, false, false, false, false, false, false, false, false, false, false, false, false, false, false, false] rfl rfl (one_of HT_.out (by kernel_rfl)) (by decide) (fun K hK => ?_)
         refine goes_ Tryd.func13 (by kernel_rfl) rfl #[.agg #[.slice Ao37 t549.length co37, .int .i64 t552]] (by rfl) rfl rfl (by (try simp only [List.map_toArray, List.map_cons, List.map_nil]); first | done | rfl | (simp only [List.length_drop, List.length_take]; rfl)) ?_
         with_reducible refine (furrowlaw11_Of.calls (fun k_ => some k_ = (.slice Ao37 t549.length co37 : Value).ownBlock) _ _ t549 t552 t575 t578 _ ?side1 A29.out).mono ?_
         (case side1 => exact Kd.R_V (Kd.R_tight rfl (Kd.R_types (Kd.R_types (Kd.R_types (Kd.R_types (Kd.R_types (HO551.out) BK546.out (by decide)) BK553.out (by decide)) BK558.out (by decide)) BK563.out (by decide)) BK568.out (by decide))))
         rintro e w67 ⟨v576, rfl, ho0, hb⟩
         refine ⟨_, rfl, ?_⟩
         have n0_ := mk0 (Kd.R_below (uR HO551.out) hb)
         have n1_ := mk0 (Kd.R_below (uR HO556.out) hb)
         have n2_ := mk0 (Kd.R_below (uR HO561.out) hb)
         have n3_ := mk0 (Kd.R_below (uR HO566.out) hb)
         have n4_ := mk0 (Kd.V_below (uV HO572.out) hb)
         have n5_ := mk0 (Kd.V_lower (Kd.V_mono (ok' := fun k_ => some k_ ≠ (.slice Ao42 t554.length co42 : Value).ownBlock ∧ some k_ ≠ (.slice Ao48 t559.length co48 : Value).ownBlock ∧ some k_ ≠ (.slice Ao55 t564.length co55 : Value).ownBlock ∧ k_ ≠ gb546 ∧ k_ ≠ gb553 ∧ k_ ≠ gb558 ∧ k_ ≠ gb563 ∧ k_ ≠ gb568) ho0 (fun k_ hk_ => ⟨Or.elim hk_ (fun hs_ => ((Kd.R_types (Kd.R_types (Kd.R_types (Kd.R_types (Kd.R_types (HO551.out) BK546.out (by decide)) BK553.out (by decide)) BK558.out (by decide)) BK563.out (by decide)) BK568.out (by decide)).1 k_ hs_.symm).1.1.1.1.1.1) (fun hn_ => (Kd.fresh' (Kd.R_lt (uR HO556.out)) k_ hn_)), Or.elim hk_ (fun hs_ => ((Kd.R_types (Kd.R_types (Kd.R_types (Kd.R_types (Kd.R_types (HO551.out) BK546.out (by decide)) BK553.out (by decide)) BK558.out (by decide)) BK563.out (by decide)) BK568.out (by decide)).1 k_ hs_.symm).1.1.1.1.1.2.1) (fun hn_ => (Kd.fresh' (Kd.R_lt (uR HO561.out)) k_ hn_)), Or.elim hk_ (fun hs_ => ((Kd.R_types (Kd.R_types (Kd.R_types (Kd.R_types (Kd.R_types (HO551.out) BK546.out (by decide)) BK553.out (by decide)) BK558.out (by decide)) BK563.out (by decide)) BK568.out (by decide)).1 k_ hs_.symm).1.1.1.1.1.2.2) (fun hn_ => (Kd.fresh' (Kd.R_lt (uR HO566.out)) k_ hn_)), Or.elim hk_ (fun hs_ => ((Kd.R_types (Kd.R_types (Kd.R_types (Kd.R_types (Kd.R_types (HO551.out) BK546.out (by decide)) BK553.out (by decide)) BK558.out (by decide)) BK563.out (by decide)) BK568.out (by decide)).1 k_ hs_.symm).1.1.1.1.2) (fun hn_ => (Kd.freshB (g := gb546) (o := .cells #[.slice A0_0 l0_0.length c0_0, .int .i64 a0_1] 24 (0, 0)) (uB BK546.out) k_ hn_)), Or.elim hk_ (fun hs_ => ((Kd.R_types (Kd.R_types (Kd.R_types (Kd.R_types (Kd.R_types (HO551.out) BK546.out (by decide)) BK553.out (by decide)) BK558.out (by decide)) BK563.out (by decide)) BK568.out (by decide)).1 k_ hs_.symm).1.1.1.2) (fun hn_ => (Kd.freshB (g := gb553) (o := .cells #[.slice Ao37 t549.length co37, .int .i64 t552] 24 (0, 0)) (uB BK553.out) k_ hn_)), Or.elim hk_ (fun hs_ => ((Kd.R_types (Kd.R_types (Kd.R_types (Kd.R_types (Kd.R_types (HO551.out) BK546.out (by decide)) BK553.out (by decide)) BK558.out (by decide)) BK563.out (by decide)) BK568.out (by decide)).1 k_ hs_.symm).1.1.2) (fun hn_ => (Kd.freshB (g := gb558) (o := .cells #[.slice Ao42 t554.length co42, .int .i64 t557] 31 (0, 0)) (uB BK558.out) k_ hn_)), Or.elim hk_ (fun hs_ => ((Kd.R_types (Kd.R_types (Kd.R_types (Kd.R_types (Kd.R_types (HO551.out) BK546.out (by decide)) BK553.out (by decide)) BK558.out (by decide)) BK563.out (by decide)) BK568.out (by decide)).1 k_ hs_.symm).1.2) (fun hn_ => (Kd.freshB (g := gb563) (o := .cells #[.slice Ao48 t559.length co48, .int .i64 t562] 24 (0, 0)) (uB BK563.out) k_ hn_)), Or.elim hk_ (fun hs_ => ((Kd.R_types (Kd.R_types (Kd.R_types (Kd.R_types (Kd.R_types (HO551.out) BK546.out (by decide)) BK553.out (by decide)) BK558.out (by decide)) BK563.out (by decide)) BK568.out (by decide)).1 k_ hs_.symm).2) (fun hn_ => (Kd.freshB (g := gb568) (o := .cells #[.slice Ao55 t564.length co55, .int .i64 t567] 31 (0, 0)) (uB BK568.out) k_ hn_))⟩)) (below_size (by repeat (first | (with_reducible first | exact HB.out | apply bA | apply bN | apply bD | refine bS ?_ (by assumption)) | exact HB.out))))
         have n6_ := mk0 (blk_below (g := gb546) (o := .cells #[.slice A0_0 l0_0.length c0_0, .int .i64 a0_1] 24 (0, 0)) (uB BK546.out) hb)
         have n7_ := mk0 (blk_below (g := gb553) (o := .cells #[.slice Ao37 t549.length co37, .int .i64 t552] 24 (0, 0)) (uB BK553.out) hb)
         have n8_ := mk0 (blk_below (g := gb558) (o := .cells #[.slice Ao42 t554.length co42, .int .i64 t557] 31 (0, 0)) (uB BK558.out) hb)
         have n9_ := mk0 (blk_below (g := gb563) (o := .cells #[.slice Ao48 t559.length co48, .int .i64 t562] 24 (0, 0)) (uB BK563.out) hb)
         have n10_ := mk0 (blk_below (g := gb568) (o := .cells #[.slice Ao55 t564.length co55, .int .i64 t567] 31 (0, 0)) (uB BK568.out) hb)
         have n11_ := mk0 (below_step (by repeat (first | (with_reducible first | exact HB.out | apply bA | apply bN | apply bD | refine bS ?_ (by assumption)) | exact HB.out)) hb)
         clear HO551
         clear HO556
         clear HO561
         clear HO566
         clear HO572
         clear BK546
         clear BK553
         clear BK558
         clear BK563
         clear BK568
         clear HB
         have HO551 := n0_
         have HO556 := n1_
         have HO561 := n2_
         have HO566 := n3_
         have HO572 := n4_
         have HO577 := n5_
         have BK546 := n6_
         have BK553 := n7_
         have BK558 := n8_
         have BK563 := n9_
         have BK568 := n10_
         have HB := n11_
         clear n0_ n1_ n2_ n3_ n4_ n5_ n6_ n7_ n8_ n9_ n10_ n11_
         (try clear hb)
         (try clear hb2)
         (try clear hk)
         (try clear hi)
         (try clear ho0)
         obtain ⟨Ao68, co68, eo68⟩ := Kd.V_slice HO577.out
         (first | subst eo68 | (injection eo68 with f1_ f2_ f3_; have f4_ := f1_.symm; have f5_ := f3_.symm; clear f1_ f2_ f3_; subst f4_; subst f5_))
         refine hK.out _ _ ⟨(blk_cell BK546.out 0).trans rfl, (blk_cell BK546.out 1).trans rfl, (blk_cell BK553.out 0).trans rfl, (blk_cell BK553.out 1).trans rfl, (blk_cell BK558.out 0).trans rfl, (blk_cell BK558.out 1).trans rfl, (blk_cell BK563.out 0).trans rfl, (blk_cell BK563.out 1).trans rfl, (blk_cell BK568.out 0).trans rfl, (blk_cell BK568.out 1).trans rfl⟩ (fun hHeld => ?_)
         clear hK K
         refine norm_ (a' := ?_) ?_ ?_
         rotate_left
         ·show Act.put _ (some 56) _ = _
          simp only [Act.put, List.setIfInBounds_toArray, List.set_cons_zero, List.set_cons_succ, i64_w, i32_w]
          rfl
         refine one_ (i := 21) (N := some 58) #[true, true, true, true, true, true, true, true, true, true, true, true, true, true, true, true, true, true, true, true, true, true, false, false, false, false, false, false, false, false, false, false, false, false, false, false, false, false, false] rfl rfl (one_of HT_.out (by kernel_rfl)) (by decide) (fun K hK => ?_)
         refine goes_ Tryd.func17 (by kernel_rfl) rfl #[.agg #[.slice Ao68 t575.length co68, .int .i64 t578], .agg #[.slice Ao42 t554.length co42, .int .i64 t557]] (by rfl) rfl rfl (by (try simp only [List.map_toArray, List.map_cons, List.map_nil]); first | done | rfl | (simp only [List.length_drop, List.length_take]; rfl)) ?_
         with_reducible refine (furrowref14_Same.calls kj6 _ _ t575 t578 _ _ t554 t557 true _ ?side1 ?side2 ?side3 ?side4 A30.out).mono ?_
         (case side1 => repeat (first | exact (Kd.V_reads' HO577.out).2.2 | (with_reducible refine Kd.C_alloc ?_ _) | (with_reducible refine Kd.C_drewN ?_ _) | (with_reducible refine Kd.C_drew ?_)))
         (case side2 => exact (Kd.V_reads' HO577.out).2.1)
         (case side3 => repeat (first | exact (Kd.R_reads' HO556.out).2.2 | (with_reducible refine Kd.C_alloc ?_ _) | (with_reducible refine Kd.C_drewN ?_ _) | (with_reducible refine Kd.C_drew ?_)))
         (case side4 => exact (Kd.R_reads' HO556.out).2.1)
         rintro e w69 ⟨rfl, hb⟩
         refine ⟨_, rfl, ?_⟩
         have n0_ := mk0 (Kd.R_below (uR HO551.out) hb)
         have n1_ := mk0 (Kd.R_below (uR HO556.out) hb)
         have n2_ := mk0 (Kd.R_below (uR HO561.out) hb)
         have n3_ := mk0 (Kd.R_below (uR HO566.out) hb)
         have n4_ := mk0 (Kd.V_below (uV HO572.out) hb)
         have n5_ := mk0 (Kd.V_below (uV HO577.out) hb)
         have n6_ := mk0 (blk_below (g := gb546) (o := .cells #[.slice A0_0 l0_0.length c0_0, .int .i64 a0_1] 24 (0, 0)) (uB BK546.out) hb)
         have n7_ := mk0 (blk_below (g := gb553) (o := .cells #[.slice Ao37 t549.length co37, .int .i64 t552] 24 (0, 0)) (uB BK553.out) hb)
         have n8_ := mk0 (blk_below (g := gb558) (o := .cells #[.slice Ao42 t554.length co42, .int .i64 t557] 31 (0, 0)) (uB BK558.out) hb)
         have n9_ := mk0 (blk_below (g := gb563) (o := .cells #[.slice Ao48 t559.length co48, .int .i64 t562] 24 (0, 0)) (uB BK563.out) hb)
         have n10_ := mk0 (blk_below (g := gb568) (o := .cells #[.slice Ao55 t564.length co55, .int .i64 t567] 31 (0, 0)) (uB BK568.out) hb)
         have n11_ := mk0 (below_step (by repeat (first | (with_reducible first | exact HB.out | apply bA | apply bN | apply bD | refine bS ?_ (by assumption)) | exact HB.out)) hb)
         clear HO551
         clear HO556
         clear HO561
         clear HO566
         clear HO572
         clear HO577
         clear BK546
         clear BK553
         clear BK558
         clear BK563
         clear BK568
         clear HB
         have HO551 := n0_
         have HO556 := n1_
         have HO561 := n2_
         have HO566 := n3_
         have HO572 := n4_
         have HO577 := n5_
         have BK546 := n6_
         have BK553 := n7_
         have BK558 := n8_
         have BK563 := n9_
         have BK568 := n10_
         have HB := n11_
         clear n0_ n1_ n2_ n3_ n4_ n5_ n6_ n7_ n8_ n9_ n10_ n11_
         (try clear hb)
         (try clear hb2)
         (try clear hk)
         (try clear hi)
         refine hK.out _ _ ⟨(blk_cell BK546.out 0).trans rfl, (blk_cell BK546.out 1).trans rfl, (blk_cell BK553.out 0).trans rfl, (blk_cell BK553.out 1).trans rfl, (blk_cell BK558.out 0).trans rfl, (blk_cell BK558.out 1).trans rfl, (blk_cell BK563.out 0).trans rfl, (blk_cell BK563.out 1).trans rfl, (blk_cell BK568.out 0).trans rfl, (blk_cell BK568.out 1).trans rfl⟩ (fun hHeld => ?_)
         clear hK K
         refine norm_ (a' := ?_) ?_ ?_
         rotate_left
         ·show Act.put _ (some 58) _ = _
          simp only [Act.put, List.setIfInBounds_toArray, List.set_cons_zero, List.set_cons_succ, i64_w, i32_w]
          rfl
         refine pure_ (i := 22) (N := some 59) (v := ?_) (a' := ?_) #[true, true, true, true, true, true, true, true, true, true, true, true, true, true, true, true, true, true, true, true, true, true, true, false, false, false, false, false, false, false, false, false, false, false, false, false, false, false, false] rfl rfl (any_of HT_.out (by kernel_rfl)) (fun _ _ _ h => h) (Or.inl ⟨by rfl, ?_⟩) ?_ ?_
         rotate_left
         ·intro w'
          go_simp
          with_reducible rfl
         rotate_left
         ·simp only [Act.put, List.setIfInBounds_toArray, List.set_cons_zero, List.set_cons_succ, i64_w, i32_w]
          rfl
         refine pure_ (i := 23) (N := some 60) (v := ?_) (a' := ?_) #[true, true, true, true, true, true, true, true, true, true, true, true, true, true, true, true, true, true, true, true, true, true, true, true, false, false, false, false, false, false, false, false, false, false, false, false, false, false, false] rfl rfl (any_of HT_.out (by kernel_rfl)) (fun _ _ _ h => h) (Or.inl ⟨by rfl, ?_⟩) ?_ ?_
         rotate_left
         ·intro w'
          go_simp
          with_reducible rfl
         rotate_left
         ·simp only [Act.put, List.setIfInBounds_toArray, List.set_cons_zero, List.set_cons_succ, i64_w, i32_w]
          rfl
         refine pure_ (i := 24) (N := some 61) (v := ?_) (a' := ?_) #[true, true, true, true, true, true, true, true, true, true, true, true, true, true, true, true, true, true, true, true, true, true, true, true, true, false, false, false, false, false, false, false, false, false, false, false, false, false, false] rfl rfl (any_of HT_.out (by kernel_rfl)) (fun _ _ _ h => h) (Or.inl ⟨by rfl, ?_⟩) ?_ ?_
         rotate_left
         ·intro w'
          go_simp
          with_reducible rfl
         rotate_left
         ·simp only [Act.put, List.setIfInBounds_toArray, List.set_cons_zero, List.set_cons_succ, i64_w, i32_w]
          rfl
         refine pure_ (i := 27) (N := some 64) (v := ?_) (a' := ?_) #[true, true, true, true, true, true, true, true, true, true, true, true, true, true, true, true, true, true, true, true, true, true, true, true, true, false, false, true, false, false, false, false, false, false, false, false, false, false, false] rfl rfl (any_of HT_.out (by kernel_rfl)) (fun _ _ _ h => h) (Or.inl ⟨by rfl, ?_⟩) ?_ ?_
         rotate_left
         ·intro w'
          go_simp
          with_reducible rfl
         rotate_left
         ·simp only [Act.put, List.setIfInBounds_toArray, List.set_cons_zero, List.set_cons_succ, i64_w, i32_w]
          rfl
         refine take_ (i := 25) (N := some 62) (v := ?_) (a' := ?_) #[true, true, true, true, true, true, true, true, true, true, true, true, true, true, true, true, true, true, true, true, true, true, true, true, true, true, false, true, false, false, false, false, false, false, false, false, false, false, false] rfl rfl (take_ofW HT_.out HW_.out (by kernel_rfl)) (fun _ _ _ h => h) (Or.inl ⟨by rfl, ?_⟩) hHeld ?_ ?_
         rotate_left
         ·rintro w' ⟨s0, s1, s2, s3, s4, s5, s6, s7, s8, s9⟩
          go_simp
          with_reducible rfl
         rotate_left
         ·simp only [Act.put, List.setIfInBounds_toArray, List.set_cons_zero, List.set_cons_succ, i64_w, i32_w]
          rfl
         refine pure_ (i := 26) (N := some 63) (v := ?_) (a' := ?_) #[true, true, true, true, true, true, true, true, true, true, true, true, true, true, true, true, true, true, true, true, true, true, true, true, true, true, true, true, false, false, false, false, false, false, false, false, false, false, false] rfl rfl (any_of HT_.out (by kernel_rfl)) (fun _ _ _ h => h) (Or.inl ⟨by rfl, ?_⟩) ?_ ?_
         rotate_left
         ·intro w'
          go_simp
          with_reducible rfl
         rotate_left
         ·simp only [Act.put, List.setIfInBounds_toArray, List.set_cons_zero, List.set_cons_succ, i64_w, i32_w]
          rfl
         refine take_ (i := 28) (N := some 65) (v := ?_) (a' := ?_) #[true, true, true, true, true, true, true, true, true, true, true, true, true, true, true, true, true, true, true, true, true, true, true, true, true, true, true, true, true, false, false, false, false, false, false, false, false, false, false] rfl rfl (take_ofW HT_.out HW_.out (by kernel_rfl)) (fun _ _ _ h => h) (Or.inl ⟨by rfl, ?_⟩) hHeld ?_ ?_
         rotate_left
         ·rintro w' ⟨s0, s1, s2, s3, s4, s5, s6, s7, s8, s9⟩
          go_simp
          with_reducible rfl
         rotate_left
         ·simp only [Act.put, List.setIfInBounds_toArray, List.set_cons_zero, List.set_cons_succ, i64_w, i32_w]
          rfl
         refine pure_ (i := 29) (N := some 66) (v := ?_) (a' := ?_) #[true, true, true, true, true, true, true, true, true, true, true, true, true, true, true, true, true, true, true, true, true, true, true, true, true, true, true, true, true, true, false, false, false, false, false, false, false, false, false] rfl rfl (any_of HT_.out (by kernel_rfl)) (fun _ _ _ h => h) (Or.inl ⟨by rfl, ?_⟩) ?_ ?_
         rotate_left
         ·intro w'
          go_simp
          with_reducible rfl
         rotate_left
         ·simp only [Act.put, List.setIfInBounds_toArray, List.set_cons_zero, List.set_cons_succ, i64_w, i32_w]
          rfl
         refine pure_ (i := 30) (N := some 67) (v := ?_) (a' := ?_) #[true, true, true, true, true, true, true, true, true, true, true, true, true, true, true, true, true, true, true, true, true, true, true, true, true, true, true, true, true, true, true, false, false, false, false, false, false, false, false] rfl rfl (any_of HT_.out (by kernel_rfl)) (fun _ _ _ h => h) (Or.inl ⟨by rfl, ?_⟩) ?_ ?_
         rotate_left
         ·intro w'
          go_simp
          with_reducible rfl
         rotate_left
         ·simp only [Act.put, List.setIfInBounds_toArray, List.set_cons_zero, List.set_cons_succ, i64_w, i32_w]
          rfl
         refine pure_ (i := 31) (N := some 68) (v := ?_) (a' := ?_) #[true, true, true, true, true, true, true, true, true, true, true, true, true, true, true, true, true, true, true, true, true, true, true, true, true, true, true, true, true, true, true, true, false, false, false, false, false, false, false] rfl rfl (any_of HT_.out (by kernel_rfl)) (fun _ _ _ h => h) (Or.inl ⟨by rfl, ?_⟩) ?_ ?_
         rotate_left
         ·intro w'
          go_simp
          with_reducible rfl
         rotate_left
         ·simp only [Act.put, List.setIfInBounds_toArray, List.set_cons_zero, List.set_cons_succ, i64_w, i32_w]
          rfl
         refine pure_ (i := 32) (N := some 69) (v := ?_) (a' := ?_) #[true, true, true, true, true, true, true, true, true, true, true, true, true, true, true, true, true, true, true, true, true, true, true, true, true, true, true, true, true, true, true, true, true, false, false, false, false, false, false] rfl rfl (any_of HT_.out (by kernel_rfl)) (fun _ _ _ h => h) (Or.inl ⟨by rfl, ?_⟩) ?_ ?_
         rotate_left
         ·intro w'
          go_simp
          with_reducible rfl
         rotate_left
         ·simp only [Act.put, List.setIfInBounds_toArray, List.set_cons_zero, List.set_cons_succ, i64_w, i32_w]
          rfl
         refine take_ (i := 33) (N := some 70) (v := ?_) (a' := ?_) #[true, true, true, true, true, true, true, true, true, true, true, true, true, true, true, true, true, true, true, true, true, true, true, true, true, true, true, true, true, true, true, true, true, true, false, false, false, false, false] rfl rfl (take_ofW HT_.out HW_.out (by kernel_rfl)) (fun _ _ _ h => h) (Or.inl ⟨by rfl, ?_⟩) hHeld ?_ ?_
         rotate_left
         ·rintro w' ⟨s0, s1, s2, s3, s4, s5, s6, s7, s8, s9⟩
          go_simp
          with_reducible rfl
         rotate_left
         ·simp only [Act.put, List.setIfInBounds_toArray, List.set_cons_zero, List.set_cons_succ, i64_w, i32_w]
          rfl
         refine take_ (i := 35) (N := some 72) (v := ?_) (a' := ?_) #[true, true, true, true, true, true, true, true, true, true, true, true, true, true, true, true, true, true, true, true, true, true, true, true, true, true, true, true, true, true, true, true, true, true, false, true, false, false, false] rfl rfl (take_ofW HT_.out HW_.out (by kernel_rfl)) (fun _ _ _ h => h) (Or.inl ⟨by rfl, ?_⟩) hHeld ?_ ?_
         rotate_left
         ·rintro w' ⟨s0, s1, s2, s3, s4, s5, s6, s7, s8, s9⟩
          go_simp
          with_reducible rfl
         rotate_left
         ·simp only [Act.put, List.setIfInBounds_toArray, List.set_cons_zero, List.set_cons_succ, i64_w, i32_w]
          rfl
         refine one_ (i := 34) (N := some 71) #[true, true, true, true, true, true, true, true, true, true, true, true, true, true, true, true, true, true, true, true, true, true, true, true, true, true, true, true, true, true, true, true, true, true, true, true, false, false, false] rfl rfl (one_of HT_.out (by kernel_rfl)) (by decide) (fun K hK => ?_)
         refine goes_ Tryd.func13 (by kernel_rfl) rfl #[.agg #[.slice Ao48 t559.length co48, .int .i64 t562]] (by rfl) rfl rfl (by (try simp only [List.map_toArray, List.map_cons, List.map_nil]); first | done | rfl | (simp only [List.length_drop, List.length_take]; rfl)) ?_
         with_reducible refine (furrowlaw11_Of.calls (fun k_ => some k_ = (.slice Ao48 t559.length co48 : Value).ownBlock) _ _ t559 t562 t580 t583 _ ?side1 A33.out).mono ?_
         (case side1 => exact Kd.R_V (Kd.R_tight rfl (Kd.R_types (Kd.R_types (Kd.R_types (Kd.R_types (Kd.R_types (HO561.out) BK546.out (by decide)) BK553.out (by decide)) BK558.out (by decide)) BK563.out (by decide)) BK568.out (by decide))))
         rintro e w70 ⟨v581, rfl, ho0, hb⟩
         refine ⟨_, rfl, ?_⟩
         have n0_ := mk0 (Kd.R_below (uR HO551.out) hb)
         have n1_ := mk0 (Kd.R_below (uR HO556.out) hb)
         have n2_ := mk0 (Kd.R_below (uR HO561.out) hb)
         have n3_ := mk0 (Kd.R_below (uR HO566.out) hb)
         have n4_ := mk0 (Kd.V_below (uV HO572.out) hb)
         have n5_ := mk0 (Kd.V_below (uV HO577.out) hb)
         have n6_ := mk0 (Kd.V_lower (Kd.V_mono (ok' := fun k_ => some k_ ≠ (.slice Ao37 t549.length co37 : Value).ownBlock ∧ some k_ ≠ (.slice Ao42 t554.length co42 : Value).ownBlock ∧ some k_ ≠ (.slice Ao55 t564.length co55 : Value).ownBlock ∧ k_ ≠ gb546 ∧ k_ ≠ gb553 ∧ k_ ≠ gb558 ∧ k_ ≠ gb563 ∧ k_ ≠ gb568) ho0 (fun k_ hk_ => ⟨Or.elim hk_ (fun hs_ => ((Kd.R_types (Kd.R_types (Kd.R_types (Kd.R_types (Kd.R_types (HO561.out) BK546.out (by decide)) BK553.out (by decide)) BK558.out (by decide)) BK563.out (by decide)) BK568.out (by decide)).1 k_ hs_.symm).1.1.1.1.1.1) (fun hn_ => (Kd.fresh' (Kd.R_lt (uR HO551.out)) k_ hn_)), Or.elim hk_ (fun hs_ => ((Kd.R_types (Kd.R_types (Kd.R_types (Kd.R_types (Kd.R_types (HO561.out) BK546.out (by decide)) BK553.out (by decide)) BK558.out (by decide)) BK563.out (by decide)) BK568.out (by decide)).1 k_ hs_.symm).1.1.1.1.1.2.1) (fun hn_ => (Kd.fresh' (Kd.R_lt (uR HO556.out)) k_ hn_)), Or.elim hk_ (fun hs_ => ((Kd.R_types (Kd.R_types (Kd.R_types (Kd.R_types (Kd.R_types (HO561.out) BK546.out (by decide)) BK553.out (by decide)) BK558.out (by decide)) BK563.out (by decide)) BK568.out (by decide)).1 k_ hs_.symm).1.1.1.1.1.2.2) (fun hn_ => (Kd.fresh' (Kd.R_lt (uR HO566.out)) k_ hn_)), Or.elim hk_ (fun hs_ => ((Kd.R_types (Kd.R_types (Kd.R_types (Kd.R_types (Kd.R_types (HO561.out) BK546.out (by decide)) BK553.out (by decide)) BK558.out (by decide)) BK563.out (by decide)) BK568.out (by decide)).1 k_ hs_.symm).1.1.1.1.2) (fun hn_ => (Kd.freshB (g := gb546) (o := .cells #[.slice A0_0 l0_0.length c0_0, .int .i64 a0_1] 24 (0, 0)) (uB BK546.out) k_ hn_)), Or.elim hk_ (fun hs_ => ((Kd.R_types (Kd.R_types (Kd.R_types (Kd.R_types (Kd.R_types (HO561.out) BK546.out (by decide)) BK553.out (by decide)) BK558.out (by decide)) BK563.out (by decide)) BK568.out (by decide)).1 k_ hs_.symm).1.1.1.2) (fun hn_ => (Kd.freshB (g := gb553) (o := .cells #[.slice Ao37 t549.length co37, .int .i64 t552] 24 (0, 0)) (uB BK553.out) k_ hn_)), Or.elim hk_ (fun hs_ => ((Kd.R_types (Kd.R_types (Kd.R_types (Kd.R_types (Kd.R_types (HO561.out) BK546.out (by decide)) BK553.out (by decide)) BK558.out (by decide)) BK563.out (by decide)) BK568.out (by decide)).1 k_ hs_.symm).1.1.2) (fun hn_ => (Kd.freshB (g := gb558) (o := .cells #[.slice Ao42 t554.length co42, .int .i64 t557] 31 (0, 0)) (uB BK558.out) k_ hn_)), Or.elim hk_ (fun hs_ => ((Kd.R_types (Kd.R_types (Kd.R_types (Kd.R_types (Kd.R_types (HO561.out) BK546.out (by decide)) BK553.out (by decide)) BK558.out (by decide)) BK563.out (by decide)) BK568.out (by decide)).1 k_ hs_.symm).1.2) (fun hn_ => (Kd.freshB (g := gb563) (o := .cells #[.slice Ao48 t559.length co48, .int .i64 t562] 24 (0, 0)) (uB BK563.out) k_ hn_)), Or.elim hk_ (fun hs_ => ((Kd.R_types (Kd.R_types (Kd.R_types (Kd.R_types (Kd.R_types (HO561.out) BK546.out (by decide)) BK553.out (by decide)) BK558.out (by decide)) BK563.out (by decide)) BK568.out (by decide)).1 k_ hs_.symm).2) (fun hn_ => (Kd.freshB (g := gb568) (o := .cells #[.slice Ao55 t564.length co55, .int .i64 t567] 31 (0, 0)) (uB BK568.out) k_ hn_))⟩)) (below_size (by repeat (first | (with_reducible first | exact HB.out | apply bA | apply bN | apply bD | refine bS ?_ (by assumption)) | exact HB.out))))
         have n7_ := mk0 (blk_below (g := gb546) (o := .cells #[.slice A0_0 l0_0.length c0_0, .int .i64 a0_1] 24 (0, 0)) (uB BK546.out) hb)
         have n8_ := mk0 (blk_below (g := gb553) (o := .cells #[.slice Ao37 t549.length co37, .int .i64 t552] 24 (0, 0)) (uB BK553.out) hb)
         have n9_ := mk0 (blk_below (g := gb558) (o := .cells #[.slice Ao42 t554.length co42, .int .i64 t557] 31 (0, 0)) (uB BK558.out) hb)
         have n10_ := mk0 (blk_below (g := gb563) (o := .cells #[.slice Ao48 t559.length co48, .int .i64 t562] 24 (0, 0)) (uB BK563.out) hb)
         have n11_ := mk0 (blk_below (g := gb568) (o := .cells #[.slice Ao55 t564.length co55, .int .i64 t567] 31 (0, 0)) (uB BK568.out) hb)
         have n12_ := mk0 (below_step (by repeat (first | (with_reducible first | exact HB.out | apply bA | apply bN | apply bD | refine bS ?_ (by assumption)) | exact HB.out)) hb)
         clear HO551
         clear HO556
         clear HO561
         clear HO566
         clear HO572
         clear HO577
         clear BK546
         clear BK553
         clear BK558
         clear BK563
         clear BK568
         clear HB
         have HO551 := n0_
         have HO556 := n1_
         have HO561 := n2_
         have HO566 := n3_
         have HO572 := n4_
         have HO577 := n5_
         have HO582 := n6_
         have BK546 := n7_
         have BK553 := n8_
         have BK558 := n9_
         have BK563 := n10_
         have BK568 := n11_
         have HB := n12_
         clear n0_ n1_ n2_ n3_ n4_ n5_ n6_ n7_ n8_ n9_ n10_ n11_ n12_
         (try clear hb)
         (try clear hb2)
         (try clear hk)
         (try clear hi)
         (try clear ho0)
         obtain ⟨Ao71, co71, eo71⟩ := Kd.V_slice HO582.out
         (first | subst eo71 | (injection eo71 with f1_ f2_ f3_; have f4_ := f1_.symm; have f5_ := f3_.symm; clear f1_ f2_ f3_; subst f4_; subst f5_))
         refine hK.out _ _ ⟨(blk_cell BK546.out 0).trans rfl, (blk_cell BK546.out 1).trans rfl, (blk_cell BK553.out 0).trans rfl, (blk_cell BK553.out 1).trans rfl, (blk_cell BK558.out 0).trans rfl, (blk_cell BK558.out 1).trans rfl, (blk_cell BK563.out 0).trans rfl, (blk_cell BK563.out 1).trans rfl, (blk_cell BK568.out 0).trans rfl, (blk_cell BK568.out 1).trans rfl⟩ (fun hHeld => ?_)
         clear hK K
         refine norm_ (a' := ?_) ?_ ?_
         rotate_left
         ·show Act.put _ (some 71) _ = _
          simp only [Act.put, List.setIfInBounds_toArray, List.set_cons_zero, List.set_cons_succ, i64_w, i32_w]
          rfl
         refine one_ (i := 36) (N := some 73) #[true, true, true, true, true, true, true, true, true, true, true, true, true, true, true, true, true, true, true, true, true, true, true, true, true, true, true, true, true, true, true, true, true, true, true, true, true, false, false] rfl rfl (one_of HT_.out (by kernel_rfl)) (by decide) (fun K hK => ?_)
         refine goes_ Tryd.func17 (by kernel_rfl) rfl #[.agg #[.slice Ao71 t580.length co71, .int .i64 t583], .agg #[.slice Ao55 t564.length co55, .int .i64 t567]] (by rfl) rfl rfl (by (try simp only [List.map_toArray, List.map_cons, List.map_nil]); first | done | rfl | (simp only [List.length_drop, List.length_take]; rfl)) ?_
         with_reducible refine (furrowref14_Same.calls kj6 _ _ t580 t583 _ _ t564 t567 t584 _ ?side1 ?side2 ?side3 ?side4 A34.out).mono ?_
         (case side1 => repeat (first | exact (Kd.V_reads' HO582.out).2.2 | (with_reducible refine Kd.C_alloc ?_ _) | (with_reducible refine Kd.C_drewN ?_ _) | (with_reducible refine Kd.C_drew ?_)))
         (case side2 => exact (Kd.V_reads' HO582.out).2.1)
         (case side3 => repeat (first | exact (Kd.R_reads' HO566.out).2.2 | (with_reducible refine Kd.C_alloc ?_ _) | (with_reducible refine Kd.C_drewN ?_ _) | (with_reducible refine Kd.C_drew ?_)))
         (case side4 => exact (Kd.R_reads' HO566.out).2.1)
         rintro e w72 ⟨rfl, hb⟩
         refine ⟨_, rfl, ?_⟩
         have n0_ := mk0 (Kd.R_below (uR HO551.out) hb)
         have n1_ := mk0 (Kd.R_below (uR HO556.out) hb)
         have n2_ := mk0 (Kd.R_below (uR HO561.out) hb)
         have n3_ := mk0 (Kd.R_below (uR HO566.out) hb)
         have n4_ := mk0 (Kd.V_below (uV HO572.out) hb)
         have n5_ := mk0 (Kd.V_below (uV HO577.out) hb)
         have n6_ := mk0 (Kd.V_below (uV HO582.out) hb)
         have n7_ := mk0 (blk_below (g := gb546) (o := .cells #[.slice A0_0 l0_0.length c0_0, .int .i64 a0_1] 24 (0, 0)) (uB BK546.out) hb)
         have n8_ := mk0 (blk_below (g := gb553) (o := .cells #[.slice Ao37 t549.length co37, .int .i64 t552] 24 (0, 0)) (uB BK553.out) hb)
         have n9_ := mk0 (blk_below (g := gb558) (o := .cells #[.slice Ao42 t554.length co42, .int .i64 t557] 31 (0, 0)) (uB BK558.out) hb)
         have n10_ := mk0 (blk_below (g := gb563) (o := .cells #[.slice Ao48 t559.length co48, .int .i64 t562] 24 (0, 0)) (uB BK563.out) hb)
         have n11_ := mk0 (blk_below (g := gb568) (o := .cells #[.slice Ao55 t564.length co55, .int .i64 t567] 31 (0, 0)) (uB BK568.out) hb)
         have n12_ := mk0 (below_step (by repeat (first | (with_reducible first | exact HB.out | apply bA | apply bN | apply bD | refine bS ?_ (by assumption)) | exact HB.out)) hb)
         clear HO551
         clear HO556
         clear HO561
         clear HO566
         clear HO572
         clear HO577
         clear HO582
         clear BK546
         clear BK553
         clear BK558
         clear BK563
         clear BK568
         clear HB
         have HO551 := n0_
         have HO556 := n1_
         have HO561 := n2_
         have HO566 := n3_
         have HO572 := n4_
         have HO577 := n5_
         have HO582 := n6_
         have BK546 := n7_
         have BK553 := n8_
         have BK558 := n9_
         have BK563 := n10_
         have BK568 := n11_
         have HB := n12_
         clear n0_ n1_ n2_ n3_ n4_ n5_ n6_ n7_ n8_ n9_ n10_ n11_ n12_
         (try clear hb)
         (try clear hb2)
         (try clear hk)
         (try clear hi)
         refine hK.out _ _ ⟨(blk_cell BK546.out 0).trans rfl, (blk_cell BK546.out 1).trans rfl, (blk_cell BK553.out 0).trans rfl, (blk_cell BK553.out 1).trans rfl, (blk_cell BK558.out 0).trans rfl, (blk_cell BK558.out 1).trans rfl, (blk_cell BK563.out 0).trans rfl, (blk_cell BK563.out 1).trans rfl, (blk_cell BK568.out 0).trans rfl, (blk_cell BK568.out 1).trans rfl⟩ (fun hHeld => ?_)
         clear hK K
         refine norm_ (a' := ?_) ?_ ?_
         rotate_left
         ·show Act.put _ (some 73) _ = _
          simp only [Act.put, List.setIfInBounds_toArray, List.set_cons_zero, List.set_cons_succ, i64_w, i32_w]
          rfl
         refine pure_ (i := 37) (N := some 74) (v := ?_) (a' := ?_) #[true, true, true, true, true, true, true, true, true, true, true, true, true, true, true, true, true, true, true, true, true, true, true, true, true, true, true, true, true, true, true, true, true, true, true, true, true, true, false] rfl rfl (any_of HT_.out (by kernel_rfl)) (fun _ _ _ h => h) (Or.inl ⟨by rfl, ?_⟩) ?_ ?_
         rotate_left
         ·intro w'
          go_simp
          with_reducible rfl
         rotate_left
         ·simp only [Act.put, List.setIfInBounds_toArray, List.set_cons_zero, List.set_cons_succ, i64_w, i32_w]
          rfl
         refine pure_ (i := 38) (N := some 8) (v := ?_) (a' := ?_) #[true, true, true, true, true, true, true, true, true, true, true, true, true, true, true, true, true, true, true, true, true, true, true, true, true, true, true, true, true, true, true, true, true, true, true, true, true, true, true] rfl rfl (any_of HT_.out (by kernel_rfl)) (fun _ _ _ h => h) (Or.inl ⟨by rfl, ?_⟩) ?_ ?_
         rotate_left
         ·intro w'
          go_simp
          with_reducible rfl
         rotate_left
         ·simp only [Act.put, List.setIfInBounds_toArray, List.set_cons_zero, List.set_cons_succ, i64_w, i32_w]
          rfl
         refine done_ (done_of HT_.out (by kernel_rfl)) ?_
         try go_wp2
         go_ret
         exact ⟨by first | rfl | (simp [errW_none, errW_some] <;> rfl) | (exact congrArg (fun b_ => Ending.returned (Value.bool b_)) HT.out) | (rw [show _ = _ from HT.out]) | (simp [HT.out]; done) | (simp [show _ = _ from HT.out]; done) | (simp [*, errW_none, errW_some] <;> rfl), by repeat (first | (with_reducible first | exact HB.out | apply bA | apply bN | apply bD | refine bS ?_ (by assumption)) | exact HB.out)⟩
        ·rw [if_neg c32] at H
         have c32b0 : ((t559.length : Int) == (t564.length : Int)) = false := beq_eq_false_iff_ne.mpr c32
         have c32b1 : ((t559.length : Int) != (t564.length : Int)) = true := bne_iff_ne.mpr c32
         have c32b2 : (t559.length == t564.length) = false := by first | simpa using c32 | (simp at c32 ⊢; omega)
         exact absurd H (by simp)
       ·replace c31 := Bool.eq_false_iff.mpr c31
        subst c31
        have H1 : (some false) = some true := by rw [if_neg (show ¬ (false = true) by decide)] at H; first | done | exact H
        clear H
        have H := H1
        clear H1
        exact absurd H (by simp)
      ·rw [if_neg c28] at H
       have c28b0 : ((t549.length : Int) == (t554.length : Int)) = false := beq_eq_false_iff_ne.mpr c28
       have c28b1 : ((t549.length : Int) != (t554.length : Int)) = true := bne_iff_ne.mpr c28
       have c28b2 : (t549.length == t554.length) = false := by first | simpa using c28 | (simp at c28 ⊢; omega)
       exact absurd H (by simp)
     ·rw [if_neg c27] at H
      have c27b0 : (t569.toList == t574.toList) = false := beq_eq_false_iff_ne.mpr c27
      have c27b1 : (t569.toList != t574.toList) = true := bne_iff_ne.mpr c27
      exact absurd H (by simp)
 ·replace c6 := Bool.eq_false_iff.mpr c6
  subst c6
  have H1 : (some false) = some true := by rw [if_neg (show ¬ (false = true) by decide)] at H; first | done | exact H
  clear H
  have H := H1
  clear H1
  exact absurd H (by simp)

end Go.Proofs.YtmnifoeodohphaaDoor.X
