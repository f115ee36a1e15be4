-- PRINTED by print.py (a twelfth state) out of the translation. Not trusted: Lean checks it.
import Derived.Test.YtmnifoeodohphaaDoorXx0
import Derived.Test.YtmnifoeodohphaaDoorXx10
import Derived.Test.YtmnifoeodohphaaDoorXx11
import Derived.Test.YtmnifoeodohphaaDoorXx13
import Derived.Test.YtmnifoeodohphaaDoorXx2
import Derived.Test.YtmnifoeodohphaaDoorXx3
import Derived.Test.YtmnifoeodohphaaDoorXx6
import Derived.Test.YtmnifoeodohphaaDoorXx7
import Derived.Test.YtmnifoeodohphaaDoorHandE
namespace Go.Proofs.YtmnifoeodohphaaDoor.X
open Go.Proofs.YtmnifoeodohphaaDoor.Flt Go.Proofs.YtmnifoeodohphaaDoor.H Go.RowKit Go.Proofs.YtmnifoeodohphaaDoorW.PrintWords Go.Proofs.YtmnifoeodohphaaDoorW.PrintLast Go.Proofs.YtmnifoeodohphaaDoorW.PrintMore
attribute [local go_sem] max2_int min2_int max_two min_two max_three min_three max_four min_four   -- for this text's walks alone
set_option linter.unusedVariables false
set_option linter.unusedSimpArgs false

/-! ### furrowlaw11_FormAt: function 4 -/
def furrowlaw11_FormAt.j0 : Nat → List Int → List Int → Bool → List Int → Int → Option (Bool)
 | 0, _, _, _, _, _ => none
 | k + 1, x1, x2, x31, x482000, x482001 => if x31 = true then (some true) else ((lin_At.f k x482000 x482001 x1).bind fun bt484 => ((furrowlaw11_Of.f x482000 x482001).bind fun bt488 => ((furrowref14_At.f k bt488.1 bt488.2 x1).bind fun bt492 => ((lin_Range.f k x482000 x482001 x1 x2).bind fun bt498 => ((furrowlaw11_Of.f x482000 x482001).bind fun bt503 => ((furrowref14_Range.f k bt503.1 bt503.2 x1 x2).bind fun bt507 => (if bt484.1 = bt492.1 then ((furrowlaw2_Tells.f bt484.2 bt492.2.1 bt492.2.2).bind fun t514 => (if t514 = true then (if bt498.1 = bt507.1 then (if bt498.2.1 = bt507.2.1 then ((furrowlaw2_Tells.f bt498.2.2 bt507.2.2.1 bt507.2.2.2).bind fun t515 => (some t515)) else (some false)) else (some false)) else (some false))) else (some false))))))))
def furrowlaw11_FormAt.f (k : Nat) (l0_0 : List Int) (a0_1 : Int) (l1 : List Int) (l2 : List Int) : Option (Bool) := (furrowlaw11_known.f k).bind fun t482 => (if t482 = true then ((furrowlaw11_few.f l0_0 a0_1).bind fun t483 => (if t483 = true then (if (l1.length : Int) > 20 then (furrowlaw11_FormAt.j0 k l1 l2 true l0_0 a0_1) else (furrowlaw11_FormAt.j0 k l1 l2 (decide ((l2.length : Int) > 20)) l0_0 a0_1)) else (furrowlaw11_FormAt.j0 k l1 l2 true l0_0 a0_1))) else (some false))
theorem furrowlaw11_FormAt.mono_l : ∀ k, (∀ y0 y1 y2 y3 y4, LeO (furrowlaw11_FormAt.j0 k y0 y1 y2 y3 y4) (furrowlaw11_FormAt.j0 (k + 1) y0 y1 y2 y3 y4))
 | 0 => fun _ _ _ _ _ r h => by simp [furrowlaw11_FormAt.j0] at h
 | k + 1 => by
  have ih0 := furrowlaw11_FormAt.mono_l k
  ·intro y0 y1 y2 y3 y4
   unfold furrowlaw11_FormAt.j0
   repeat' first
   | (with_reducible exact ih0 _ _ _ _ _)
   | (with_reducible exact furrowlaw11_known.mono _)
   | (with_reducible exact furrowref14_At.mono _ _ _ _)
   | (with_reducible exact furrowref14_Range.mono _ _ _ _ _)
   | (with_reducible exact lin_At.mono _ _ _ _)
   | (with_reducible exact lin_Range.mono _ _ _ _ _)
   | (with_reducible exact LeO.refl _)
   | (with_reducible exact LeO.none _)
   | (with_reducible refine LeO.ite ?_ ?_)
   | (with_reducible refine LeO.bind ?_ (fun _ => ?_))
   | exact ih0 _ _ _ _ _
   | exact furrowlaw11_known.mono _
   | exact furrowref14_At.mono _ _ _ _
   | exact furrowref14_Range.mono _ _ _ _ _
   | exact lin_At.mono _ _ _ _
   | exact lin_Range.mono _ _ _ _ _
   | exact LeO.none _
   | refine LeO.ite ?_ ?_
   | refine LeO.bind ?_ (fun _ => ?_)
theorem furrowlaw11_FormAt.mono : ∀ a0 a1 a2 a3 k, LeO (furrowlaw11_FormAt.f k a0 a1 a2 a3) (furrowlaw11_FormAt.f (k + 1) a0 a1 a2 a3) := by
 intro a0 a1 a2 a3 k
 have ih0 := furrowlaw11_FormAt.mono_l k
 unfold furrowlaw11_FormAt.f
 repeat' first
   | (with_reducible exact ih0 _ _ _ _ _)
   | (with_reducible exact furrowlaw11_known.mono _)
   | (with_reducible exact furrowref14_At.mono _ _ _ _)
   | (with_reducible exact furrowref14_Range.mono _ _ _ _ _)
   | (with_reducible exact lin_At.mono _ _ _ _)
   | (with_reducible exact lin_Range.mono _ _ _ _ _)
   | (with_reducible exact LeO.refl _)
   | (with_reducible exact LeO.none _)
   | (with_reducible refine LeO.ite ?_ ?_)
   | (with_reducible refine LeO.bind ?_ (fun _ => ?_))
   | exact ih0 _ _ _ _ _
   | exact furrowlaw11_known.mono _
   | exact furrowref14_At.mono _ _ _ _
   | exact furrowref14_Range.mono _ _ _ _ _
   | exact lin_At.mono _ _ _ _
   | exact lin_Range.mono _ _ _ _ _
   | exact LeO.none _
   | refine LeO.ite ?_ ?_
   | refine LeO.bind ?_ (fun _ => ?_)
set_option maxHeartbeats 8000000 in
set_option maxRecDepth 100000 in
theorem furrowlaw11_FormAt.calls (k : Nat) (A0_0 : Option Addr) (c0_0 : Nat) (l0_0 : List Int) (a0_1 : Int) (A1 : Option Addr) (c1 : Nat) (l1 : List Int) (A2 : Option Addr) (c2 : Nat) (l2 : List Int) (w : World) (hr0_0 : Kd.C (Kd.int .i64) w A0_0 l0_0.length l0_0) (hc0_0 : l0_0.length ≤ c0_0) (hr1 : Kd.C (Kd.int .i64) w A1 l1.length l1) (hc1 : l1.length ≤ c1) (hr2 : Kd.C (Kd.int .i64) w A2 l2.length l2) (hc2 : l2.length ≤ c2) (hG : Glob w) (h : furrowlaw11_FormAt.f k l0_0 a0_1 l1 l2 = some true) :
  Calls Tryd.prog 4 #[.agg #[.slice A0_0 l0_0.length c0_0, .int .i64 a0_1], .slice A1 l1.length c1, .slice A2 l2.length c2] w fun e w' => e = .returned (.bool true) ∧ Below w.heap.size w w' := by
 have hu24 := Tryd.underlying24
 have hu34 := Tryd.underlying34
 have HR0_0 := mk0 hr0_0
 have HC0_0 := mk0 hc0_0
 clear hr0_0 hc0_0
 have HR1 := mk0 hr1
 have HC1 := mk0 hc1
 clear hr1 hc1
 have HR2 := mk0 hr2
 have HC2 := mk0 hc2
 clear hr2 hc2
 have HG := mk0 hG
 clear hG
 have HB := mk0 (Below.refl w.heap.size w)
 have H : ((furrowlaw11_known.f k).bind fun t482 => (if t482 = true then ((furrowlaw11_few.f l0_0 a0_1).bind fun t483 => (if t483 = true then (if (l1.length : Int) > 20 then (furrowlaw11_FormAt.j0 k l1 l2 true l0_0 a0_1) else (furrowlaw11_FormAt.j0 k l1 l2 (decide ((l2.length : Int) > 20)) l0_0 a0_1)) else (furrowlaw11_FormAt.j0 k l1 l2 true l0_0 a0_1))) else (some false))) = some true := h
 clear h
 replace H := Option.bind_eq_some_iff.mp H
 obtain ⟨t482, A40, H⟩ := H
 replace H : (if t482 = true then ((furrowlaw11_few.f l0_0 a0_1).bind fun t483 => (if t483 = true then (if (l1.length : Int) > 20 then (furrowlaw11_FormAt.j0 k l1 l2 true l0_0 a0_1) else (furrowlaw11_FormAt.j0 k l1 l2 (decide ((l2.length : Int) > 20)) l0_0 a0_1)) else (furrowlaw11_FormAt.j0 k l1 l2 true l0_0 a0_1))) else (some false)) = some true := H
 have A4 := mk0 A40
 clear A40
 by_cases c5 : t482 = true
 ·subst c5
  have H1 : ((furrowlaw11_few.f l0_0 a0_1).bind fun t483 => (if t483 = true then (if (l1.length : Int) > 20 then (furrowlaw11_FormAt.j0 k l1 l2 true l0_0 a0_1) else (furrowlaw11_FormAt.j0 k l1 l2 (decide ((l2.length : Int) > 20)) l0_0 a0_1)) else (furrowlaw11_FormAt.j0 k l1 l2 true l0_0 a0_1))) = some true := by rw [if_pos rfl] at H; first | done | exact H
  clear H
  have H := H1
  clear H1
  have HC6 := mk0 H
  clear H
  go_enter Tryd.func4, Tryd.ntmps4
  go_upto_region 3 with (first | ((with_reducible refine gate_dst (N := 3) rfl ?_); (try (refine gate_guard (by rfl) ?_; dsimp only)); refine box_event ?hg (N := 3) ?hd (cs := #[.slice A0_0 l0_0.length c0_0, .int .i64 a0_1]) (t := 24) ?hr ?_; (case hd => rfl); (case hg => rfl); (case hr => first | (go_simp; done) | (go_simp; rfl)); intro gb481 hg w7 hbox hb; have n0_ := mk0 (below_step (uL HB.out) hb); have n1_ := mk0 (hbox); have n2_ := mk0 ((by rw [hg]; exact (below_size (uL HB.out)) : w.heap.size ≤ gb481)); have n3_ := mk0 ((by rw [hg]; exact (below_size (uL HB.out)) : w.heap.size ≤ gb481)); clear HB; have HB := n0_; have BK481 := n1_; have GW481 := n2_; have GE481 := n3_; clear n0_ n1_ n2_ n3_; clear hb hbox hg) | ((with_reducible refine gate_callee (f := 9) rfl ?_); refine goesL_ (some 17) rfl rfl Tryd.func9 (by kernel_rfl) rfl #[] rfl (by (try simp only [List.map_toArray, List.map_cons, List.map_nil]); first | done | rfl | (simp only [List.length_drop, List.length_take]; rfl)) ?_; (with_reducible refine (furrowlaw11_known.calls k   _ ?side1 A4.out).mono ?_); (case side1 => exact Glob.below HG.out (by repeat (first | (with_reducible first | exact HB.out | apply bA | apply bN | apply bD | refine bS ?_ (by assumption)) | exact HB.out))); rintro e w8 ⟨rfl, hb⟩; refine ⟨_, rfl, ?_⟩; have n0_ := mk0 (blk_below (g := gb481) (o := .cells #[.slice A0_0 l0_0.length c0_0, .int .i64 a0_1] 24 (0, 0)) (uB BK481.out) hb); have n1_ := mk0 (below_step (by repeat (first | (with_reducible first | exact HB.out | apply bA | apply bN | apply bD | refine bS ?_ (by assumption)) | exact HB.out)) hb); clear BK481; clear HB; have BK481 := n0_; have HB := n1_; clear n0_ n1_; (try clear hb); (try clear hb2); (try clear hk); (try clear hi)))
  (try simp only [Act.put, List.setIfInBounds_toArray, List.set_cons_zero, List.set_cons_succ])
  go_cut [31] (fun v31 wc => ∃ (kq : Nat) (x31_5 : Bool), v31 = .bool x31_5 ∧ Aside0 (furrowlaw11_FormAt.j0 kq l1 l2 x31_5 l0_0 a0_1 = some true) ∧ Aside0 (kq ≤ k) ∧ Aside0 (wc.heap[gb481]? = some (.cells #[(.slice A0_0 l0_0.length c0_0), .int .i64 a0_1] 24 (0, 0))) ∧ Aside0 (Below w.heap.size w wc))
  case first =>
   have H := HC6.out
   clear HC6
   replace H := Option.bind_eq_some_iff.mp H
   obtain ⟨t483, A90, H⟩ := H
   replace H : (if t483 = true then (if (l1.length : Int) > 20 then (furrowlaw11_FormAt.j0 k l1 l2 true l0_0 a0_1) else (furrowlaw11_FormAt.j0 k l1 l2 (decide ((l2.length : Int) > 20)) l0_0 a0_1)) else (furrowlaw11_FormAt.j0 k l1 l2 true l0_0 a0_1)) = some true := H
   have A9 := mk0 A90
   clear A90
   by_cases c10 : t483 = true
   ·subst c10
    have H1 : (if (l1.length : Int) > 20 then (furrowlaw11_FormAt.j0 k l1 l2 true l0_0 a0_1) else (furrowlaw11_FormAt.j0 k l1 l2 (decide ((l2.length : Int) > 20)) l0_0 a0_1)) = some true := by rw [if_pos rfl] at H; first | done | exact H
    clear H
    have H := H1
    clear H1
    by_cases c11 : (l1.length : Int) > 20
    ·rw [if_pos c11] at H
     have c11b0 : decide (20 < (l1.length : Int)) = true := decide_eq_true c11
     have c11b1 : decide (20 < l1.length) = true := decide_eq_true (by omega)
     clear c11
     (first | rw [c11b0] | (simp only [i64_w, i32_w]; rw [c11b0]) | skip)
     have H' := mk0 H
     clear H
     have hcz12_0 : w8.cell? ⟨gb481, 0, none⟩ = some (.slice A0_0 l0_0.length c0_0) := (blk_cell BK481.out 0).trans rfl
     have hcz12_1 : w8.cell? ⟨gb481, 1, none⟩ = some (.int .i64 a0_1) := (blk_cell BK481.out 1).trans rfl
     have hfz12_0 := blk_frozen BK481.out 0
     have hfz12_1 := blk_frozen BK481.out 1
     go_wp2_with (first | ((with_reducible refine gate_callee (f := 10) rfl ?_); refine goesL_ (some 20) rfl rfl Tryd.func10 (by kernel_rfl) rfl #[.agg #[.slice A0_0 l0_0.length c0_0, .int .i64 a0_1]] rfl (by (try simp only [List.map_toArray, List.map_cons, List.map_nil]); first | done | rfl | (simp only [List.length_drop, List.length_take]; rfl)) ?_; (with_reducible refine (furrowlaw11_few.calls _ _ l0_0 a0_1 true _ ?side1 ?side2 A9.out).mono ?_); (case side1 => repeat (first | exact (Kd.C_below HR0_0.out HB.out) | (with_reducible refine Kd.C_alloc ?_ _) | (with_reducible refine Kd.C_drewN ?_ _) | (with_reducible refine Kd.C_drew ?_))); (case side2 => exact HC0_0.out); rintro e w13 ⟨rfl, hb⟩; refine ⟨_, rfl, ?_⟩; have n0_ := mk0 (blk_below (g := gb481) (o := .cells #[.slice A0_0 l0_0.length c0_0, .int .i64 a0_1] 24 (0, 0)) (uB BK481.out) hb); have n1_ := mk0 (below_step (by repeat (first | (with_reducible first | exact HB.out | apply bA | apply bN | apply bD | refine bS ?_ (by assumption)) | exact HB.out)) hb); clear BK481; clear HB; have BK481 := n0_; have HB := n1_; clear n0_ n1_; (try clear hb); (try clear hb2); (try clear hk); (try clear hi)))
     go_meet
     case rel => exact ⟨_, (true), (by first | rfl | (simp; done) | (simp [*]; done) | (simp [bne_nil_, beq_nil_]; done)), H', ⟨by first | omega | exact Nat.le_refl _⟩, ⟨uB BK481.out⟩, ⟨by repeat (first | (with_reducible first | exact HB.out | apply bA | apply bN | apply bD | refine bS ?_ (by assumption)) | exact HB.out)⟩⟩
    ·rw [if_neg c11] at H
     have c11b0 : decide (20 < (l1.length : Int)) = false := decide_eq_false c11
     have c11b1 : decide (20 < l1.length) = false := decide_eq_false (by omega)
     clear c11
     (first | rw [c11b0] | (simp only [i64_w, i32_w]; rw [c11b0]) | skip)
     have H' := mk0 H
     clear H
     have hcz14_0 : w8.cell? ⟨gb481, 0, none⟩ = some (.slice A0_0 l0_0.length c0_0) := (blk_cell BK481.out 0).trans rfl
     have hcz14_1 : w8.cell? ⟨gb481, 1, none⟩ = some (.int .i64 a0_1) := (blk_cell BK481.out 1).trans rfl
     have hfz14_0 := blk_frozen BK481.out 0
     have hfz14_1 := blk_frozen BK481.out 1
     go_wp2_with (first | ((with_reducible refine gate_callee (f := 10) rfl ?_); refine goesL_ (some 20) rfl rfl Tryd.func10 (by kernel_rfl) rfl #[.agg #[.slice A0_0 l0_0.length c0_0, .int .i64 a0_1]] rfl (by (try simp only [List.map_toArray, List.map_cons, List.map_nil]); first | done | rfl | (simp only [List.length_drop, List.length_take]; rfl)) ?_; (with_reducible refine (furrowlaw11_few.calls _ _ l0_0 a0_1 true _ ?side1 ?side2 A9.out).mono ?_); (case side1 => repeat (first | exact (Kd.C_below HR0_0.out HB.out) | (with_reducible refine Kd.C_alloc ?_ _) | (with_reducible refine Kd.C_drewN ?_ _) | (with_reducible refine Kd.C_drew ?_))); (case side2 => exact HC0_0.out); rintro e w15 ⟨rfl, hb⟩; refine ⟨_, rfl, ?_⟩; have n0_ := mk0 (blk_below (g := gb481) (o := .cells #[.slice A0_0 l0_0.length c0_0, .int .i64 a0_1] 24 (0, 0)) (uB BK481.out) hb); have n1_ := mk0 (below_step (by repeat (first | (with_reducible first | exact HB.out | apply bA | apply bN | apply bD | refine bS ?_ (by assumption)) | exact HB.out)) hb); clear BK481; clear HB; have BK481 := n0_; have HB := n1_; clear n0_ n1_; (try clear hb); (try clear hb2); (try clear hk); (try clear hi)))
     go_meet
     case rel => exact ⟨_, (decide ((l2.length : Int) > 20)), (by first | rfl | (simp; done) | (simp [*]; done) | (simp [bne_nil_, beq_nil_]; done)), H', ⟨by first | omega | exact Nat.le_refl _⟩, ⟨uB BK481.out⟩, ⟨by repeat (first | (with_reducible first | exact HB.out | apply bA | apply bN | apply bD | refine bS ?_ (by assumption)) | exact HB.out)⟩⟩
   ·replace c10 := Bool.eq_false_iff.mpr c10
    subst c10
    have H1 : (furrowlaw11_FormAt.j0 k l1 l2 true l0_0 a0_1) = some true := by rw [if_neg (show ¬ (false = true) by decide)] at H; first | done | exact H
    clear H
    have H := H1
    clear H1
    have H' := mk0 H
    clear H
    have hcz16_0 : w8.cell? ⟨gb481, 0, none⟩ = some (.slice A0_0 l0_0.length c0_0) := (blk_cell BK481.out 0).trans rfl
    have hcz16_1 : w8.cell? ⟨gb481, 1, none⟩ = some (.int .i64 a0_1) := (blk_cell BK481.out 1).trans rfl
    have hfz16_0 := blk_frozen BK481.out 0
    have hfz16_1 := blk_frozen BK481.out 1
    go_wp2_with (first | ((with_reducible refine gate_callee (f := 10) rfl ?_); refine goesL_ (some 20) rfl rfl Tryd.func10 (by kernel_rfl) rfl #[.agg #[.slice A0_0 l0_0.length c0_0, .int .i64 a0_1]] rfl (by (try simp only [List.map_toArray, List.map_cons, List.map_nil]); first | done | rfl | (simp only [List.length_drop, List.length_take]; rfl)) ?_; (with_reducible refine (furrowlaw11_few.calls _ _ l0_0 a0_1 false _ ?side1 ?side2 A9.out).mono ?_); (case side1 => repeat (first | exact (Kd.C_below HR0_0.out HB.out) | (with_reducible refine Kd.C_alloc ?_ _) | (with_reducible refine Kd.C_drewN ?_ _) | (with_reducible refine Kd.C_drew ?_))); (case side2 => exact HC0_0.out); rintro e w17 ⟨rfl, hb⟩; refine ⟨_, rfl, ?_⟩; have n0_ := mk0 (blk_below (g := gb481) (o := .cells #[.slice A0_0 l0_0.length c0_0, .int .i64 a0_1] 24 (0, 0)) (uB BK481.out) hb); have n1_ := mk0 (below_step (by repeat (first | (with_reducible first | exact HB.out | apply bA | apply bN | apply bD | refine bS ?_ (by assumption)) | exact HB.out)) hb); clear BK481; clear HB; have BK481 := n0_; have HB := n1_; clear n0_ n1_; (try clear hb); (try clear hb2); (try clear hk); (try clear hi)))
    go_meet
    case rel => exact ⟨_, (true), (by first | rfl | (simp; done) | (simp [*]; done) | (simp [bne_nil_, beq_nil_]; done)), H', ⟨by first | omega | exact Nat.le_refl _⟩, ⟨uB BK481.out⟩, ⟨by repeat (first | (with_reducible first | exact HB.out | apply bA | apply bN | apply bD | refine bS ?_ (by assumption)) | exact HB.out)⟩⟩
  case rest =>
   clear HC6
   try clear c1
   try clear c2
   try clear p2
   try clear c4
   try clear c5
   try clear c9
   try clear c10
   try clear c11
   try clear c11b0
   try clear c11b1
   try clear hcz12_0
   try clear hcz12_1
   try clear hcz14_0
   try clear hcz14_1
   try clear hcz16_0
   try clear hcz16_1
   try clear hfz12_0
   try clear hfz12_1
   try clear hfz14_0
   try clear hfz14_1
   try clear hfz16_0
   try clear hfz16_1
   obtain ⟨kq, x31_5, rfl, HA, HJ5, BK481, HB⟩ := hcut
   cases kq with
   | zero => exact absurd HA.out (by simp [furrowlaw11_FormAt.j0])
   | succ kj5 =>
    have H := HA.out
    clear HA
    simp only [furrowlaw11_FormAt.j0] at H
    by_cases c18 : x31_5 = true
    ·subst c18
     have H1 : (some true) = some true := by rw [if_pos rfl] at H; first | done | exact H
     clear H
     have H := H1
     clear H1
     have HT := mk0 (Option.some.inj H)
     clear H
     go_wp2
     go_ret
     exact ⟨by first | rfl | (simp [errW_none, errW_some] <;> rfl) | (exact congrArg (fun b_ => Ending.returned (Value.bool b_)) HT.out) | (rw [show _ = _ from HT.out]) | (simp [HT.out]; done) | (simp [show _ = _ from HT.out]; done) | (simp [*, errW_none, errW_some] <;> rfl), by repeat (first | (with_reducible first | exact HB.out | apply bA | apply bN | apply bD | refine bS ?_ (by assumption)) | exact HB.out)⟩
    ·replace c18 := Bool.eq_false_iff.mpr c18
     subst c18
     have H1 : ((lin_At.f kj5 l0_0 a0_1 l1).bind fun bt484 => ((furrowlaw11_Of.f l0_0 a0_1).bind fun bt488 => ((furrowref14_At.f kj5 bt488.1 bt488.2 l1).bind fun bt492 => ((lin_Range.f kj5 l0_0 a0_1 l1 l2).bind fun bt498 => ((furrowlaw11_Of.f l0_0 a0_1).bind fun bt503 => ((furrowref14_Range.f kj5 bt503.1 bt503.2 l1 l2).bind fun bt507 => (if bt484.1 = bt492.1 then ((furrowlaw2_Tells.f bt484.2 bt492.2.1 bt492.2.2).bind fun t514 => (if t514 = true then (if bt498.1 = bt507.1 then (if bt498.2.1 = bt507.2.1 then ((furrowlaw2_Tells.f bt498.2.2 bt507.2.2.1 bt507.2.2.2).bind fun t515 => (some t515)) else (some false)) else (some false)) else (some false))) else (some false)))))))) = some true := by rw [if_neg (show ¬ (false = true) by decide)] at H; first | done | exact H
     clear H
     have H := H1
     clear H1
     replace H := Option.bind_eq_some_iff.mp H
     obtain ⟨⟨t484, t485⟩, A190, H⟩ := H
     replace H : ((furrowlaw11_Of.f l0_0 a0_1).bind fun bt488 => ((furrowref14_At.f kj5 bt488.1 bt488.2 l1).bind fun bt492 => ((lin_Range.f kj5 l0_0 a0_1 l1 l2).bind fun bt498 => ((furrowlaw11_Of.f l0_0 a0_1).bind fun bt503 => ((furrowref14_Range.f kj5 bt503.1 bt503.2 l1 l2).bind fun bt507 => (if t484 = bt492.1 then ((furrowlaw2_Tells.f t485 bt492.2.1 bt492.2.2).bind fun t514 => (if t514 = true then (if bt498.1 = bt507.1 then (if bt498.2.1 = bt507.2.1 then ((furrowlaw2_Tells.f bt498.2.2 bt507.2.2.1 bt507.2.2.2).bind fun t515 => (some t515)) else (some false)) else (some false)) else (some false))) else (some false))))))) = some true := H
     have A19 := mk0 A190
     clear A190
     replace H := Option.bind_eq_some_iff.mp H
     obtain ⟨⟨t488, t491⟩, A200, H⟩ := H
     replace H : ((furrowref14_At.f kj5 t488 t491 l1).bind fun bt492 => ((lin_Range.f kj5 l0_0 a0_1 l1 l2).bind fun bt498 => ((furrowlaw11_Of.f l0_0 a0_1).bind fun bt503 => ((furrowref14_Range.f kj5 bt503.1 bt503.2 l1 l2).bind fun bt507 => (if t484 = bt492.1 then ((furrowlaw2_Tells.f t485 bt492.2.1 bt492.2.2).bind fun t514 => (if t514 = true then (if bt498.1 = bt507.1 then (if bt498.2.1 = bt507.2.1 then ((furrowlaw2_Tells.f bt498.2.2 bt507.2.2.1 bt507.2.2.2).bind fun t515 => (some t515)) else (some false)) else (some false)) else (some false))) else (some false)))))) = some true := H
     have A20 := mk0 A200
     clear A200
     replace H := Option.bind_eq_some_iff.mp H
     obtain ⟨⟨t492, t493, t496⟩, A210, H⟩ := H
     replace H : ((lin_Range.f kj5 l0_0 a0_1 l1 l2).bind fun bt498 => ((furrowlaw11_Of.f l0_0 a0_1).bind fun bt503 => ((furrowref14_Range.f kj5 bt503.1 bt503.2 l1 l2).bind fun bt507 => (if t484 = t492 then ((furrowlaw2_Tells.f t485 t493 t496).bind fun t514 => (if t514 = true then (if bt498.1 = bt507.1 then (if bt498.2.1 = bt507.2.1 then ((furrowlaw2_Tells.f bt498.2.2 bt507.2.2.1 bt507.2.2.2).bind fun t515 => (some t515)) else (some false)) else (some false)) else (some false))) else (some false))))) = some true := H
     have A21 := mk0 A210
     clear A210
     replace H := Option.bind_eq_some_iff.mp H
     obtain ⟨⟨t498, t499, t500⟩, A220, H⟩ := H
     replace H : ((furrowlaw11_Of.f l0_0 a0_1).bind fun bt503 => ((furrowref14_Range.f kj5 bt503.1 bt503.2 l1 l2).bind fun bt507 => (if t484 = t492 then ((furrowlaw2_Tells.f t485 t493 t496).bind fun t514 => (if t514 = true then (if t498 = bt507.1 then (if t499 = bt507.2.1 then ((furrowlaw2_Tells.f t500 bt507.2.2.1 bt507.2.2.2).bind fun t515 => (some t515)) else (some false)) else (some false)) else (some false))) else (some false)))) = some true := H
     have A22 := mk0 A220
     clear A220
     replace H := Option.bind_eq_some_iff.mp H
     obtain ⟨⟨t503, t506⟩, A230, H⟩ := H
     replace H : ((furrowref14_Range.f kj5 t503 t506 l1 l2).bind fun bt507 => (if t484 = t492 then ((furrowlaw2_Tells.f t485 t493 t496).bind fun t514 => (if t514 = true then (if t498 = bt507.1 then (if t499 = bt507.2.1 then ((furrowlaw2_Tells.f t500 bt507.2.2.1 bt507.2.2.2).bind fun t515 => (some t515)) else (some false)) else (some false)) else (some false))) else (some false))) = some true := H
     have A23 := mk0 A230
     clear A230
     replace H := Option.bind_eq_some_iff.mp H
     obtain ⟨⟨t507, t508, t509, t512⟩, A240, H⟩ := H
     replace H : (if t484 = t492 then ((furrowlaw2_Tells.f t485 t493 t496).bind fun t514 => (if t514 = true then (if t498 = t507 then (if t499 = t508 then ((furrowlaw2_Tells.f t500 t509 t512).bind fun t515 => (some t515)) else (some false)) else (some false)) else (some false))) else (some false)) = some true := H
     have A24 := mk0 A240
     clear A240
     by_cases c25 : t484 = t492
     ·rw [if_pos c25] at H
      have c25b0 : (t484 == t492) = true := beq_iff_eq.mpr c25
      have c25b1 : (t484 != t492) = false := bne_eq_false_iff_eq.mpr c25
      clear c25
      replace H := Option.bind_eq_some_iff.mp H
      obtain ⟨t514, A260, H⟩ := H
      replace H : (if t514 = true then (if t498 = t507 then (if t499 = t508 then ((furrowlaw2_Tells.f t500 t509 t512).bind fun t515 => (some t515)) else (some false)) else (some false)) else (some false)) = some true := H
      have A26 := mk0 A260
      clear A260
      by_cases c27 : t514 = true
      ·subst c27
       have H1 : (if t498 = t507 then (if t499 = t508 then ((furrowlaw2_Tells.f t500 t509 t512).bind fun t515 => (some t515)) else (some false)) else (some false)) = some true := by rw [if_pos rfl] at H; first | done | exact H
       clear H
       have H := H1
       clear H1
       by_cases c28 : t498 = t507
       ·rw [if_pos c28] at H
        have c28b0 : (t498 == t507) = true := beq_iff_eq.mpr c28
        have c28b1 : (t498 != t507) = false := bne_eq_false_iff_eq.mpr c28
        clear c28
        by_cases c29 : t499 = t508
        ·rw [if_pos c29] at H
         have c29b0 : (t499 == t508) = true := beq_iff_eq.mpr c29
         have c29b1 : (t499 != t508) = false := bne_eq_false_iff_eq.mpr c29
         clear c29
         replace H := Option.bind_eq_some_iff.mp H
         obtain ⟨t515, A300, H⟩ := H
         replace H : (some t515) = some true := H
         have A30 := mk0 A300
         clear A300
         have HT := mk0 (Option.some.inj H)
         clear H
         have hcz31_0 : wc.cell? ⟨gb481, 0, none⟩ = some (.slice A0_0 l0_0.length c0_0) := (blk_cell BK481.out 0).trans rfl
         have hcz31_1 : wc.cell? ⟨gb481, 1, none⟩ = some (.int .i64 a0_1) := (blk_cell BK481.out 1).trans rfl
         have hfz31_0 := blk_frozen BK481.out 0
         have hfz31_1 := blk_frozen BK481.out 1
         go_wp2_with (first | ((with_reducible refine gate_callee (f := 19) rfl ?_); refine goesL_ (some 35) rfl rfl Tryd.func19 (by kernel_rfl) rfl #[.agg #[.slice A0_0 l0_0.length c0_0, .int .i64 a0_1], .slice A1 l1.length c1] rfl (by (try simp only [List.map_toArray, List.map_cons, List.map_nil]); first | done | rfl | (simp only [List.length_drop, List.length_take]; rfl)) ?_; (with_reducible refine (lin_At.calls kj5 _ _ l0_0 a0_1 _ _ l1 t484 t485 _ ?side1 ?side2 ?side3 ?side4 A19.out).mono ?_); (case side1 => repeat (first | exact (Kd.C_below HR0_0.out HB.out) | (with_reducible refine Kd.C_alloc ?_ _) | (with_reducible refine Kd.C_drewN ?_ _) | (with_reducible refine Kd.C_drew ?_))); (case side2 => exact HC0_0.out); (case side3 => repeat (first | exact (Kd.C_below HR1.out HB.out) | (with_reducible refine Kd.C_alloc ?_ _) | (with_reducible refine Kd.C_drewN ?_ _) | (with_reducible refine Kd.C_drew ?_))); (case side4 => exact HC1.out); rintro e w32 ⟨v486, rfl, ho0, hb⟩; refine ⟨_, rfl, ?_⟩; have n0_ := mk0 (Kd.R_lower ho0 (below_size (by repeat (first | (with_reducible first | exact HB.out | apply bA | apply bN | apply bD | refine bS ?_ (by assumption)) | exact HB.out)))); have n1_ := mk0 (blk_below (g := gb481) (o := .cells #[.slice A0_0 l0_0.length c0_0, .int .i64 a0_1] 24 (0, 0)) (uB BK481.out) hb); have n2_ := mk0 (below_step (by repeat (first | (with_reducible first | exact HB.out | apply bA | apply bN | apply bD | refine bS ?_ (by assumption)) | exact HB.out)) hb); clear BK481; clear HB; have HO487 := n0_; have BK481 := n1_; have HB := n2_; clear n0_ n1_ n2_; (try clear hb); (try clear hb2); (try clear hk); (try clear hi); (try clear ho0); (first | (have EHO487 := cmpV_no HO487.out (by with_reducible assumption)) | (have EHO487 := cmpV_yes HO487.out (by with_reducible assumption)) | skip); have hcz33_0 : w32.cell? ⟨gb481, 0, none⟩ = some (.slice A0_0 l0_0.length c0_0) := (blk_cell BK481.out 0).trans rfl; have hcz33_1 : w32.cell? ⟨gb481, 1, none⟩ = some (.int .i64 a0_1) := (blk_cell BK481.out 1).trans rfl; have hfz33_0 := blk_frozen BK481.out 0; have hfz33_1 := blk_frozen BK481.out 1) | ((with_reducible refine gate_callee (f := 13) rfl ?_); refine goesL_ (some 40) rfl rfl Tryd.func13 (by kernel_rfl) rfl #[.agg #[.slice A0_0 l0_0.length c0_0, .int .i64 a0_1]] rfl (by (try simp only [List.map_toArray, List.map_cons, List.map_nil]); first | done | rfl | (simp only [List.length_drop, List.length_take]; rfl)) ?_; (with_reducible refine (furrowlaw11_Of.calls (fun k_ => k_ < w.heap.size) _ _ l0_0 a0_1 t488 t491 _ ?side1 A20.out).mono ?_); (case side1 => exact Kd.V_mk HC0_0.out (Kd.F_below (Kd.C_F (Kd.heap_int .i64) HR0_0.out) (by repeat (first | (with_reducible first | exact HB.out | apply bA | apply bN | apply bD | refine bS ?_ (by assumption)) | exact HB.out)))); rintro e w34 ⟨v489, rfl, ho0, hb⟩; refine ⟨_, rfl, ?_⟩; have n0_ := mk0 (Kd.R_below (uR HO487.out) hb); have n1_ := mk0 (Kd.V_lower (Kd.V_mono (ok' := fun k_ => some k_ ≠ (v486 : Value).ownBlock ∧ k_ ≠ gb481) ho0 (fun k_ hk_ => ⟨Or.elim hk_ (fun hs_ => fun e_ => Nat.not_le.2 hs_ (Kd.R_base HO487.out k_ e_.symm)) (fun hn_ => (Kd.fresh' (Kd.R_lt (uR HO487.out)) k_ hn_)), Or.elim hk_ (fun hs_ => fun e_ => Nat.not_le.2 hs_ (by rw [e_]; exact GW481.out)) (fun hn_ => (Kd.freshB (g := gb481) (o := .cells #[.slice A0_0 l0_0.length c0_0, .int .i64 a0_1] 24 (0, 0)) (uB BK481.out) k_ hn_))⟩)) (below_size (by repeat (first | (with_reducible first | exact HB.out | apply bA | apply bN | apply bD | refine bS ?_ (by assumption)) | exact HB.out)))); have n2_ := mk0 (blk_below (g := gb481) (o := .cells #[.slice A0_0 l0_0.length c0_0, .int .i64 a0_1] 24 (0, 0)) (uB BK481.out) hb); have n3_ := mk0 (below_step (by repeat (first | (with_reducible first | exact HB.out | apply bA | apply bN | apply bD | refine bS ?_ (by assumption)) | exact HB.out)) hb); clear HO487; clear BK481; clear HB; have HO487 := n0_; have HO490 := n1_; have BK481 := n2_; have HB := n3_; clear n0_ n1_ n2_ n3_; (try clear hb); (try clear hb2); (try clear hk); (try clear hi); (try clear ho0); obtain ⟨Ao35, co35, eo35⟩ := Kd.V_slice HO490.out; subst eo35) | ((with_reducible refine gate_callee (f := 20) rfl ?_); refine goesL_ (some 42) rfl rfl Tryd.func20 (by kernel_rfl) rfl #[.agg #[.slice Ao35 t488.length co35, .int .i64 t491], .slice A1 l1.length c1] rfl (by (try simp only [List.map_toArray, List.map_cons, List.map_nil]); first | done | rfl | (simp only [List.length_drop, List.length_take]; rfl)) ?_; (with_reducible refine (furrowref14_At.calls kj5 _ _ t488 t491 _ _ l1 t492 t493 t496 _ ?side1 ?side2 ?side3 ?side4 A21.out).mono ?_); (case side1 => repeat (first | exact (Kd.V_reads' HO490.out).2.2 | (with_reducible refine Kd.C_alloc ?_ _) | (with_reducible refine Kd.C_drewN ?_ _) | (with_reducible refine Kd.C_drew ?_))); (case side2 => exact (Kd.V_reads' HO490.out).2.1); (case side3 => repeat (first | exact (Kd.C_below HR1.out HB.out) | (with_reducible refine Kd.C_alloc ?_ _) | (with_reducible refine Kd.C_drewN ?_ _) | (with_reducible refine Kd.C_drew ?_))); (case side4 => exact HC1.out); rintro e w36 ⟨v494, rfl, ho0, hb⟩; refine ⟨_, rfl, ?_⟩; have n0_ := mk0 (Kd.R_below (uR HO487.out) hb); have n1_ := mk0 (Kd.V_elder' (uV HO490.out) (Kd.R_base ho0) hb); have n2_ := mk0 (Kd.R_lower ho0 (below_size (by repeat (first | (with_reducible first | exact HB.out | apply bA | apply bN | apply bD | refine bS ?_ (by assumption)) | exact HB.out)))); have n3_ := mk0 (blk_below (g := gb481) (o := .cells #[.slice A0_0 l0_0.length c0_0, .int .i64 a0_1] 24 (0, 0)) (uB BK481.out) hb); have n4_ := mk0 (below_step (by repeat (first | (with_reducible first | exact HB.out | apply bA | apply bN | apply bD | refine bS ?_ (by assumption)) | exact HB.out)) hb); clear HO487; clear HO490; clear BK481; clear HB; have HO487 := n0_; have HO490 := n1_; have HO495 := n2_; have BK481 := n3_; have HB := n4_; clear n0_ n1_ n2_ n3_ n4_; (try clear hb); (try clear hb2); (try clear hk); (try clear hi); (try clear ho0)) | ((with_reducible refine gate_dst (N := 10) rfl ?_); (try (refine gate_guard (by rfl) ?_; dsimp only)); refine box_event ?hg (N := 10) ?hd (cs := #[.slice none 0 0, .int .i64 0]) (t := 34) ?hr ?_; (case hd => rfl); (case hg => rfl); (case hr => first | (go_simp; done) | (go_simp; rfl)); intro gb497 hg w37 hbox hb; have n0_ := mk0 (Kd.R_below (uR HO487.out) hb); have n1_ := mk0 (Kd.V_below (Kd.V_elderB (uV HO490.out) gb497 (Nat.le_of_eq hg.symm)) hb); have n2_ := mk0 (Kd.R_below (uR HO495.out) hb); have n3_ := mk0 (blk_below (g := gb481) (o := .cells #[.slice A0_0 l0_0.length c0_0, .int .i64 a0_1] 24 (0, 0)) (uB BK481.out) hb); have n4_ := mk0 (below_step (by repeat (first | (with_reducible first | exact HB.out | apply bA | apply bN | apply bD | refine bS ?_ (by assumption)) | exact HB.out)) hb); have n5_ := mk0 (hbox); have n6_ := mk0 ((by rw [hg]; exact (below_size (by repeat (first | (with_reducible first | exact HB.out | apply bA | apply bN | apply bD | refine bS ?_ (by assumption)) | exact HB.out))) : w.heap.size ≤ gb497)); have n7_ := mk0 ((by rw [hg]; exact (below_size (by repeat (first | (with_reducible first | exact HB.out | apply bA | apply bN | apply bD | refine bS ?_ (by assumption)) | exact HB.out))) : w.heap.size ≤ gb497)); have n8_ := mk0 ((by rw [hg]; exact Nat.ne_of_lt (blk_lt (g := gb481) (o := .cells #[.slice A0_0 l0_0.length c0_0, .int .i64 a0_1] 24 (0, 0)) (uB BK481.out)) : gb481 ≠ gb497)); have n9_ := mk0 ((by rw [hg]; exact Nat.ne_of_gt (blk_lt (g := gb481) (o := .cells #[.slice A0_0 l0_0.length c0_0, .int .i64 a0_1] 24 (0, 0)) (uB BK481.out)) : gb497 ≠ gb481)); clear HO487; clear HO490; clear HO495; clear BK481; clear HB; have HO487 := n0_; have HO490 := n1_; have HO495 := n2_; have BK481 := n3_; have HB := n4_; have BK497 := n5_; have GW497 := n6_; have GE497 := n7_; have NB481_497 := n8_; have NB497_481 := n9_; clear n0_ n1_ n2_ n3_ n4_ n5_ n6_ n7_ n8_ n9_; clear hb hbox hg; obtain ⟨Ao38, co38, eo38⟩ := Kd.R_slice HO495.out; subst eo38; have hnb39 := NB497_481.out; have hnc39 := NB481_497.out; have hcz40_0 : w37.cell? ⟨gb497, 0, none⟩ = some (.slice none 0 0) := (blk_cell BK497.out 0).trans rfl; have hcz40_1 : w37.cell? ⟨gb497, 1, none⟩ = some (.int .i64 0) := (blk_cell BK497.out 1).trans rfl; have hfz40_0 := blk_frozen BK497.out 0; have hfz40_1 := blk_frozen BK497.out 1; have hcz41_0 : w37.cell? ⟨gb481, 0, none⟩ = some (.slice A0_0 l0_0.length c0_0) := (blk_cell BK481.out 0).trans rfl; have hcz41_1 : w37.cell? ⟨gb481, 1, none⟩ = some (.int .i64 a0_1) := (blk_cell BK481.out 1).trans rfl; have hfz41_0 := blk_frozen BK481.out 0; have hfz41_1 := blk_frozen BK481.out 1) | ((with_reducible refine gate_callee (f := 21) rfl ?_); refine goesL_ (some 49) rfl rfl Tryd.func21 (by kernel_rfl) rfl #[.agg #[.slice A0_0 l0_0.length c0_0, .int .i64 a0_1], .slice A1 l1.length c1, .slice A2 l2.length c2] rfl (by (try simp only [List.map_toArray, List.map_cons, List.map_nil]); first | done | rfl | (simp only [List.length_drop, List.length_take]; rfl)) ?_; (with_reducible refine (lin_Range.calls kj5 _ _ l0_0 a0_1 _ _ l1 _ _ l2 t498 t499 t500 _ ?side1 ?side2 ?side3 ?side4 ?side5 ?side6 A22.out).mono ?_); (case side1 => exact Kd.C_below HR0_0.out (by repeat (first | (with_reducible first | exact HB.out | apply bA | apply bN | apply bD | refine bS ?_ (by assumption)) | exact HB.out))); (case side2 => exact HC0_0.out); (case side3 => exact Kd.C_below HR1.out (by repeat (first | (with_reducible first | exact HB.out | apply bA | apply bN | apply bD | refine bS ?_ (by assumption)) | exact HB.out))); (case side4 => exact HC1.out); (case side5 => exact Kd.C_below HR2.out (by repeat (first | (with_reducible first | exact HB.out | apply bA | apply bN | apply bD | refine bS ?_ (by assumption)) | exact HB.out))); (case side6 => exact HC2.out); rintro e w42 ⟨v501, rfl, ho0, hb⟩; refine ⟨_, rfl, ?_⟩; have n0_ := mk0 (Kd.R_elder' (uR (Kd.R_mono (Kd.R_far (p := ⟨gb497, 1, none⟩) (Kd.R_far (p := ⟨gb497, 0, none⟩) (Kd.R_types HO487.out BK497.out (by decide)) (fun _ hk => hk.2) (.slice Ao38 t493.length co38)) (fun _ hk => hk.2) (.int .i64 t496)) (fun _ h_ => h_.1))) (Kd.R_base ho0) hb); have n1_ := mk0 (Kd.V_elder' (uV (Kd.V_mono (Kd.V_far (p := ⟨gb497, 1, none⟩) (Kd.V_far (p := ⟨gb497, 0, none⟩) (Kd.V_mono HO490.out (fun k_ hk => (⟨hk, hk.2⟩ : _ ∧ k_ ≠ gb497))) (fun _ hk => hk.2) (.slice Ao38 t493.length co38)) (fun _ hk => hk.2) (.int .i64 t496)) (fun _ h_ => h_.1))) (Kd.R_base ho0) hb); have n2_ := mk0 (Kd.R_below (uR (Kd.R_mono (Kd.R_far (p := ⟨gb497, 1, none⟩) (Kd.R_far (p := ⟨gb497, 0, none⟩) (Kd.R_types HO495.out BK497.out (by decide)) (fun _ hk => hk.2) (.slice Ao38 t493.length co38)) (fun _ hk => hk.2) (.int .i64 t496)) (fun _ h_ => h_.1))) hb); have n3_ := mk0 (Kd.R_lower (Kd.R_new' ho0 (Kd.R_lt (uR (Kd.R_mono (Kd.R_far (p := ⟨gb497, 1, none⟩) (Kd.R_far (p := ⟨gb497, 0, none⟩) (Kd.R_types HO487.out BK497.out (by decide)) (fun _ hk => hk.2) (.slice Ao38 t493.length co38)) (fun _ hk => hk.2) (.int .i64 t496)) (fun _ h_ => h_.1))))) (below_size (by repeat (first | (with_reducible first | exact HB.out | apply bA | apply bN | apply bD | refine bS ?_ (by assumption)) | exact HB.out)))); have n4_ := mk0 (blk_below (g := gb481) (o := .cells #[.slice A0_0 l0_0.length c0_0, .int .i64 a0_1] 24 (0, 0)) (by (with_reducible repeat (first | refine blk_drewN ?_ _ | refine blk_drew ?_ | refine blk_alloc ?_ _)); refine blk_far ?_ NB481_497.out _; (with_reducible repeat (first | refine blk_drewN ?_ _ | refine blk_drew ?_ | refine blk_alloc ?_ _)); refine blk_far ?_ NB481_497.out _; (with_reducible repeat (first | refine blk_drewN ?_ _ | refine blk_drew ?_ | refine blk_alloc ?_ _)); exact BK481.out) hb); have n5_ := mk0 (blk_below (g := gb497) (o := .cells #[.slice Ao38 t493.length co38, .int .i64 t496] 34 (0, 0)) (by (with_reducible repeat (first | refine blk_drewN ?_ _ | refine blk_drew ?_ | refine blk_alloc ?_ _)); refine blk_put (cs := #[.slice Ao38 t493.length co38, .int .i64 0]) ?_ 1 _ rfl; (with_reducible repeat (first | refine blk_drewN ?_ _ | refine blk_drew ?_ | refine blk_alloc ?_ _)); refine blk_put (cs := #[.slice none 0 0, .int .i64 0]) ?_ 0 _ rfl; (with_reducible repeat (first | refine blk_drewN ?_ _ | refine blk_drew ?_ | refine blk_alloc ?_ _)); exact BK497.out) hb); have n6_ := mk0 (below_step (by repeat (first | (with_reducible first | exact HB.out | apply bA | apply bN | apply bD | refine bS ?_ (by assumption)) | exact HB.out)) hb); clear HO487; clear HO490; clear HO495; clear BK481; clear BK497; clear HB; have HO487 := n0_; have HO490 := n1_; have HO495 := n2_; have HO502 := n3_; have BK481 := n4_; have BK497 := n5_; have HB := n6_; clear n0_ n1_ n2_ n3_ n4_ n5_ n6_; (try clear hb); (try clear hb2); (try clear hk); (try clear hi); (try clear ho0); (first | (have EHO502 := cmpV_no HO502.out (by with_reducible assumption)) | (have EHO502 := cmpV_yes HO502.out (by with_reducible assumption)) | skip); have hcz43_0 : w42.cell? ⟨gb481, 0, none⟩ = some (.slice A0_0 l0_0.length c0_0) := (blk_cell BK481.out 0).trans rfl; have hcz43_1 : w42.cell? ⟨gb481, 1, none⟩ = some (.int .i64 a0_1) := (blk_cell BK481.out 1).trans rfl; have hfz43_0 := blk_frozen BK481.out 0; have hfz43_1 := blk_frozen BK481.out 1) | ((with_reducible refine gate_callee (f := 13) rfl ?_); refine goesL_ (some 55) rfl rfl Tryd.func13 (by kernel_rfl) rfl #[.agg #[.slice A0_0 l0_0.length c0_0, .int .i64 a0_1]] rfl (by (try simp only [List.map_toArray, List.map_cons, List.map_nil]); first | done | rfl | (simp only [List.length_drop, List.length_take]; rfl)) ?_; (with_reducible refine (furrowlaw11_Of.calls (fun k_ => k_ < w.heap.size) _ _ l0_0 a0_1 t503 t506 _ ?side1 A23.out).mono ?_); (case side1 => exact Kd.V_mk HC0_0.out (Kd.F_below (Kd.C_F (Kd.heap_int .i64) HR0_0.out) (by repeat (first | (with_reducible first | exact HB.out | apply bA | apply bN | apply bD | refine bS ?_ (by assumption)) | exact HB.out)))); rintro e w44 ⟨v504, rfl, ho0, hb⟩; refine ⟨_, rfl, ?_⟩; have n0_ := mk0 (Kd.R_below (uR HO487.out) hb); have n1_ := mk0 (Kd.V_below (uV HO490.out) hb); have n2_ := mk0 (Kd.R_below (uR HO495.out) hb); have n3_ := mk0 (Kd.R_below (uR HO502.out) hb); have n4_ := mk0 (Kd.V_lower (Kd.V_mono (ok' := fun k_ => some k_ ≠ (v486 : Value).ownBlock ∧ some k_ ≠ (.slice Ao38 t493.length co38 : Value).ownBlock ∧ some k_ ≠ (v501 : Value).ownBlock ∧ k_ ≠ gb481 ∧ k_ ≠ gb497) ho0 (fun k_ hk_ => ⟨Or.elim hk_ (fun hs_ => fun e_ => Nat.not_le.2 hs_ (Kd.R_base HO487.out k_ e_.symm)) (fun hn_ => (Kd.fresh' (Kd.R_lt (uR HO487.out)) k_ hn_)), Or.elim hk_ (fun hs_ => fun e_ => Nat.not_le.2 hs_ (Kd.R_base HO495.out k_ e_.symm)) (fun hn_ => (Kd.fresh' (Kd.R_lt (uR HO495.out)) k_ hn_)), Or.elim hk_ (fun hs_ => fun e_ => Nat.not_le.2 hs_ (Kd.R_base HO502.out k_ e_.symm)) (fun hn_ => (Kd.fresh' (Kd.R_lt (uR HO502.out)) k_ hn_)), Or.elim hk_ (fun hs_ => fun e_ => Nat.not_le.2 hs_ (by rw [e_]; exact GW481.out)) (fun hn_ => (Kd.freshB (g := gb481) (o := .cells #[.slice A0_0 l0_0.length c0_0, .int .i64 a0_1] 24 (0, 0)) (uB BK481.out) k_ hn_)), Or.elim hk_ (fun hs_ => fun e_ => Nat.not_le.2 hs_ (by rw [e_]; exact GW497.out)) (fun hn_ => (Kd.freshB (g := gb497) (o := .cells #[.slice Ao38 t493.length co38, .int .i64 t496] 34 (0, 0)) (uB BK497.out) k_ hn_))⟩)) (below_size (by repeat (first | (with_reducible first | exact HB.out | apply bA | apply bN | apply bD | refine bS ?_ (by assumption)) | exact HB.out)))); have n5_ := mk0 (blk_below (g := gb481) (o := .cells #[.slice A0_0 l0_0.length c0_0, .int .i64 a0_1] 24 (0, 0)) (uB BK481.out) hb); have n6_ := mk0 (blk_below (g := gb497) (o := .cells #[.slice Ao38 t493.length co38, .int .i64 t496] 34 (0, 0)) (uB BK497.out) hb); have n7_ := mk0 (below_step (by repeat (first | (with_reducible first | exact HB.out | apply bA | apply bN | apply bD | refine bS ?_ (by assumption)) | exact HB.out)) hb); clear HO487; clear HO490; clear HO495; clear HO502; clear BK481; clear BK497; clear HB; have HO487 := n0_; have HO490 := n1_; have HO495 := n2_; have HO502 := n3_; have HO505 := n4_; have BK481 := n5_; have BK497 := n6_; have HB := n7_; clear n0_ n1_ n2_ n3_ n4_ n5_ n6_ n7_; (try clear hb); (try clear hb2); (try clear hk); (try clear hi); (try clear ho0); obtain ⟨Ao45, co45, eo45⟩ := Kd.V_slice HO505.out; subst eo45) | ((with_reducible refine gate_callee (f := 22) rfl ?_); refine goesL_ (some 58) rfl rfl Tryd.func22 (by kernel_rfl) rfl #[.agg #[.slice Ao45 t503.length co45, .int .i64 t506], .slice A1 l1.length c1, .slice A2 l2.length c2] rfl (by (try simp only [List.map_toArray, List.map_cons, List.map_nil]); first | done | rfl | (simp only [List.length_drop, List.length_take]; rfl)) ?_; (with_reducible refine (furrowref14_Range.calls kj5 _ _ t503 t506 _ _ l1 _ _ l2 t507 t508 t509 t512 _ ?side1 ?side2 ?side3 ?side4 ?side5 ?side6 A24.out).mono ?_); (case side1 => repeat (first | exact (Kd.V_reads' HO505.out).2.2 | (with_reducible refine Kd.C_alloc ?_ _) | (with_reducible refine Kd.C_drewN ?_ _) | (with_reducible refine Kd.C_drew ?_))); (case side2 => exact (Kd.V_reads' HO505.out).2.1); (case side3 => repeat (first | exact (Kd.C_below HR1.out HB.out) | (with_reducible refine Kd.C_alloc ?_ _) | (with_reducible refine Kd.C_drewN ?_ _) | (with_reducible refine Kd.C_drew ?_))); (case side4 => exact HC1.out); (case side5 => repeat (first | exact (Kd.C_below HR2.out HB.out) | (with_reducible refine Kd.C_alloc ?_ _) | (with_reducible refine Kd.C_drewN ?_ _) | (with_reducible refine Kd.C_drew ?_))); (case side6 => exact HC2.out); rintro e w46 ⟨v510, rfl, ho0, hb⟩; refine ⟨_, rfl, ?_⟩; have n0_ := mk0 (Kd.R_below (uR HO487.out) hb); have n1_ := mk0 (Kd.V_elder' (uV HO490.out) (Kd.R_base ho0) hb); have n2_ := mk0 (Kd.R_elder' (uR HO495.out) (Kd.R_base ho0) hb); have n3_ := mk0 (Kd.R_below (uR HO502.out) hb); have n4_ := mk0 (Kd.V_elder' (uV HO505.out) (Kd.R_base ho0) hb); have n5_ := mk0 (Kd.R_lower (Kd.R_new' ho0 (Kd.R_lt (uR HO495.out))) (below_size (by repeat (first | (with_reducible first | exact HB.out | apply bA | apply bN | apply bD | refine bS ?_ (by assumption)) | exact HB.out)))); have n6_ := mk0 (blk_below (g := gb481) (o := .cells #[.slice A0_0 l0_0.length c0_0, .int .i64 a0_1] 24 (0, 0)) (uB BK481.out) hb); have n7_ := mk0 (blk_below (g := gb497) (o := .cells #[.slice Ao38 t493.length co38, .int .i64 t496] 34 (0, 0)) (uB BK497.out) hb); have n8_ := mk0 (below_step (by repeat (first | (with_reducible first | exact HB.out | apply bA | apply bN | apply bD | refine bS ?_ (by assumption)) | exact HB.out)) hb); clear HO487; clear HO490; clear HO495; clear HO502; clear HO505; clear BK481; clear BK497; clear HB; have HO487 := n0_; have HO490 := n1_; have HO495 := n2_; have HO502 := n3_; have HO505 := n4_; have HO511 := n5_; have BK481 := n6_; have BK497 := n7_; have HB := n8_; clear n0_ n1_ n2_ n3_ n4_ n5_ n6_ n7_ n8_; (try clear hb); (try clear hb2); (try clear hk); (try clear hi); (try clear ho0)) | ((with_reducible refine gate_dst (N := 16) rfl ?_); (try (refine gate_guard (by rfl) ?_; dsimp only)); refine box_event ?hg (N := 16) ?hd (cs := #[.slice none 0 0, .int .i64 0]) (t := 34) ?hr ?_; (case hd => rfl); (case hg => rfl); (case hr => first | (go_simp; done) | (go_simp; rfl)); intro gb513 hg w47 hbox hb; have n0_ := mk0 (Kd.R_below (uR HO487.out) hb); have n1_ := mk0 (Kd.V_below (Kd.V_elderB (uV HO490.out) gb513 (Nat.le_of_eq hg.symm)) hb); have n2_ := mk0 (Kd.R_below (uR HO495.out) hb); have n3_ := mk0 (Kd.R_below (uR HO502.out) hb); have n4_ := mk0 (Kd.V_below (Kd.V_elderB (uV HO505.out) gb513 (Nat.le_of_eq hg.symm)) hb); have n5_ := mk0 (Kd.R_below (uR HO511.out) hb); have n6_ := mk0 (blk_below (g := gb481) (o := .cells #[.slice A0_0 l0_0.length c0_0, .int .i64 a0_1] 24 (0, 0)) (uB BK481.out) hb); have n7_ := mk0 (blk_below (g := gb497) (o := .cells #[.slice Ao38 t493.length co38, .int .i64 t496] 34 (0, 0)) (uB BK497.out) hb); have n8_ := mk0 (below_step (by repeat (first | (with_reducible first | exact HB.out | apply bA | apply bN | apply bD | refine bS ?_ (by assumption)) | exact HB.out)) hb); have n9_ := mk0 (hbox); have n10_ := mk0 ((by rw [hg]; exact (below_size (by repeat (first | (with_reducible first | exact HB.out | apply bA | apply bN | apply bD | refine bS ?_ (by assumption)) | exact HB.out))) : w.heap.size ≤ gb513)); have n11_ := mk0 ((by rw [hg]; exact (below_size (by repeat (first | (with_reducible first | exact HB.out | apply bA | apply bN | apply bD | refine bS ?_ (by assumption)) | exact HB.out))) : w.heap.size ≤ gb513)); have n12_ := mk0 ((by rw [hg]; exact Nat.ne_of_lt (blk_lt (g := gb481) (o := .cells #[.slice A0_0 l0_0.length c0_0, .int .i64 a0_1] 24 (0, 0)) (uB BK481.out)) : gb481 ≠ gb513)); have n13_ := mk0 ((by rw [hg]; exact Nat.ne_of_gt (blk_lt (g := gb481) (o := .cells #[.slice A0_0 l0_0.length c0_0, .int .i64 a0_1] 24 (0, 0)) (uB BK481.out)) : gb513 ≠ gb481)); have n14_ := mk0 ((by rw [hg]; exact Nat.ne_of_lt (blk_lt (g := gb497) (o := .cells #[.slice Ao38 t493.length co38, .int .i64 t496] 34 (0, 0)) (uB BK497.out)) : gb497 ≠ gb513)); have n15_ := mk0 ((by rw [hg]; exact Nat.ne_of_gt (blk_lt (g := gb497) (o := .cells #[.slice Ao38 t493.length co38, .int .i64 t496] 34 (0, 0)) (uB BK497.out)) : gb513 ≠ gb497)); clear HO487; clear HO490; clear HO495; clear HO502; clear HO505; clear HO511; clear BK481; clear BK497; clear HB; have HO487 := n0_; have HO490 := n1_; have HO495 := n2_; have HO502 := n3_; have HO505 := n4_; have HO511 := n5_; have BK481 := n6_; have BK497 := n7_; have HB := n8_; have BK513 := n9_; have GW513 := n10_; have GE513 := n11_; have NB481_513 := n12_; have NB513_481 := n13_; have NB497_513 := n14_; have NB513_497 := n15_; clear n0_ n1_ n2_ n3_ n4_ n5_ n6_ n7_ n8_ n9_ n10_ n11_ n12_ n13_ n14_ n15_; clear hb hbox hg; obtain ⟨Ao48, co48, eo48⟩ := Kd.R_slice HO511.out; subst eo48; have hnb49 := NB513_481.out; have hnc49 := NB481_513.out; have hnb50 := NB513_497.out; have hnc50 := NB497_513.out; have hcz51_0 : w47.cell? ⟨gb513, 0, none⟩ = some (.slice none 0 0) := (blk_cell BK513.out 0).trans rfl; have hcz51_1 : w47.cell? ⟨gb513, 1, none⟩ = some (.int .i64 0) := (blk_cell BK513.out 1).trans rfl; have hfz51_0 := blk_frozen BK513.out 0; have hfz51_1 := blk_frozen BK513.out 1; have hcz52_0 : w47.cell? ⟨gb497, 0, none⟩ = some (.slice Ao38 t493.length co38) := (blk_cell BK497.out 0).trans rfl; have hcz52_1 : w47.cell? ⟨gb497, 1, none⟩ = some (.int .i64 t496) := (blk_cell BK497.out 1).trans rfl; have hfz52_0 := blk_frozen BK497.out 0; have hfz52_1 := blk_frozen BK497.out 1; obtain ⟨Ao53, co53, eo53⟩ := Kd.R_slice HO487.out; subst eo53) | (go_at_call 16; (with_reducible refine (furrowlaw2_Tells.calls _ _ t485 _ _ t493 t496 true _ ?side1 ?side2 ?side3 ?side4 ?side5 A26.out).mono ?_); (case side1 => refine (Kd.R_reads' (e := 84) (base := w.heap.size) (ok := fun k_ => (True ∧ some k_ ≠ (v501 : Value).ownBlock)) (n := t485.length) (c := co53) ?_).2.2; exact (uR (Kd.R_mono (Kd.R_far (p := ⟨gb513, 1, none⟩) (Kd.R_far (p := ⟨gb513, 0, none⟩) (Kd.R_types HO487.out BK513.out (by decide)) (fun _ hk => hk.2) (.slice Ao48 t509.length co48)) (fun _ hk => hk.2) (.int .i64 t512)) (fun _ h_ => h_.1)))); (case side2 => exact (Kd.R_reads' HO487.out).2.1); (case side3 => refine (Kd.R_reads' (e := 86) (base := w.heap.size) (ok := fun k_ => (True ∧ some k_ ≠ (.slice Ao48 t509.length co48 : Value).ownBlock)) (n := t493.length) (c := co38) ?_).2.2; exact (uR (Kd.R_mono (Kd.R_far (p := ⟨gb513, 1, none⟩) (Kd.R_far (p := ⟨gb513, 0, none⟩) (Kd.R_types HO495.out BK513.out (by decide)) (fun _ hk => hk.2) (.slice Ao48 t509.length co48)) (fun _ hk => hk.2) (.int .i64 t512)) (fun _ h_ => h_.1)))); (case side4 => exact (Kd.R_reads' HO495.out).2.1); (case side5 => exact Glob.below HG.out (by repeat (first | (with_reducible first | exact HB.out | apply bA | apply bN | apply bD | refine bS ?_ (by assumption)) | exact HB.out))); rintro e w54 ⟨rfl, hb⟩; have n0_ := mk0 (Kd.R_below (uR (Kd.R_mono (Kd.R_far (p := ⟨gb513, 1, none⟩) (Kd.R_far (p := ⟨gb513, 0, none⟩) (Kd.R_types HO487.out BK513.out (by decide)) (fun _ hk => hk.2) (.slice Ao48 t509.length co48)) (fun _ hk => hk.2) (.int .i64 t512)) (fun _ h_ => h_.1))) hb); have n1_ := mk0 (Kd.V_below (uV (Kd.V_mono (Kd.V_far (p := ⟨gb513, 1, none⟩) (Kd.V_far (p := ⟨gb513, 0, none⟩) (Kd.V_mono HO490.out (fun k_ hk => (⟨hk, hk.2⟩ : _ ∧ k_ ≠ gb513))) (fun _ hk => hk.2) (.slice Ao48 t509.length co48)) (fun _ hk => hk.2) (.int .i64 t512)) (fun _ h_ => h_.1))) hb); have n2_ := mk0 (Kd.R_below (uR (Kd.R_mono (Kd.R_far (p := ⟨gb513, 1, none⟩) (Kd.R_far (p := ⟨gb513, 0, none⟩) (Kd.R_types HO495.out BK513.out (by decide)) (fun _ hk => hk.2) (.slice Ao48 t509.length co48)) (fun _ hk => hk.2) (.int .i64 t512)) (fun _ h_ => h_.1))) hb); have n3_ := mk0 (Kd.R_below (uR (Kd.R_mono (Kd.R_far (p := ⟨gb513, 1, none⟩) (Kd.R_far (p := ⟨gb513, 0, none⟩) (Kd.R_types HO502.out BK513.out (by decide)) (fun _ hk => hk.2) (.slice Ao48 t509.length co48)) (fun _ hk => hk.2) (.int .i64 t512)) (fun _ h_ => h_.1))) hb); have n4_ := mk0 (Kd.V_below (uV (Kd.V_mono (Kd.V_far (p := ⟨gb513, 1, none⟩) (Kd.V_far (p := ⟨gb513, 0, none⟩) (Kd.V_mono HO505.out (fun k_ hk => (⟨hk, hk.2⟩ : _ ∧ k_ ≠ gb513))) (fun _ hk => hk.2) (.slice Ao48 t509.length co48)) (fun _ hk => hk.2) (.int .i64 t512)) (fun _ h_ => h_.1))) hb); have n5_ := mk0 (Kd.R_below (uR (Kd.R_mono (Kd.R_far (p := ⟨gb513, 1, none⟩) (Kd.R_far (p := ⟨gb513, 0, none⟩) (Kd.R_types HO511.out BK513.out (by decide)) (fun _ hk => hk.2) (.slice Ao48 t509.length co48)) (fun _ hk => hk.2) (.int .i64 t512)) (fun _ h_ => h_.1))) hb); have n6_ := mk0 (blk_below (g := gb481) (o := .cells #[.slice A0_0 l0_0.length c0_0, .int .i64 a0_1] 24 (0, 0)) (by (with_reducible repeat (first | refine blk_drewN ?_ _ | refine blk_drew ?_ | refine blk_alloc ?_ _)); refine blk_far ?_ NB481_513.out _; (with_reducible repeat (first | refine blk_drewN ?_ _ | refine blk_drew ?_ | refine blk_alloc ?_ _)); refine blk_far ?_ NB481_513.out _; (with_reducible repeat (first | refine blk_drewN ?_ _ | refine blk_drew ?_ | refine blk_alloc ?_ _)); exact BK481.out) hb); have n7_ := mk0 (blk_below (g := gb497) (o := .cells #[.slice Ao38 t493.length co38, .int .i64 t496] 34 (0, 0)) (by (with_reducible repeat (first | refine blk_drewN ?_ _ | refine blk_drew ?_ | refine blk_alloc ?_ _)); refine blk_far ?_ NB497_513.out _; (with_reducible repeat (first | refine blk_drewN ?_ _ | refine blk_drew ?_ | refine blk_alloc ?_ _)); refine blk_far ?_ NB497_513.out _; (with_reducible repeat (first | refine blk_drewN ?_ _ | refine blk_drew ?_ | refine blk_alloc ?_ _)); exact BK497.out) hb); have n8_ := mk0 (blk_below (g := gb513) (o := .cells #[.slice Ao48 t509.length co48, .int .i64 t512] 34 (0, 0)) (by (with_reducible repeat (first | refine blk_drewN ?_ _ | refine blk_drew ?_ | refine blk_alloc ?_ _)); refine blk_put (cs := #[.slice Ao48 t509.length co48, .int .i64 0]) ?_ 1 _ rfl; (with_reducible repeat (first | refine blk_drewN ?_ _ | refine blk_drew ?_ | refine blk_alloc ?_ _)); refine blk_put (cs := #[.slice none 0 0, .int .i64 0]) ?_ 0 _ rfl; (with_reducible repeat (first | refine blk_drewN ?_ _ | refine blk_drew ?_ | refine blk_alloc ?_ _)); exact BK513.out) hb); have n9_ := mk0 (below_step (by repeat (first | (with_reducible first | exact HB.out | apply bA | apply bN | apply bD | refine bS ?_ (by assumption)) | exact HB.out)) hb); clear HO487; clear HO490; clear HO495; clear HO502; clear HO505; clear HO511; clear BK481; clear BK497; clear BK513; clear HB; have HO487 := n0_; have HO490 := n1_; have HO495 := n2_; have HO502 := n3_; have HO505 := n4_; have HO511 := n5_; have BK481 := n6_; have BK497 := n7_; have BK513 := n8_; have HB := n9_; clear n0_ n1_ n2_ n3_ n4_ n5_ n6_ n7_ n8_ n9_; (try clear hb); (try clear hb2); (try clear hk); (try clear hi); have hcz55_0 : w54.cell? ⟨gb513, 0, none⟩ = some (.slice Ao48 t509.length co48) := (blk_cell BK513.out 0).trans rfl; have hcz55_1 : w54.cell? ⟨gb513, 1, none⟩ = some (.int .i64 t512) := (blk_cell BK513.out 1).trans rfl; have hfz55_0 := blk_frozen BK513.out 0; have hfz55_1 := blk_frozen BK513.out 1; obtain ⟨Ao56, co56, eo56⟩ := Kd.R_slice HO502.out; subst eo56) | (go_at_call 16; (with_reducible refine (furrowlaw2_Tells.calls _ _ t500 _ _ t509 t512 t515 _ ?side1 ?side2 ?side3 ?side4 ?side5 A30.out).mono ?_); (case side1 => repeat (first | exact (Kd.R_reads' HO502.out).2.2 | (with_reducible refine Kd.C_alloc ?_ _) | (with_reducible refine Kd.C_drewN ?_ _) | (with_reducible refine Kd.C_drew ?_))); (case side2 => exact (Kd.R_reads' HO502.out).2.1); (case side3 => repeat (first | exact (Kd.R_reads' HO511.out).2.2 | (with_reducible refine Kd.C_alloc ?_ _) | (with_reducible refine Kd.C_drewN ?_ _) | (with_reducible refine Kd.C_drew ?_))); (case side4 => exact (Kd.R_reads' HO511.out).2.1); (case side5 => exact Glob.below HG.out (by repeat (first | (with_reducible first | exact HB.out | apply bA | apply bN | apply bD | refine bS ?_ (by assumption)) | exact HB.out))); rintro e w57 ⟨rfl, hb⟩; have n0_ := mk0 (Kd.R_below (uR HO487.out) hb); have n1_ := mk0 (Kd.V_below (uV HO490.out) hb); have n2_ := mk0 (Kd.R_below (uR HO495.out) hb); have n3_ := mk0 (Kd.R_below (uR HO502.out) hb); have n4_ := mk0 (Kd.V_below (uV HO505.out) hb); have n5_ := mk0 (Kd.R_below (uR HO511.out) hb); have n6_ := mk0 (blk_below (g := gb481) (o := .cells #[.slice A0_0 l0_0.length c0_0, .int .i64 a0_1] 24 (0, 0)) (uB BK481.out) hb); have n7_ := mk0 (blk_below (g := gb497) (o := .cells #[.slice Ao38 t493.length co38, .int .i64 t496] 34 (0, 0)) (uB BK497.out) hb); have n8_ := mk0 (blk_below (g := gb513) (o := .cells #[.slice Ao48 t509.length co48, .int .i64 t512] 34 (0, 0)) (uB BK513.out) hb); have n9_ := mk0 (below_step (by repeat (first | (with_reducible first | exact HB.out | apply bA | apply bN | apply bD | refine bS ?_ (by assumption)) | exact HB.out)) hb); clear HO487; clear HO490; clear HO495; clear HO502; clear HO505; clear HO511; clear BK481; clear BK497; clear BK513; clear HB; have HO487 := n0_; have HO490 := n1_; have HO495 := n2_; have HO502 := n3_; have HO505 := n4_; have HO511 := n5_; have BK481 := n6_; have BK497 := n7_; have BK513 := n8_; have HB := n9_; clear n0_ n1_ n2_ n3_ n4_ n5_ n6_ n7_ n8_ n9_; (try clear hb); (try clear hb2); (try clear hk); (try clear hi)))
         go_ret
         exact ⟨by first | rfl | (simp [errW_none, errW_some] <;> rfl) | (exact congrArg (fun b_ => Ending.returned (Value.bool b_)) HT.out) | (rw [show _ = _ from HT.out]) | (simp [HT.out]; done) | (simp [show _ = _ from HT.out]; done) | (simp [*, errW_none, errW_some] <;> rfl), by repeat (first | (with_reducible first | exact HB.out | apply bA | apply bN | apply bD | refine bS ?_ (by assumption)) | exact HB.out)⟩
        ·rw [if_neg c29] at H
         have c29b0 : (t499 == t508) = false := beq_eq_false_iff_ne.mpr c29
         have c29b1 : (t499 != t508) = true := bne_iff_ne.mpr c29
         exact absurd H (by simp)
       ·rw [if_neg c28] at H
        have c28b0 : (t498 == t507) = false := beq_eq_false_iff_ne.mpr c28
        have c28b1 : (t498 != t507) = true := bne_iff_ne.mpr c28
        exact absurd H (by simp)
      ·replace c27 := Bool.eq_false_iff.mpr c27
       subst c27
       have H1 : (some false) = some true := by rw [if_neg (show ¬ (false = true) by decide)] at H; first | done | exact H
       clear H
       have H := H1
       clear H1
       exact absurd H (by simp)
     ·rw [if_neg c25] at H
      have c25b0 : (t484 == t492) = false := beq_eq_false_iff_ne.mpr c25
      have c25b1 : (t484 != t492) = true := bne_iff_ne.mpr c25
      exact absurd H (by simp)
 ·replace c5 := Bool.eq_false_iff.mpr c5
  subst c5
  have H1 : (some false) = some true := by rw [if_neg (show ¬ (false = true) by decide)] at H; first | done | exact H
  clear H
  have H := H1
  clear H1
  exact absurd H (by simp)

end Go.Proofs.YtmnifoeodohphaaDoor.X
