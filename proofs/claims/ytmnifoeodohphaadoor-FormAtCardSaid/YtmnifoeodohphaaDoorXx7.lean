-- PRINTED by print.py (a twelfth state) out of the translation. Not trusted: Lean checks it.
import Derived.Test.YtmnifoeodohphaaDoorXx0
import Derived.Test.YtmnifoeodohphaaDoorXx2
import Derived.Test.YtmnifoeodohphaaDoorXx3
import Derived.Test.YtmnifoeodohphaaDoorXx6
namespace Go.Proofs.YtmnifoeodohphaaDoor.X
open Go.Proofs.YtmnifoeodohphaaDoor.Flt Go.Proofs.YtmnifoeodohphaaDoor.H Go.RowKit Go.Proofs.YtmnifoeodohphaaDoorW.PrintWords Go.Proofs.YtmnifoeodohphaaDoorW.PrintLast Go.Proofs.YtmnifoeodohphaaDoorW.PrintMore
attribute [local go_sem] max2_int min2_int max_two min_two max_three min_three max_four min_four   -- for this text's walks alone
set_option linter.unusedVariables false
set_option linter.unusedSimpArgs false

/-! ### furrowref14_Range: function 22 -/
mutual
def furrowref14_Range.j0 : Nat → List Int → List Int → Bool → List Int → Int → Option (Int × Int × (List (S86)) × Int)
 | 0, _, _, _, _, _ => none
 | k + 1, x1, x2, x31, x433000, x433001 => if x31 = true then ((furrowref14_unlike.f).bind fun bt434 => (some (0, 0, bt434.1, bt434.2))) else (furrowref14_Range.l0 k x1 x2 0 x433000 x433001)
def furrowref14_Range.l0 : Nat → List Int → List Int → Int → List Int → Int → Option (Int × Int × (List (S86)) × Int)
 | 0, _, _, _, _, _ => none
 | k + 1, x1, x2, x9, x433000, x433001 => if x9 < (x1.length : Int) then (if 0 ≤ x9 then (if x9 < (x2.length : Int) then (if (rd x1 x9) > (rd x2 x9) then ((furrowref14_unlike.f).bind fun bt440 => (some (0, 0, bt440.1, bt440.2))) else (furrowref14_Range.l0 k x1 x2 (wrap64 (x9 + 1)) x433000 x433001)) else (none)) else (none)) else (furrowref14_Range.l1 k x1 x2 ([] : List Int) ([] : List Int) 0 x433000 x433001)
def furrowref14_Range.l1 : Nat → List Int → List Int → List Int → List Int → Int → List Int → Int → Option (Int × Int × (List (S86)) × Int)
 | 0, _, _, _, _, _, _, _ => none
 | k + 1, x1, x2, x10, x11, x12, x433000, x433001 => if x12 < (x1.length : Int) then (if 0 ≤ x12 then (if x12 < (x2.length : Int) then (if x12 < (x433000.length : Int) then (if (rd x433000 x12) < 0 then (if x10.length < 17592186044416 then (if x11.length < 17592186044416 then (furrowref14_Range.l1 k x1 x2 (x10 ++ [rd x2 x12]) (x11 ++ [rd x1 x12]) (wrap64 (x12 + 1)) x433000 x433001) else (none)) else (none)) else (if x10.length < 17592186044416 then (if x11.length < 17592186044416 then (furrowref14_Range.l1 k x1 x2 (x10 ++ [rd x1 x12]) (x11 ++ [rd x2 x12]) (wrap64 (x12 + 1)) x433000 x433001) else (none)) else (none))) else (none)) else (none)) else (none)) else ((furrowref14_At.f k x433000 x433001 x10).bind fun bt461 => ((furrowref14_At.f k x433000 x433001 x11).bind fun bt467 => (if bt461.2.2 = 0 then (if bt467.2.2 = 0 then (some (bt461.1, bt467.1, ([] : List (S86)), 0)) else ((furrowref14_over.f).bind fun bt473 => (some (0, 0, bt473.1, bt473.2)))) else ((furrowref14_over.f).bind fun bt477 => (some (0, 0, bt477.1, bt477.2))))))
end
def furrowref14_Range.f (k : Nat) (l0_0 : List Int) (a0_1 : Int) (l1 : List Int) (l2 : List Int) : Option (Int × Int × (List (S86)) × Int) := if (l0_0.length : Int) = (l1.length : Int) then (furrowref14_Range.j0 k l1 l2 ((l1.length : Int) != (l2.length : Int)) l0_0 a0_1) else (furrowref14_Range.j0 k l1 l2 true l0_0 a0_1)
theorem furrowref14_Range.mono_l : ∀ k, (∀ y0 y1 y2 y3 y4, LeO (furrowref14_Range.j0 k y0 y1 y2 y3 y4) (furrowref14_Range.j0 (k + 1) y0 y1 y2 y3 y4)) ∧ (∀ y0 y1 y2 y3 y4, LeO (furrowref14_Range.l0 k y0 y1 y2 y3 y4) (furrowref14_Range.l0 (k + 1) y0 y1 y2 y3 y4)) ∧ (∀ y0 y1 y2 y3 y4 y5 y6, LeO (furrowref14_Range.l1 k y0 y1 y2 y3 y4 y5 y6) (furrowref14_Range.l1 (k + 1) y0 y1 y2 y3 y4 y5 y6))
 | 0 => ⟨fun _ _ _ _ _ r h => by simp [furrowref14_Range.j0] at h, fun _ _ _ _ _ r h => by simp [furrowref14_Range.l0] at h, fun _ _ _ _ _ _ _ r h => by simp [furrowref14_Range.l1] at h⟩
 | k + 1 => by
  obtain ⟨ih0, ih1, ih2⟩ := furrowref14_Range.mono_l k
  refine ⟨?_, ?_, ?_⟩
  ·intro y0 y1 y2 y3 y4
   unfold furrowref14_Range.j0
   repeat' first
   | (with_reducible exact ih0 _ _ _ _ _)
   | (with_reducible exact ih1 _ _ _ _ _)
   | (with_reducible exact ih2 _ _ _ _ _ _ _)
   | (with_reducible exact furrowref14_At.mono _ _ _ _)
   | (with_reducible exact LeO.refl _)
   | (with_reducible exact LeO.none _)
   | (with_reducible refine LeO.ite ?_ ?_)
   | (with_reducible refine LeO.bind ?_ (fun _ => ?_))
   | exact ih0 _ _ _ _ _
   | exact ih1 _ _ _ _ _
   | exact ih2 _ _ _ _ _ _ _
   | exact furrowref14_At.mono _ _ _ _
   | exact LeO.none _
   | refine LeO.ite ?_ ?_
   | refine LeO.bind ?_ (fun _ => ?_)
  ·intro y0 y1 y2 y3 y4
   unfold furrowref14_Range.l0
   repeat' first
   | (with_reducible exact ih0 _ _ _ _ _)
   | (with_reducible exact ih1 _ _ _ _ _)
   | (with_reducible exact ih2 _ _ _ _ _ _ _)
   | (with_reducible exact furrowref14_At.mono _ _ _ _)
   | (with_reducible exact LeO.refl _)
   | (with_reducible exact LeO.none _)
   | (with_reducible refine LeO.ite ?_ ?_)
   | (with_reducible refine LeO.bind ?_ (fun _ => ?_))
   | exact ih0 _ _ _ _ _
   | exact ih1 _ _ _ _ _
   | exact ih2 _ _ _ _ _ _ _
   | exact furrowref14_At.mono _ _ _ _
   | exact LeO.none _
   | refine LeO.ite ?_ ?_
   | refine LeO.bind ?_ (fun _ => ?_)
  ·intro y0 y1 y2 y3 y4 y5 y6
   unfold furrowref14_Range.l1
   repeat' first
   | (with_reducible exact ih0 _ _ _ _ _)
   | (with_reducible exact ih1 _ _ _ _ _)
   | (with_reducible exact ih2 _ _ _ _ _ _ _)
   | (with_reducible exact furrowref14_At.mono _ _ _ _)
   | (with_reducible exact LeO.refl _)
   | (with_reducible exact LeO.none _)
   | (with_reducible refine LeO.ite ?_ ?_)
   | (with_reducible refine LeO.bind ?_ (fun _ => ?_))
   | exact ih0 _ _ _ _ _
   | exact ih1 _ _ _ _ _
   | exact ih2 _ _ _ _ _ _ _
   | exact furrowref14_At.mono _ _ _ _
   | exact LeO.none _
   | refine LeO.ite ?_ ?_
   | refine LeO.bind ?_ (fun _ => ?_)
theorem furrowref14_Range.mono : ∀ a0 a1 a2 a3 k, LeO (furrowref14_Range.f k a0 a1 a2 a3) (furrowref14_Range.f (k + 1) a0 a1 a2 a3) := by
 intro a0 a1 a2 a3 k
 obtain ⟨ih0, ih1, ih2⟩ := furrowref14_Range.mono_l k
 unfold furrowref14_Range.f
 repeat' first
   | (with_reducible exact ih0 _ _ _ _ _)
   | (with_reducible exact ih1 _ _ _ _ _)
   | (with_reducible exact ih2 _ _ _ _ _ _ _)
   | (with_reducible exact furrowref14_At.mono _ _ _ _)
   | (with_reducible exact LeO.refl _)
   | (with_reducible exact LeO.none _)
   | (with_reducible refine LeO.ite ?_ ?_)
   | (with_reducible refine LeO.bind ?_ (fun _ => ?_))
   | exact ih0 _ _ _ _ _
   | exact ih1 _ _ _ _ _
   | exact ih2 _ _ _ _ _ _ _
   | exact furrowref14_At.mono _ _ _ _
   | exact LeO.none _
   | refine LeO.ite ?_ ?_
   | refine LeO.bind ?_ (fun _ => ?_)
set_option maxHeartbeats 8000000 in
set_option maxRecDepth 100000 in
theorem furrowref14_Range.calls (k : Nat) (A0_0 : Option Addr) (c0_0 : Nat) (l0_0 : List Int) (a0_1 : Int) (A1 : Option Addr) (c1 : Nat) (l1 : List Int) (A2 : Option Addr) (c2 : Nat) (l2 : List Int) (r1 : Int) (r2 : Int) (r3 : List (S86)) (r4 : Int) (w : World) (hr0_0 : Kd.C (Kd.int .i64) w A0_0 l0_0.length l0_0) (hc0_0 : l0_0.length ≤ c0_0) (hr1 : Kd.C (Kd.int .i64) w A1 l1.length l1) (hc1 : l1.length ≤ c1) (hr2 : Kd.C (Kd.int .i64) w A2 l2.length l2) (hc2 : l2.length ≤ c2) (h : furrowref14_Range.f k l0_0 a0_1 l1 l2 = some (r1, r2, r3, r4)) :
  Calls Tryd.prog 22 #[.agg #[.slice A0_0 l0_0.length c0_0, .int .i64 a0_1], .slice A1 l1.length c1, .slice A2 l2.length c2] w fun e w' => ∃ v2_ : Value, e = .returned (.tuple #[.int .i64 r1, .int .i64 r2, .agg #[v2_, .int .i64 r4]]) ∧ Kd.R k86 86 w' w.heap.size (fun _ => True) v2_ r3 ∧ Below w.heap.size w w' := by
 have hu31 := Tryd.underlying31
 have hu34 := Tryd.underlying34
 have HR0_0 := mk0 hr0_0
 have HC0_0 := mk0 hc0_0
 clear hr0_0 hc0_0
 have HR1 := mk0 hr1
 have HC1 := mk0 hc1
 clear hr1 hc1
 have HR2 := mk0 hr2
 have HC2 := mk0 hc2
 clear hr2 hc2
 have HB := mk0 (Below.refl w.heap.size w)
 have H : (if (l0_0.length : Int) = (l1.length : Int) then (furrowref14_Range.j0 k l1 l2 ((l1.length : Int) != (l2.length : Int)) l0_0 a0_1) else (furrowref14_Range.j0 k l1 l2 true l0_0 a0_1)) = some (r1, r2, r3, r4) := h
 clear h
 have HC4 := mk0 H
 clear H
 go_enter Tryd.func22, Tryd.ntmps22
 go_upto_region 1 with (first | ((with_reducible refine gate_dst (N := 3) rfl ?_); (try (refine gate_guard (by rfl) ?_; dsimp only)); refine box_event ?hg (N := 3) ?hd (cs := #[.slice A0_0 l0_0.length c0_0, .int .i64 a0_1]) (t := 31) ?hr ?_; (case hd => rfl); (case hg => rfl); (case hr => first | (go_simp; done) | (go_simp; rfl)); intro gb432 hg w5 hbox hb; have n0_ := mk0 (below_step (uL HB.out) hb); have n1_ := mk0 (hbox); have n2_ := mk0 ((by rw [hg]; exact (below_size (uL HB.out)) : w.heap.size ≤ gb432)); have n3_ := mk0 ((by rw [hg]; exact (below_size (uL HB.out)) : w.heap.size ≤ gb432)); clear HB; have HB := n0_; have BK432 := n1_; have GW432 := n2_; have GE432 := n3_; clear n0_ n1_ n2_ n3_; clear hb hbox hg) | ((with_reducible refine gate_dst (N := 8) rfl ?_); (try (refine gate_guard (by rfl) ?_; dsimp only)); refine box_event ?hg (N := 8) ?hd (cs := #[.slice none 0 0, .int .i64 0]) (t := 34) ?hr ?_; (case hd => rfl); (case hg => rfl); (case hr => first | (go_simp; done) | (go_simp; rfl)); intro gb433 hg w6 hbox hb; have n0_ := mk0 (blk_below (g := gb432) (o := .cells #[.slice A0_0 l0_0.length c0_0, .int .i64 a0_1] 31 (0, 0)) (uB BK432.out) hb); have n1_ := mk0 (below_step (by repeat (first | (with_reducible first | exact HB.out | apply bA | apply bN | apply bD | refine bS ?_ (by assumption)) | exact HB.out)) hb); have n2_ := mk0 (hbox); have n3_ := mk0 ((by rw [hg]; exact (below_size (by repeat (first | (with_reducible first | exact HB.out | apply bA | apply bN | apply bD | refine bS ?_ (by assumption)) | exact HB.out))) : w.heap.size ≤ gb433)); have n4_ := mk0 ((by rw [hg]; exact (below_size (by repeat (first | (with_reducible first | exact HB.out | apply bA | apply bN | apply bD | refine bS ?_ (by assumption)) | exact HB.out))) : w.heap.size ≤ gb433)); have n5_ := mk0 ((by rw [hg]; exact Nat.ne_of_lt (blk_lt (g := gb432) (o := .cells #[.slice A0_0 l0_0.length c0_0, .int .i64 a0_1] 31 (0, 0)) (uB BK432.out)) : gb432 ≠ gb433)); have n6_ := mk0 ((by rw [hg]; exact Nat.ne_of_gt (blk_lt (g := gb432) (o := .cells #[.slice A0_0 l0_0.length c0_0, .int .i64 a0_1] 31 (0, 0)) (uB BK432.out)) : gb433 ≠ gb432)); clear BK432; clear HB; have BK432 := n0_; have HB := n1_; have BK433 := n2_; have GW433 := n3_; have GE433 := n4_; have NB432_433 := n5_; have NB433_432 := n6_; clear n0_ n1_ n2_ n3_ n4_ n5_ n6_; clear hb hbox hg))
 (try simp only [Act.put, List.setIfInBounds_toArray, List.set_cons_zero, List.set_cons_succ])
 go_cut [31] (fun v31 wc => ∃ (kq : Nat) (x31_3 : Bool), v31 = .bool x31_3 ∧ Aside0 (furrowref14_Range.j0 kq l1 l2 x31_3 l0_0 a0_1 = some (r1, r2, r3, r4)) ∧ Aside0 (kq ≤ k) ∧ Aside0 (wc.heap[gb432]? = some (.cells #[(.slice A0_0 l0_0.length c0_0), .int .i64 a0_1] 31 (0, 0))) ∧ Aside0 (wc.heap[gb433]? = some (.cells #[(.slice none 0 0), .int .i64 0] 34 (0, 0))) ∧ Aside0 (Below w.heap.size w wc))
 case first =>
  have H := HC4.out
  clear HC4
  by_cases c7 : (l0_0.length : Int) = (l1.length : Int)
  ·rw [if_pos c7] at H
   have c7b0 : ((l0_0.length : Int) == (l1.length : Int)) = true := beq_iff_eq.mpr c7
   have c7b1 : ((l0_0.length : Int) != (l1.length : Int)) = false := bne_eq_false_iff_eq.mpr c7
   have c7b2 : (l0_0.length == l1.length) = true := by first | simpa using c7 | (simp at c7 ⊢; omega)
   clear c7
   (first | rw [c7b0] | (simp only [i64_w, i32_w]; rw [c7b0]) | skip)
   have H' := mk0 H
   clear H
   have hnb8 := NB432_433.out
   have hnc8 := NB433_432.out
   have hcz9_0 : w6.cell? ⟨gb432, 0, none⟩ = some (.slice A0_0 l0_0.length c0_0) := (blk_cell BK432.out 0).trans rfl
   have hcz9_1 : w6.cell? ⟨gb432, 1, none⟩ = some (.int .i64 a0_1) := (blk_cell BK432.out 1).trans rfl
   have hfz9_0 := blk_frozen BK432.out 0
   have hfz9_1 := blk_frozen BK432.out 1
   go_wp2
   go_meet
   case rel => exact ⟨_, (((l1.length : Int) != (l2.length : Int))), (by first | rfl | (simp; done) | (simp [*]; done) | (simp [bne_nil_, beq_nil_]; done)), H', ⟨by first | omega | exact Nat.le_refl _⟩, ⟨uB BK432.out⟩, ⟨uB BK433.out⟩, ⟨by repeat (first | (with_reducible first | exact HB.out | apply bA | apply bN | apply bD | refine bS ?_ (by assumption)) | exact HB.out)⟩⟩
  ·rw [if_neg c7] at H
   have c7b0 : ((l0_0.length : Int) == (l1.length : Int)) = false := beq_eq_false_iff_ne.mpr c7
   have c7b1 : ((l0_0.length : Int) != (l1.length : Int)) = true := bne_iff_ne.mpr c7
   have c7b2 : (l0_0.length == l1.length) = false := by first | simpa using c7 | (simp at c7 ⊢; omega)
   (first | rw [c7b0] | (simp only [i64_w, i32_w]; rw [c7b0]) | skip)
   have H' := mk0 H
   clear H
   have hnb10 := NB432_433.out
   have hnc10 := NB433_432.out
   have hcz11_0 : w6.cell? ⟨gb432, 0, none⟩ = some (.slice A0_0 l0_0.length c0_0) := (blk_cell BK432.out 0).trans rfl
   have hcz11_1 : w6.cell? ⟨gb432, 1, none⟩ = some (.int .i64 a0_1) := (blk_cell BK432.out 1).trans rfl
   have hfz11_0 := blk_frozen BK432.out 0
   have hfz11_1 := blk_frozen BK432.out 1
   go_wp2
   go_meet
   case rel => exact ⟨_, (true), (by first | rfl | (simp; done) | (simp [*]; done) | (simp [bne_nil_, beq_nil_]; done)), H', ⟨by first | omega | exact Nat.le_refl _⟩, ⟨uB BK432.out⟩, ⟨uB BK433.out⟩, ⟨by repeat (first | (with_reducible first | exact HB.out | apply bA | apply bN | apply bD | refine bS ?_ (by assumption)) | exact HB.out)⟩⟩
 case rest =>
  clear HC4
  try clear c1
  try clear c2
  try clear p2
  try clear c7
  try clear c7b0
  try clear c7b1
  try clear c7b2
  try clear c8
  try clear c10
  try clear hcz11_0
  try clear hcz11_1
  try clear hcz9_0
  try clear hcz9_1
  try clear hfz11_0
  try clear hfz11_1
  try clear hfz9_0
  try clear hfz9_1
  obtain ⟨kq, x31_3, rfl, HA, HJ3, BK432, BK433, HB⟩ := hcut
  cases kq with
  | zero => exact absurd HA.out (by simp [furrowref14_Range.j0])
  | succ kj3 =>
   have H := HA.out
   clear HA
   simp only [furrowref14_Range.j0] at H
   by_cases c12 : x31_3 = true
   ·subst c12
    have H1 : ((furrowref14_unlike.f).bind fun bt434 => (some (0, 0, bt434.1, bt434.2))) = some (r1, r2, r3, r4) := by rw [if_pos rfl] at H; exact H
    clear H
    have H := H1
    clear H1
    replace H := Option.bind_eq_some_iff.mp H
    obtain ⟨⟨t434, t437⟩, A130, H⟩ := H
    replace H : (some (0, 0, t434, t437)) = some (r1, r2, r3, r4) := H
    have A13 := mk0 A130
    clear A130
    simp only [Option.some.injEq, Prod.mk.injEq] at H
    obtain ⟨rfl, rfl, rfl, rfl⟩ := H
    go_wp2_with (first | (go_at_call 35; (with_reducible refine (furrowref14_unlike.calls  t434 t437 _ A13.out).mono ?_); rintro e w14 ⟨v435, rfl, ho0, hb⟩; have n0_ := mk0 (Kd.R_lower ho0 (below_size (by repeat (first | (with_reducible first | exact HB.out | apply bA | apply bN | apply bD | refine bS ?_ (by assumption)) | exact HB.out)))); have n1_ := mk0 (blk_below (g := gb432) (o := .cells #[.slice A0_0 l0_0.length c0_0, .int .i64 a0_1] 31 (0, 0)) (uB BK432.out) hb); have n2_ := mk0 (blk_below (g := gb433) (o := .cells #[.slice none 0 0, .int .i64 0] 34 (0, 0)) (uB BK433.out) hb); have n3_ := mk0 (below_step (by repeat (first | (with_reducible first | exact HB.out | apply bA | apply bN | apply bD | refine bS ?_ (by assumption)) | exact HB.out)) hb); clear BK432; clear BK433; clear HB; have HO436 := n0_; have BK432 := n1_; have BK433 := n2_; have HB := n3_; clear n0_ n1_ n2_ n3_; (try clear hb); (try clear hb2); (try clear hk); (try clear hi); (try clear ho0); obtain ⟨Ao15, co15, eo15⟩ := Kd.R_slice HO436.out; subst eo15; have hnb16 := NB433_432.out; have hnc16 := NB432_433.out; have hcz17_0 : w14.cell? ⟨gb433, 0, none⟩ = some (.slice none 0 0) := (blk_cell BK433.out 0).trans rfl; have hcz17_1 : w14.cell? ⟨gb433, 1, none⟩ = some (.int .i64 0) := (blk_cell BK433.out 1).trans rfl; have hfz17_0 := blk_frozen BK433.out 0; have hfz17_1 := blk_frozen BK433.out 1))
    refine bodyPost_ret (results_list (rs := [.tmp 6, .tmp 7, .cell 8 34]) rfl (by simp) (.tmp (.tmp (.cell gb433 34 #[.slice Ao15 t434.length co15, .int .i64 t437] (0, 0) _ rfl (by (with_reducible repeat (first | refine blk_drewN ?_ _ | refine blk_drew ?_ | refine blk_alloc ?_ _)); refine blk_put (cs := #[.slice Ao15 t434.length co15, .int .i64 0]) ?_ 1 _ rfl; (with_reducible repeat (first | refine blk_drewN ?_ _ | refine blk_drew ?_ | refine blk_alloc ?_ _)); refine blk_put (cs := #[.slice none 0 0, .int .i64 0]) ?_ 0 _ rfl; (with_reducible repeat (first | refine blk_drewN ?_ _ | refine blk_drew ?_ | refine blk_alloc ?_ _)); exact BK433.out) Tryd.underlying34 rfl (by kernel_rfl) .nil)))) rfl ?_
    exact ⟨_, by first | rfl | (simp [errW_none, errW_some] <;> rfl) | (simp [*, errW_none, errW_some] <;> rfl), uR (Kd.R_mono (Kd.R_far (p := ⟨gb433, 1, none⟩) (Kd.R_far (p := ⟨gb433, 0, none⟩) (Kd.R_types HO436.out BK433.out (by decide)) (fun _ hk => hk.2) (.slice Ao15 t434.length co15)) (fun _ hk => hk.2) (.int .i64 t437)) (fun _ hk => trivial)), by repeat (first | (with_reducible first | exact HB.out | apply bA | apply bN | apply bD | refine bS ?_ (by assumption)) | exact HB.out)⟩
   ·replace c12 := Bool.eq_false_iff.mpr c12
    subst c12
    have H1 : (furrowref14_Range.l0 kj3 l1 l2 0 l0_0 a0_1) = some (r1, r2, r3, r4) := by rw [if_neg (show ¬ (false = true) by decide)] at H; exact H
    clear H
    have H := H1
    clear H1
    have H' := mk0 H
    clear H
    go_wp2
    go_loopg [9] kj3 (fun kq v9 w' => ∃ (x9_2 : Int) (x434001_2 : Int), v9 = .int .i64 x9_2 ∧ Aside0 (furrowref14_Range.l0 kq l1 l2 x9_2 l0_0 a0_1 = some (r1, r2, r3, r4)) ∧ Aside0 (kq ≤ kj3) ∧ Aside0 (w'.heap[gb432]? = some (.cells #[(.slice A0_0 l0_0.length c0_0), .int .i64 a0_1] 31 (0, 0))) ∧ Aside0 (w'.heap[gb433]? = some (.cells #[(.slice none 0 0), .int .i64 x434001_2] 34 (0, 0))) ∧ Aside0 (Below w.heap.size w w'))
    case atStart => exact ⟨(0), (0), (by first | rfl | (simp; done) | (simp [*]; done) | (simp [bne_nil_, beq_nil_]; done)), H', ⟨Nat.le_refl _⟩, ⟨uB BK432.out⟩, ⟨uB BK433.out⟩, ⟨by repeat (first | (with_reducible first | exact HB.out | apply bA | apply bN | apply bD | refine bS ?_ (by assumption)) | exact HB.out)⟩⟩
    case round =>
     clear H'
     try clear c1
     try clear c2
     try clear p2
     try clear c7
     try clear c7b0
     try clear c7b1
     try clear c7b2
     try clear c8
     try clear c10
     try clear c12
     try clear c16
     try clear hcz11_0
     try clear hcz11_1
     try clear hcz17_0
     try clear hcz17_1
     try clear hcz9_0
     try clear hcz9_1
     try clear hfz11_0
     try clear hfz11_1
     try clear hfz17_0
     try clear hfz17_1
     try clear hfz9_0
     try clear hfz9_1
     try clear p2
     obtain ⟨x9_2, x434001_2, rfl, HA, HK2, BK432, BK433, HB⟩ := hrel
     cases gk with
     | zero => exact absurd HA.out (by simp [furrowref14_Range.l0])
     | succ k2 =>
      have H := HA.out
      clear HA
      simp only [furrowref14_Range.l0] at H
      by_cases c18 : x9_2 < (l1.length : Int)
      ·rw [if_pos c18] at H
       have c18b0 : decide (x9_2 < (l1.length : Int)) = true := decide_eq_true c18
       clear c18
       by_cases c19 : 0 ≤ x9_2
       ·rw [if_pos c19] at H
        have c19b0 : decide (0 ≤ x9_2) = true := decide_eq_true c19
        clear c19
        by_cases c20 : x9_2 < (l2.length : Int)
        ·rw [if_pos c20] at H
         have c20b0 : decide (x9_2 < (l2.length : Int)) = true := decide_eq_true c20
         clear c20
         by_cases c21 : (rd l1 x9_2) > (rd l2 x9_2)
         ·rw [if_pos c21] at H
          have c21b0 : decide ((rd l2 x9_2) < (rd l1 x9_2)) = true := decide_eq_true c21
          clear c21
          replace H := Option.bind_eq_some_iff.mp H
          obtain ⟨⟨t440, t443⟩, A220, H⟩ := H
          replace H : (some (0, 0, t440, t443)) = some (r1, r2, r3, r4) := H
          have A22 := mk0 A220
          clear A220
          simp only [Option.some.injEq, Prod.mk.injEq] at H
          obtain ⟨rfl, rfl, rfl, rfl⟩ := H
          have p438 : 0 ≤ (x9_2 : Int) := of_decide_eq_true (by first | (with_reducible assumption) | assumption)
          have q438 : x9_2 < (l1.length : Int) := of_decide_eq_true (by first | (with_reducible assumption) | assumption)
          obtain ⟨ad438, e438, hx438_0⟩ := Kd.at_int HR1.out x9_2 p438 q438
          cases e438
          replace hx438_0 := (HB.out.cell (World.block_lt_of_cell? w _ hx438_0)).trans hx438_0
          replace p438 := eq_true p438
          replace q438 := eq_true q438
          have p439 : 0 ≤ (x9_2 : Int) := of_decide_eq_true (by first | (with_reducible assumption) | assumption)
          have q439 : x9_2 < (l2.length : Int) := of_decide_eq_true (by first | (with_reducible assumption) | assumption)
          obtain ⟨ad439, e439, hx439_0⟩ := Kd.at_int HR2.out x9_2 p439 q439
          cases e439
          replace hx439_0 := (HB.out.cell (World.block_lt_of_cell? w _ hx439_0)).trans hx439_0
          replace p439 := eq_true p439
          replace q439 := eq_true q439
          go_wp2_with (first | (go_at_call 35; (with_reducible refine (furrowref14_unlike.calls  t440 t443 _ A22.out).mono ?_); rintro e w23 ⟨v441, rfl, ho0, hb⟩; have n0_ := mk0 (Kd.R_lower ho0 (below_size (by repeat (first | (with_reducible first | exact HB.out | apply bA | apply bN | apply bD | refine bS ?_ (by assumption)) | exact HB.out)))); have n1_ := mk0 (blk_below (g := gb432) (o := .cells #[.slice A0_0 l0_0.length c0_0, .int .i64 a0_1] 31 (0, 0)) (uB BK432.out) hb); have n2_ := mk0 (blk_below (g := gb433) (o := .cells #[.slice none 0 0, .int .i64 x434001_2] 34 (0, 0)) (uB BK433.out) hb); have n3_ := mk0 (below_step (by repeat (first | (with_reducible first | exact HB.out | apply bA | apply bN | apply bD | refine bS ?_ (by assumption)) | exact HB.out)) hb); clear BK432; clear BK433; clear HB; have HO442 := n0_; have BK432 := n1_; have BK433 := n2_; have HB := n3_; clear n0_ n1_ n2_ n3_; (try clear hb); (try clear hb2); (try clear hk); (try clear hi); (try clear ho0); obtain ⟨Ao24, co24, eo24⟩ := Kd.R_slice HO442.out; subst eo24; have hnb25 := NB433_432.out; have hnc25 := NB432_433.out; have hcz26_0 : w23.cell? ⟨gb433, 0, none⟩ = some (.slice none 0 0) := (blk_cell BK433.out 0).trans rfl; have hcz26_1 : w23.cell? ⟨gb433, 1, none⟩ = some (.int .i64 x434001_2) := (blk_cell BK433.out 1).trans rfl; have hfz26_0 := blk_frozen BK433.out 0; have hfz26_1 := blk_frozen BK433.out 1))
          repeat (go_quiet (first | (go_at_call 35; (with_reducible refine (furrowref14_unlike.calls  t440 t443 _ A22.out).mono ?_); rintro e w23 ⟨v441, rfl, ho0, hb⟩; have n0_ := mk0 (Kd.R_lower ho0 (below_size (by repeat (first | (with_reducible first | exact HB.out | apply bA | apply bN | apply bD | refine bS ?_ (by assumption)) | exact HB.out)))); have n1_ := mk0 (blk_below (g := gb432) (o := .cells #[.slice A0_0 l0_0.length c0_0, .int .i64 a0_1] 31 (0, 0)) (uB BK432.out) hb); have n2_ := mk0 (blk_below (g := gb433) (o := .cells #[.slice none 0 0, .int .i64 x434001_2] 34 (0, 0)) (uB BK433.out) hb); have n3_ := mk0 (below_step (by repeat (first | (with_reducible first | exact HB.out | apply bA | apply bN | apply bD | refine bS ?_ (by assumption)) | exact HB.out)) hb); clear BK432; clear BK433; clear HB; have HO442 := n0_; have BK432 := n1_; have BK433 := n2_; have HB := n3_; clear n0_ n1_ n2_ n3_; (try clear hb); (try clear hb2); (try clear hk); (try clear hi); (try clear ho0); obtain ⟨Ao24, co24, eo24⟩ := Kd.R_slice HO442.out; subst eo24; have hnb25 := NB433_432.out; have hnc25 := NB432_433.out; have hcz26_0 : w23.cell? ⟨gb433, 0, none⟩ = some (.slice none 0 0) := (blk_cell BK433.out 0).trans rfl; have hcz26_1 : w23.cell? ⟨gb433, 1, none⟩ = some (.int .i64 x434001_2) := (blk_cell BK433.out 1).trans rfl; have hfz26_0 := blk_frozen BK433.out 0; have hfz26_1 := blk_frozen BK433.out 1)); try go_wp2_with (first | (go_at_call 35; (with_reducible refine (furrowref14_unlike.calls  t440 t443 _ A22.out).mono ?_); rintro e w23 ⟨v441, rfl, ho0, hb⟩; have n0_ := mk0 (Kd.R_lower ho0 (below_size (by repeat (first | (with_reducible first | exact HB.out | apply bA | apply bN | apply bD | refine bS ?_ (by assumption)) | exact HB.out)))); have n1_ := mk0 (blk_below (g := gb432) (o := .cells #[.slice A0_0 l0_0.length c0_0, .int .i64 a0_1] 31 (0, 0)) (uB BK432.out) hb); have n2_ := mk0 (blk_below (g := gb433) (o := .cells #[.slice none 0 0, .int .i64 x434001_2] 34 (0, 0)) (uB BK433.out) hb); have n3_ := mk0 (below_step (by repeat (first | (with_reducible first | exact HB.out | apply bA | apply bN | apply bD | refine bS ?_ (by assumption)) | exact HB.out)) hb); clear BK432; clear BK433; clear HB; have HO442 := n0_; have BK432 := n1_; have BK433 := n2_; have HB := n3_; clear n0_ n1_ n2_ n3_; (try clear hb); (try clear hb2); (try clear hk); (try clear hi); (try clear ho0); obtain ⟨Ao24, co24, eo24⟩ := Kd.R_slice HO442.out; subst eo24; have hnb25 := NB433_432.out; have hnc25 := NB432_433.out; have hcz26_0 : w23.cell? ⟨gb433, 0, none⟩ = some (.slice none 0 0) := (blk_cell BK433.out 0).trans rfl; have hcz26_1 : w23.cell? ⟨gb433, 1, none⟩ = some (.int .i64 x434001_2) := (blk_cell BK433.out 1).trans rfl; have hfz26_0 := blk_frozen BK433.out 0; have hfz26_1 := blk_frozen BK433.out 1)))
          refine bodyPost_ret (results_list (rs := [.tmp 6, .tmp 7, .cell 8 34]) rfl (by simp) (.tmp (.tmp (.cell gb433 34 #[.slice Ao24 t440.length co24, .int .i64 t443] (0, 0) _ rfl (by (with_reducible repeat (first | refine blk_drewN ?_ _ | refine blk_drew ?_ | refine blk_alloc ?_ _)); refine blk_put (cs := #[.slice Ao24 t440.length co24, .int .i64 x434001_2]) ?_ 1 _ rfl; (with_reducible repeat (first | refine blk_drewN ?_ _ | refine blk_drew ?_ | refine blk_alloc ?_ _)); refine blk_put (cs := #[.slice none 0 0, .int .i64 x434001_2]) ?_ 0 _ rfl; (with_reducible repeat (first | refine blk_drewN ?_ _ | refine blk_drew ?_ | refine blk_alloc ?_ _)); exact BK433.out) Tryd.underlying34 rfl (by kernel_rfl) .nil)))) rfl ?_
          exact ⟨_, by first | rfl | (simp [errW_none, errW_some] <;> rfl) | (simp [*, errW_none, errW_some] <;> rfl), uR (Kd.R_mono (Kd.R_far (p := ⟨gb433, 1, none⟩) (Kd.R_far (p := ⟨gb433, 0, none⟩) (Kd.R_types HO442.out BK433.out (by decide)) (fun _ hk => hk.2) (.slice Ao24 t440.length co24)) (fun _ hk => hk.2) (.int .i64 t443)) (fun _ hk => trivial)), by repeat (first | (with_reducible first | exact HB.out | apply bA | apply bN | apply bD | refine bS ?_ (by assumption)) | exact HB.out)⟩
         ·rw [if_neg c21] at H
          have c21b0 : decide ((rd l2 x9_2) < (rd l1 x9_2)) = false := decide_eq_false c21
          clear c21
          have H' := mk0 H
          clear H
          have p438 : 0 ≤ (x9_2 : Int) := of_decide_eq_true (by first | (with_reducible assumption) | assumption)
          have q438 : x9_2 < (l1.length : Int) := of_decide_eq_true (by first | (with_reducible assumption) | assumption)
          obtain ⟨ad438, e438, hx438_0⟩ := Kd.at_int HR1.out x9_2 p438 q438
          cases e438
          replace hx438_0 := (HB.out.cell (World.block_lt_of_cell? w _ hx438_0)).trans hx438_0
          replace p438 := eq_true p438
          replace q438 := eq_true q438
          have p439 : 0 ≤ (x9_2 : Int) := of_decide_eq_true (by first | (with_reducible assumption) | assumption)
          have q439 : x9_2 < (l2.length : Int) := of_decide_eq_true (by first | (with_reducible assumption) | assumption)
          obtain ⟨ad439, e439, hx439_0⟩ := Kd.at_int HR2.out x9_2 p439 q439
          cases e439
          replace hx439_0 := (HB.out.cell (World.block_lt_of_cell? w _ hx439_0)).trans hx439_0
          replace p439 := eq_true p439
          replace q439 := eq_true q439
          go_wp2
          repeat (go_quiet (fail); try go_wp2)
          go_roundg k2
          case measure => have := HJ3.out; have := HK2.out; omega
          case rel => exact ⟨(wrap64 (x9_2 + 1)), (x434001_2), (by first | rfl | (simp; done) | (simp [*]; done) | (simp [bne_nil_, beq_nil_]; done)), H', ⟨by have := HJ3.out; have := HK2.out; omega⟩, ⟨uB BK432.out⟩, ⟨uB BK433.out⟩, ⟨by repeat (first | (with_reducible first | exact HB.out | apply bA | apply bN | apply bD | refine bS ?_ (by assumption)) | exact HB.out)⟩⟩
        ·rw [if_neg c20] at H
         exact absurd H (by simp)
       ·rw [if_neg c19] at H
        exact absurd H (by simp)
      ·rw [if_neg c18] at H
       have c18b0 : decide (x9_2 < (l1.length : Int)) = false := decide_eq_false c18
       clear c18
       have H' := mk0 H
       clear H
       go_wp2
       go_loopg [10, 11, 12] k2 (fun kq v10 v11 v12 w' => ∃ (x10_3 : List Int) (x11_3 : List Int) (x12_3 : Int), v12 = .int .i64 x12_3 ∧ Aside0 (furrowref14_Range.l1 kq l1 l2 x10_3 x11_3 x12_3 l0_0 a0_1 = some (r1, r2, r3, r4)) ∧ Aside0 (kq ≤ k2) ∧ Aside0 (Kd.R (Kd.int .i64) 2 w' w.heap.size (fun k_ => some k_ ≠ (v11 : Value).ownBlock) v10 x10_3) ∧ Aside0 (Kd.R (Kd.int .i64) 2 w' w.heap.size (fun k_ => some k_ ≠ (v10 : Value).ownBlock) v11 x11_3) ∧ Aside0 (w'.heap[gb432]? = some (.cells #[(.slice A0_0 l0_0.length c0_0), .int .i64 a0_1] 31 (0, 0))) ∧ Aside0 (w'.heap[gb433]? = some (.cells #[(.slice none 0 0), .int .i64 x434001_2] 34 (0, 0))) ∧ Aside0 (Below w.heap.size w w'))
       case atStart => exact ⟨(([] : List Int)), (([] : List Int)), (0), (by first | rfl | (simp; done) | (simp [*]; done) | (simp [bne_nil_, beq_nil_]; done)), H', ⟨Nat.le_refl _⟩, ⟨by first | exact Kd.R_nil _ _ _ _ _ | exact Kd.N_nil _ _ _ _ _ | exact Kd.V_nil _ _ _ _ _ | exact Kd.Q_nil _ _ _ _ _ | exact Kd.S_nil _ _ _ _ _⟩, ⟨by first | exact Kd.R_nil _ _ _ _ _ | exact Kd.N_nil _ _ _ _ _ | exact Kd.V_nil _ _ _ _ _ | exact Kd.Q_nil _ _ _ _ _ | exact Kd.S_nil _ _ _ _ _⟩, ⟨uB BK432.out⟩, ⟨uB BK433.out⟩, ⟨by repeat (first | (with_reducible first | exact HB.out | apply bA | apply bN | apply bD | refine bS ?_ (by assumption)) | exact HB.out)⟩⟩
       case round =>
        clear H'
        try clear c1
        try clear c2
        try clear p2
        try clear p4
        try clear q4
        try clear hx4
        try clear p6
        try clear c7
        try clear c7b0
        try clear c7b1
        try clear c7b2
        try clear c8
        try clear c10
        try clear c12
        try clear c16
        try clear c18
        try clear c18b0
        try clear c19
        try clear c19b0
        try clear c20
        try clear c20b0
        try clear c21
        try clear c21b0
        try clear c22
        try clear c25
        try clear hcz11_0
        try clear hcz11_1
        try clear hcz17_0
        try clear hcz17_1
        try clear hcz26_0
        try clear hcz26_1
        try clear hcz9_0
        try clear hcz9_1
        try clear hfz11_0
        try clear hfz11_1
        try clear hfz17_0
        try clear hfz17_1
        try clear hfz26_0
        try clear hfz26_1
        try clear hfz9_0
        try clear hfz9_1
        try clear hx438_0
        try clear hx439_0
        try clear p2
        try clear p438
        try clear p439
        try clear q438
        try clear q439
        obtain ⟨x10_3, x11_3, x12_3, rfl, HA, HK3, HO_10, HO_11, BK432, BK433, HB⟩ := hrel
        cases gk with
        | zero => exact absurd HA.out (by simp [furrowref14_Range.l1])
        | succ k3 =>
         have H := HA.out
         clear HA
         simp only [furrowref14_Range.l1] at H
         by_cases c27 : x12_3 < (l1.length : Int)
         ·rw [if_pos c27] at H
          have c27b0 : decide (x12_3 < (l1.length : Int)) = true := decide_eq_true c27
          clear c27
          by_cases c28 : 0 ≤ x12_3
          ·rw [if_pos c28] at H
           have c28b0 : decide (0 ≤ x12_3) = true := decide_eq_true c28
           clear c28
           by_cases c29 : x12_3 < (l2.length : Int)
           ·rw [if_pos c29] at H
            have c29b0 : decide (x12_3 < (l2.length : Int)) = true := decide_eq_true c29
            clear c29
            by_cases c30 : x12_3 < (l0_0.length : Int)
            ·rw [if_pos c30] at H
             have c30b0 : decide (x12_3 < (l0_0.length : Int)) = true := decide_eq_true c30
             clear c30
             by_cases c31 : (rd l0_0 x12_3) < 0
             ·rw [if_pos c31] at H
              have c31b0 : decide ((rd l0_0 x12_3) < 0) = true := decide_eq_true c31
              clear c31
              by_cases c32 : x10_3.length < 17592186044416
              ·rw [if_pos c32] at H
               have LMc32 := mk0 c32
               clear c32
               obtain ⟨y449, hy449⟩ : ∃ y_ : List Int, y_ = (x10_3 ++ [rd l2 x12_3]) := ⟨_, rfl⟩
               replace H : (if x11_3.length < 17592186044416 then (furrowref14_Range.l1 k3 l1 l2 y449 (x11_3 ++ [rd l1 x12_3]) (wrap64 (x12_3 + 1)) l0_0 a0_1) else (none)) = some (r1, r2, r3, r4) := by first | (rw [hy449]; with_reducible exact H) | (have H2_ := (Option.bind_some _ _).symm.trans H; rw [hy449]; with_reducible exact H2_) | (have H2_ := (Option.bind_some _ _).symm.trans H; with_reducible exact H2_) | with_reducible exact H | (rw [hy449]; exact H) | exact H
               have Ny449 := mk0 hy449
               clear hy449
               by_cases c33 : x11_3.length < 17592186044416
               ·rw [if_pos c33] at H
                have LMc33 := mk0 c33
                clear c33
                obtain ⟨y452, hy452⟩ : ∃ y_ : List Int, y_ = (x11_3 ++ [rd l1 x12_3]) := ⟨_, rfl⟩
                replace H : (furrowref14_Range.l1 k3 l1 l2 y449 y452 (wrap64 (x12_3 + 1)) l0_0 a0_1) = some (r1, r2, r3, r4) := by first | (rw [hy452]; with_reducible exact H) | (have H2_ := (Option.bind_some _ _).symm.trans H; rw [hy452]; with_reducible exact H2_) | (have H2_ := (Option.bind_some _ _).symm.trans H; with_reducible exact H2_) | with_reducible exact H | (rw [hy452]; exact H) | exact H
                have Ny452 := mk0 hy452
                clear hy452
                have H' := mk0 H
                clear H
                have p444 : 0 ≤ (x12_3 : Int) := of_decide_eq_true (by first | (with_reducible assumption) | assumption)
                have q444 : x12_3 < (l1.length : Int) := of_decide_eq_true (by first | (with_reducible assumption) | assumption)
                obtain ⟨ad444, e444, hx444_0⟩ := Kd.at_int HR1.out x12_3 p444 q444
                cases e444
                replace hx444_0 := (HB.out.cell (World.block_lt_of_cell? w _ hx444_0)).trans hx444_0
                replace p444 := eq_true p444
                replace q444 := eq_true q444
                have p445 : 0 ≤ (x12_3 : Int) := of_decide_eq_true (by first | (with_reducible assumption) | assumption)
                have q445 : x12_3 < (l2.length : Int) := of_decide_eq_true (by first | (with_reducible assumption) | assumption)
                obtain ⟨ad445, e445, hx445_0⟩ := Kd.at_int HR2.out x12_3 p445 q445
                cases e445
                replace hx445_0 := (HB.out.cell (World.block_lt_of_cell? w _ hx445_0)).trans hx445_0
                replace p445 := eq_true p445
                replace q445 := eq_true q445
                have hnb34 := NB432_433.out
                have hnc34 := NB433_432.out
                have hcz35_0 : wr.cell? ⟨gb432, 0, none⟩ = some (.slice A0_0 l0_0.length c0_0) := (blk_cell BK432.out 0).trans rfl
                have hcz35_1 : wr.cell? ⟨gb432, 1, none⟩ = some (.int .i64 a0_1) := (blk_cell BK432.out 1).trans rfl
                have hfz35_0 := blk_frozen BK432.out 0
                have hfz35_1 := blk_frozen BK432.out 1
                have p446 : 0 ≤ (x12_3 : Int) := of_decide_eq_true (by first | (with_reducible assumption) | assumption)
                have q446 : x12_3 < (l0_0.length : Int) := of_decide_eq_true (by first | (with_reducible assumption) | assumption)
                obtain ⟨ad446, e446, hx446_0⟩ := Kd.at_int HR0_0.out x12_3 p446 q446
                cases e446
                replace hx446_0 := (HB.out.cell (World.block_lt_of_cell? w _ hx446_0)).trans hx446_0
                replace p446 := eq_true p446
                replace q446 := eq_true q446
                have p447 : 0 ≤ (x12_3 : Int) := of_decide_eq_true (by first | (with_reducible assumption) | assumption)
                have q447 : x12_3 < (l2.length : Int) := of_decide_eq_true (by first | (with_reducible assumption) | assumption)
                obtain ⟨ad447, e447, hx447_0⟩ := Kd.at_int HR2.out x12_3 p447 q447
                obtain rfl : ad445 = ad447 := (by injection e447)
                replace hx447_0 := (HB.out.cell (World.block_lt_of_cell? w _ hx447_0)).trans hx447_0
                replace p447 := eq_true p447
                replace q447 := eq_true q447
                have p448 : 0 ≤ (x12_3 : Int) := of_decide_eq_true (by first | (with_reducible assumption) | assumption)
                have q448 : x12_3 < (l1.length : Int) := of_decide_eq_true (by first | (with_reducible assumption) | assumption)
                obtain ⟨ad448, e448, hx448_0⟩ := Kd.at_int HR1.out x12_3 p448 q448
                obtain rfl : ad444 = ad448 := (by injection e448)
                replace hx448_0 := (HB.out.cell (World.block_lt_of_cell? w _ hx448_0)).trans hx448_0
                replace p448 := eq_true p448
                replace q448 := eq_true q448
                go_wp2_with (first | ((with_reducible refine gate_builtin (b := .append) (xs := #[.tmp 77, .tmp 79]) rfl ?_); (try (refine gate_guard (by rfl) ?_; dsimp only)); at_builtin; refine Kd.R_append (Kd.int .i64) (w0 := w) w.heap.size rfl (.tmp 77) (.tmp 79) 22 2 (.int .i64 0) 8 rfl Tryd.underlying22 info2 rfl (by decide) (by omega) u10 x10_3 (rd l2 x12_3) [.int .i64 (rd l2 x12_3)] (fun k_ => some k_ ≠ (u11 : Value).ownBlock) (fun _ => False) rfl rfl ?aP (fun _ hk => hk.elim) ?aF ?aO ?aB ?aS ?aL ?_; (case aP => exact rfl); (case aB => exact (by repeat (first | (with_reducible first | exact HB.out | apply bA | apply bN | apply bD | refine bS ?_ (by assumption)) | exact HB.out))); (case aF => exact (fun k_ hk => Kd.fresh' (Kd.R_lt (uR HO_11.out)) k_ hk)); (case aO => exact (uR HO_10.out)); (case aS => exact (below_size (by repeat (first | (with_reducible first | exact HB.out | apply bA | apply bN | apply bD | refine bS ?_ (by assumption)) | exact HB.out)))); (case aL => have := LMc32.out; omega); intro v450 w36 ho hb hg hat; rw [← Ny449.out] at ho; have n0_ := mk0 (Kd.R_after (ok := (fun _ => True)) (uR (Kd.R_mono HO_11.out (fun _ hk => ⟨trivial, hk⟩))) hg hat); have n1_ := mk0 (blk_grown (g := gb432) (o := .cells #[.slice (some ad446) l0_0.length c0_0, .int .i64 a0_1] 31 (0, 0)) (uB BK432.out) hg (Kd.R_ne HO_10.out BK432.out (by decide))); have n2_ := mk0 (blk_grown (g := gb433) (o := .cells #[.slice none 0 0, .int .i64 x434001_2] 34 (0, 0)) (uB BK433.out) hg (Kd.R_ne HO_10.out BK433.out (by decide))); have n3_ := mk0 (hb); have n4_ := mk0 (ho); clear HO_11; clear BK432; clear BK433; clear HB; clear HO_10; have HO_11 := n0_; have BK432 := n1_; have BK433 := n2_; have HB := n3_; have HO451 := n4_; clear n0_ n1_ n2_ n3_ n4_; clear ho hb hg hat) | ((with_reducible refine gate_builtin (b := .append) (xs := #[.tmp 81, .tmp 83]) rfl ?_); (try (refine gate_guard (by rfl) ?_; dsimp only)); at_builtin; refine Kd.R_append (Kd.int .i64) (w0 := w) w.heap.size rfl (.tmp 81) (.tmp 83) 22 2 (.int .i64 0) 8 rfl Tryd.underlying22 info2 rfl (by decide) (by omega) u11 x11_3 (rd l1 x12_3) [.int .i64 (rd l1 x12_3)] (fun k_ => some k_ ≠ (v450 : Value).ownBlock) (fun _ => False) rfl rfl ?aP (fun _ hk => hk.elim) ?aF ?aO ?aB ?aS ?aL ?_; (case aP => exact rfl); (case aB => exact (by repeat (first | (with_reducible first | exact HB.out | apply bA | apply bN | apply bD | refine bS ?_ (by assumption)) | exact HB.out))); (case aF => exact (fun k_ hk => Kd.fresh' (Kd.R_lt (uR HO451.out)) k_ hk)); (case aO => exact (uR (Kd.R_mono HO_11.out (fun _ hk => hk.2)))); (case aS => exact (below_size (by repeat (first | (with_reducible first | exact HB.out | apply bA | apply bN | apply bD | refine bS ?_ (by assumption)) | exact HB.out)))); (case aL => have := LMc33.out; omega); intro v453 w37 ho hb hg hat; rw [← Ny452.out] at ho; have n0_ := mk0 (blk_grown (g := gb432) (o := .cells #[.slice (some ad446) l0_0.length c0_0, .int .i64 a0_1] 31 (0, 0)) (uB BK432.out) hg (Kd.R_ne HO_11.out BK432.out (by decide))); have n1_ := mk0 (blk_grown (g := gb433) (o := .cells #[.slice none 0 0, .int .i64 x434001_2] 34 (0, 0)) (uB BK433.out) hg (Kd.R_ne HO_11.out BK433.out (by decide))); have n2_ := mk0 (Kd.R_after (ok := (fun _ => True)) (uR (Kd.R_mono HO451.out (fun _ hk => ⟨trivial, hk⟩))) hg hat); have n3_ := mk0 (hb); have n4_ := mk0 (ho); clear BK432; clear BK433; clear HO451; clear HB; clear HO_11; have BK432 := n0_; have BK433 := n1_; have HO451 := n2_; have HB := n3_; have HO454 := n4_; clear n0_ n1_ n2_ n3_ n4_; clear ho hb hg hat))
                go_roundg k3
                case measure => have := HJ3.out; have := HK2.out; have := HK3.out; omega
                case rel => exact ⟨(y449), (y452), (wrap64 (x12_3 + 1)), (by first | rfl | (simp; done) | (simp [*]; done) | (simp [bne_nil_, beq_nil_]; done)), H', ⟨by have := HJ3.out; have := HK2.out; have := HK3.out; omega⟩, ⟨uR (Kd.R_mono HO451.out (fun _ hk => hk.2))⟩, ⟨uR HO454.out⟩, ⟨uB BK432.out⟩, ⟨uB BK433.out⟩, ⟨by repeat (first | (with_reducible first | exact HB.out | apply bA | apply bN | apply bD | refine bS ?_ (by assumption)) | exact HB.out)⟩⟩
               ·rw [if_neg c33] at H
                exact absurd H (by simp)
              ·rw [if_neg c32] at H
               exact absurd H (by simp)
             ·rw [if_neg c31] at H
              have c31b0 : decide ((rd l0_0 x12_3) < 0) = false := decide_eq_false c31
              clear c31
              by_cases c38 : x10_3.length < 17592186044416
              ·rw [if_pos c38] at H
               have LMc38 := mk0 c38
               clear c38
               obtain ⟨y455, hy455⟩ : ∃ y_ : List Int, y_ = (x10_3 ++ [rd l1 x12_3]) := ⟨_, rfl⟩
               replace H : (if x11_3.length < 17592186044416 then (furrowref14_Range.l1 k3 l1 l2 y455 (x11_3 ++ [rd l2 x12_3]) (wrap64 (x12_3 + 1)) l0_0 a0_1) else (none)) = some (r1, r2, r3, r4) := by first | (rw [hy455]; with_reducible exact H) | (have H2_ := (Option.bind_some _ _).symm.trans H; rw [hy455]; with_reducible exact H2_) | (have H2_ := (Option.bind_some _ _).symm.trans H; with_reducible exact H2_) | with_reducible exact H | (rw [hy455]; exact H) | exact H
               have Ny455 := mk0 hy455
               clear hy455
               by_cases c39 : x11_3.length < 17592186044416
               ·rw [if_pos c39] at H
                have LMc39 := mk0 c39
                clear c39
                obtain ⟨y458, hy458⟩ : ∃ y_ : List Int, y_ = (x11_3 ++ [rd l2 x12_3]) := ⟨_, rfl⟩
                replace H : (furrowref14_Range.l1 k3 l1 l2 y455 y458 (wrap64 (x12_3 + 1)) l0_0 a0_1) = some (r1, r2, r3, r4) := by first | (rw [hy458]; with_reducible exact H) | (have H2_ := (Option.bind_some _ _).symm.trans H; rw [hy458]; with_reducible exact H2_) | (have H2_ := (Option.bind_some _ _).symm.trans H; with_reducible exact H2_) | with_reducible exact H | (rw [hy458]; exact H) | exact H
                have Ny458 := mk0 hy458
                clear hy458
                have H' := mk0 H
                clear H
                have p444 : 0 ≤ (x12_3 : Int) := of_decide_eq_true (by first | (with_reducible assumption) | assumption)
                have q444 : x12_3 < (l1.length : Int) := of_decide_eq_true (by first | (with_reducible assumption) | assumption)
                obtain ⟨ad444, e444, hx444_0⟩ := Kd.at_int HR1.out x12_3 p444 q444
                cases e444
                replace hx444_0 := (HB.out.cell (World.block_lt_of_cell? w _ hx444_0)).trans hx444_0
                replace p444 := eq_true p444
                replace q444 := eq_true q444
                have p445 : 0 ≤ (x12_3 : Int) := of_decide_eq_true (by first | (with_reducible assumption) | assumption)
                have q445 : x12_3 < (l2.length : Int) := of_decide_eq_true (by first | (with_reducible assumption) | assumption)
                obtain ⟨ad445, e445, hx445_0⟩ := Kd.at_int HR2.out x12_3 p445 q445
                cases e445
                replace hx445_0 := (HB.out.cell (World.block_lt_of_cell? w _ hx445_0)).trans hx445_0
                replace p445 := eq_true p445
                replace q445 := eq_true q445
                have hnb40 := NB432_433.out
                have hnc40 := NB433_432.out
                have hcz41_0 : wr.cell? ⟨gb432, 0, none⟩ = some (.slice A0_0 l0_0.length c0_0) := (blk_cell BK432.out 0).trans rfl
                have hcz41_1 : wr.cell? ⟨gb432, 1, none⟩ = some (.int .i64 a0_1) := (blk_cell BK432.out 1).trans rfl
                have hfz41_0 := blk_frozen BK432.out 0
                have hfz41_1 := blk_frozen BK432.out 1
                have p446 : 0 ≤ (x12_3 : Int) := of_decide_eq_true (by first | (with_reducible assumption) | assumption)
                have q446 : x12_3 < (l0_0.length : Int) := of_decide_eq_true (by first | (with_reducible assumption) | assumption)
                obtain ⟨ad446, e446, hx446_0⟩ := Kd.at_int HR0_0.out x12_3 p446 q446
                cases e446
                replace hx446_0 := (HB.out.cell (World.block_lt_of_cell? w _ hx446_0)).trans hx446_0
                replace p446 := eq_true p446
                replace q446 := eq_true q446
                go_wp2_with (first | ((with_reducible refine gate_builtin (b := .append) (xs := #[.tmp 77, .tmp 79]) rfl ?_); (try (refine gate_guard (by rfl) ?_; dsimp only)); at_builtin; refine Kd.R_append (Kd.int .i64) (w0 := w) w.heap.size rfl (.tmp 77) (.tmp 79) 22 2 (.int .i64 0) 8 rfl Tryd.underlying22 info2 rfl (by decide) (by omega) u10 x10_3 (rd l1 x12_3) [.int .i64 (rd l1 x12_3)] (fun k_ => some k_ ≠ (u11 : Value).ownBlock) (fun _ => False) rfl rfl ?aP (fun _ hk => hk.elim) ?aF ?aO ?aB ?aS ?aL ?_; (case aP => exact rfl); (case aB => exact (by repeat (first | (with_reducible first | exact HB.out | apply bA | apply bN | apply bD | refine bS ?_ (by assumption)) | exact HB.out))); (case aF => exact (fun k_ hk => Kd.fresh' (Kd.R_lt (uR HO_11.out)) k_ hk)); (case aO => exact (uR HO_10.out)); (case aS => exact (below_size (by repeat (first | (with_reducible first | exact HB.out | apply bA | apply bN | apply bD | refine bS ?_ (by assumption)) | exact HB.out)))); (case aL => have := LMc38.out; omega); intro v456 w42 ho hb hg hat; rw [← Ny455.out] at ho; have n0_ := mk0 (Kd.R_after (ok := (fun _ => True)) (uR (Kd.R_mono HO_11.out (fun _ hk => ⟨trivial, hk⟩))) hg hat); have n1_ := mk0 (blk_grown (g := gb432) (o := .cells #[.slice (some ad446) l0_0.length c0_0, .int .i64 a0_1] 31 (0, 0)) (uB BK432.out) hg (Kd.R_ne HO_10.out BK432.out (by decide))); have n2_ := mk0 (blk_grown (g := gb433) (o := .cells #[.slice none 0 0, .int .i64 x434001_2] 34 (0, 0)) (uB BK433.out) hg (Kd.R_ne HO_10.out BK433.out (by decide))); have n3_ := mk0 (hb); have n4_ := mk0 (ho); clear HO_11; clear BK432; clear BK433; clear HB; clear HO_10; have HO_11 := n0_; have BK432 := n1_; have BK433 := n2_; have HB := n3_; have HO457 := n4_; clear n0_ n1_ n2_ n3_ n4_; clear ho hb hg hat) | ((with_reducible refine gate_builtin (b := .append) (xs := #[.tmp 81, .tmp 83]) rfl ?_); (try (refine gate_guard (by rfl) ?_; dsimp only)); at_builtin; refine Kd.R_append (Kd.int .i64) (w0 := w) w.heap.size rfl (.tmp 81) (.tmp 83) 22 2 (.int .i64 0) 8 rfl Tryd.underlying22 info2 rfl (by decide) (by omega) u11 x11_3 (rd l2 x12_3) [.int .i64 (rd l2 x12_3)] (fun k_ => some k_ ≠ (v456 : Value).ownBlock) (fun _ => False) rfl rfl ?aP (fun _ hk => hk.elim) ?aF ?aO ?aB ?aS ?aL ?_; (case aP => exact rfl); (case aB => exact (by repeat (first | (with_reducible first | exact HB.out | apply bA | apply bN | apply bD | refine bS ?_ (by assumption)) | exact HB.out))); (case aF => exact (fun k_ hk => Kd.fresh' (Kd.R_lt (uR HO457.out)) k_ hk)); (case aO => exact (uR (Kd.R_mono HO_11.out (fun _ hk => hk.2)))); (case aS => exact (below_size (by repeat (first | (with_reducible first | exact HB.out | apply bA | apply bN | apply bD | refine bS ?_ (by assumption)) | exact HB.out)))); (case aL => have := LMc39.out; omega); intro v459 w43 ho hb hg hat; rw [← Ny458.out] at ho; have n0_ := mk0 (blk_grown (g := gb432) (o := .cells #[.slice (some ad446) l0_0.length c0_0, .int .i64 a0_1] 31 (0, 0)) (uB BK432.out) hg (Kd.R_ne HO_11.out BK432.out (by decide))); have n1_ := mk0 (blk_grown (g := gb433) (o := .cells #[.slice none 0 0, .int .i64 x434001_2] 34 (0, 0)) (uB BK433.out) hg (Kd.R_ne HO_11.out BK433.out (by decide))); have n2_ := mk0 (Kd.R_after (ok := (fun _ => True)) (uR (Kd.R_mono HO457.out (fun _ hk => ⟨trivial, hk⟩))) hg hat); have n3_ := mk0 (hb); have n4_ := mk0 (ho); clear BK432; clear BK433; clear HO457; clear HB; clear HO_11; have BK432 := n0_; have BK433 := n1_; have HO457 := n2_; have HB := n3_; have HO460 := n4_; clear n0_ n1_ n2_ n3_ n4_; clear ho hb hg hat))
                go_roundg k3
                case measure => have := HJ3.out; have := HK2.out; have := HK3.out; omega
                case rel => exact ⟨(y455), (y458), (wrap64 (x12_3 + 1)), (by first | rfl | (simp; done) | (simp [*]; done) | (simp [bne_nil_, beq_nil_]; done)), H', ⟨by have := HJ3.out; have := HK2.out; have := HK3.out; omega⟩, ⟨uR (Kd.R_mono HO457.out (fun _ hk => hk.2))⟩, ⟨uR HO460.out⟩, ⟨uB BK432.out⟩, ⟨uB BK433.out⟩, ⟨by repeat (first | (with_reducible first | exact HB.out | apply bA | apply bN | apply bD | refine bS ?_ (by assumption)) | exact HB.out)⟩⟩
               ·rw [if_neg c39] at H
                exact absurd H (by simp)
              ·rw [if_neg c38] at H
               exact absurd H (by simp)
            ·rw [if_neg c30] at H
             exact absurd H (by simp)
           ·rw [if_neg c29] at H
            exact absurd H (by simp)
          ·rw [if_neg c28] at H
           exact absurd H (by simp)
         ·rw [if_neg c27] at H
          have c27b0 : decide (x12_3 < (l1.length : Int)) = false := decide_eq_false c27
          clear c27
          replace H := Option.bind_eq_some_iff.mp H
          obtain ⟨⟨t461, t462, t465⟩, A440, H⟩ := H
          replace H : ((furrowref14_At.f k3 l0_0 a0_1 x11_3).bind fun bt467 => (if t465 = 0 then (if bt467.2.2 = 0 then (some (t461, bt467.1, ([] : List (S86)), 0)) else ((furrowref14_over.f).bind fun bt473 => (some (0, 0, bt473.1, bt473.2)))) else ((furrowref14_over.f).bind fun bt477 => (some (0, 0, bt477.1, bt477.2))))) = some (r1, r2, r3, r4) := H
          have A44 := mk0 A440
          clear A440
          replace H := Option.bind_eq_some_iff.mp H
          obtain ⟨⟨t467, t468, t471⟩, A450, H⟩ := H
          replace H : (if t465 = 0 then (if t471 = 0 then (some (t461, t467, ([] : List (S86)), 0)) else ((furrowref14_over.f).bind fun bt473 => (some (0, 0, bt473.1, bt473.2)))) else ((furrowref14_over.f).bind fun bt477 => (some (0, 0, bt477.1, bt477.2)))) = some (r1, r2, r3, r4) := H
          have A45 := mk0 A450
          clear A450
          by_cases c46 : t465 = 0
          ·rw [if_pos c46] at H
           have c46b0 : (t465 == 0) = true := beq_iff_eq.mpr c46
           have c46b1 : (t465 != 0) = false := bne_eq_false_iff_eq.mpr c46
           clear c46
           by_cases c47 : t471 = 0
           ·rw [if_pos c47] at H
            have c47b0 : (t471 == 0) = true := beq_iff_eq.mpr c47
            have c47b1 : (t471 != 0) = false := bne_eq_false_iff_eq.mpr c47
            clear c47
            simp only [Option.some.injEq, Prod.mk.injEq] at H
            obtain ⟨rfl, rfl, rfl, rfl⟩ := H
            have hnb48 := NB432_433.out
            have hnc48 := NB433_432.out
            have hcz49_0 : wr.cell? ⟨gb432, 0, none⟩ = some (.slice A0_0 l0_0.length c0_0) := (blk_cell BK432.out 0).trans rfl
            have hcz49_1 : wr.cell? ⟨gb432, 1, none⟩ = some (.int .i64 a0_1) := (blk_cell BK432.out 1).trans rfl
            have hfz49_0 := blk_frozen BK432.out 0
            have hfz49_1 := blk_frozen BK432.out 1
            obtain ⟨Ao50, co50, eo50⟩ := Kd.R_slice HO_10.out
            subst eo50
            go_wp2_with (first | (go_at_call 20; (with_reducible refine (furrowref14_At.calls k3 _ _ l0_0 a0_1 _ _ x10_3 t461 t462 t465 _ ?side1 ?side2 ?side3 ?side4 A44.out).mono ?_); (case side1 => repeat (first | exact (Kd.C_below HR0_0.out HB.out) | (with_reducible refine Kd.C_alloc ?_ _) | (with_reducible refine Kd.C_drewN ?_ _) | (with_reducible refine Kd.C_drew ?_))); (case side2 => exact HC0_0.out); (case side3 => repeat (first | exact (Kd.R_reads' HO_10.out).2.2 | (with_reducible refine Kd.C_alloc ?_ _) | (with_reducible refine Kd.C_drewN ?_ _) | (with_reducible refine Kd.C_drew ?_))); (case side4 => exact (Kd.R_reads' HO_10.out).2.1); rintro e w51 ⟨v463, rfl, ho0, hb⟩; have n0_ := mk0 (Kd.R_below (uR HO_10.out) hb); have n1_ := mk0 (Kd.R_below (uR HO_11.out) hb); have n2_ := mk0 (Kd.R_lower ho0 (below_size (by repeat (first | (with_reducible first | exact HB.out | apply bA | apply bN | apply bD | refine bS ?_ (by assumption)) | exact HB.out)))); have n3_ := mk0 (blk_below (g := gb432) (o := .cells #[.slice A0_0 l0_0.length c0_0, .int .i64 a0_1] 31 (0, 0)) (uB BK432.out) hb); have n4_ := mk0 (blk_below (g := gb433) (o := .cells #[.slice none 0 0, .int .i64 x434001_2] 34 (0, 0)) (uB BK433.out) hb); have n5_ := mk0 (below_step (by repeat (first | (with_reducible first | exact HB.out | apply bA | apply bN | apply bD | refine bS ?_ (by assumption)) | exact HB.out)) hb); clear HO_10; clear HO_11; clear BK432; clear BK433; clear HB; have HO_10 := n0_; have HO_11 := n1_; have HO464 := n2_; have BK432 := n3_; have BK433 := n4_; have HB := n5_; clear n0_ n1_ n2_ n3_ n4_ n5_; (try clear hb); (try clear hb2); (try clear hk); (try clear hi); (try clear ho0)) | ((with_reducible refine gate_dst (N := 16) rfl ?_); (try (refine gate_guard (by rfl) ?_; dsimp only)); refine box_event ?hg (N := 16) ?hd (cs := #[.slice none 0 0, .int .i64 0]) (t := 34) ?hr ?_; (case hd => rfl); (case hg => rfl); (case hr => first | (go_simp; done) | (go_simp; rfl)); intro gb466 hg w52 hbox hb; have n0_ := mk0 (Kd.R_below (uR HO_10.out) hb); have n1_ := mk0 (Kd.R_below (uR HO_11.out) hb); have n2_ := mk0 (Kd.R_below (uR HO464.out) hb); have n3_ := mk0 (blk_below (g := gb432) (o := .cells #[.slice A0_0 l0_0.length c0_0, .int .i64 a0_1] 31 (0, 0)) (uB BK432.out) hb); have n4_ := mk0 (blk_below (g := gb433) (o := .cells #[.slice none 0 0, .int .i64 x434001_2] 34 (0, 0)) (uB BK433.out) hb); have n5_ := mk0 (below_step (by repeat (first | (with_reducible first | exact HB.out | apply bA | apply bN | apply bD | refine bS ?_ (by assumption)) | exact HB.out)) hb); have n6_ := mk0 (hbox); have n7_ := mk0 ((by rw [hg]; exact (below_size (by repeat (first | (with_reducible first | exact HB.out | apply bA | apply bN | apply bD | refine bS ?_ (by assumption)) | exact HB.out))) : w.heap.size ≤ gb466)); have n8_ := mk0 ((by rw [hg]; exact (below_size (by repeat (first | (with_reducible first | exact HB.out | apply bA | apply bN | apply bD | refine bS ?_ (by assumption)) | exact HB.out))) : w.heap.size ≤ gb466)); have n9_ := mk0 ((by rw [hg]; exact Nat.ne_of_lt (blk_lt (g := gb432) (o := .cells #[.slice A0_0 l0_0.length c0_0, .int .i64 a0_1] 31 (0, 0)) (uB BK432.out)) : gb432 ≠ gb466)); have n10_ := mk0 ((by rw [hg]; exact Nat.ne_of_gt (blk_lt (g := gb432) (o := .cells #[.slice A0_0 l0_0.length c0_0, .int .i64 a0_1] 31 (0, 0)) (uB BK432.out)) : gb466 ≠ gb432)); have n11_ := mk0 ((by rw [hg]; exact Nat.ne_of_lt (blk_lt (g := gb433) (o := .cells #[.slice none 0 0, .int .i64 x434001_2] 34 (0, 0)) (uB BK433.out)) : gb433 ≠ gb466)); have n12_ := mk0 ((by rw [hg]; exact Nat.ne_of_gt (blk_lt (g := gb433) (o := .cells #[.slice none 0 0, .int .i64 x434001_2] 34 (0, 0)) (uB BK433.out)) : gb466 ≠ gb433)); clear HO_10; clear HO_11; clear HO464; clear BK432; clear BK433; clear HB; have HO_10 := n0_; have HO_11 := n1_; have HO464 := n2_; have BK432 := n3_; have BK433 := n4_; have HB := n5_; have BK466 := n6_; have GW466 := n7_; have GE466 := n8_; have NB432_466 := n9_; have NB466_432 := n10_; have NB433_466 := n11_; have NB466_433 := n12_; clear n0_ n1_ n2_ n3_ n4_ n5_ n6_ n7_ n8_ n9_ n10_ n11_ n12_; clear hb hbox hg; obtain ⟨Ao53, co53, eo53⟩ := Kd.R_slice HO464.out; subst eo53; have hnb54 := NB466_432.out; have hnc54 := NB432_466.out; have hnb55 := NB466_433.out; have hnc55 := NB433_466.out; have hcz56_0 : w52.cell? ⟨gb466, 0, none⟩ = some (.slice none 0 0) := (blk_cell BK466.out 0).trans rfl; have hcz56_1 : w52.cell? ⟨gb466, 1, none⟩ = some (.int .i64 0) := (blk_cell BK466.out 1).trans rfl; have hfz56_0 := blk_frozen BK466.out 0; have hfz56_1 := blk_frozen BK466.out 1; have hcz57_0 : w52.cell? ⟨gb432, 0, none⟩ = some (.slice A0_0 l0_0.length c0_0) := (blk_cell BK432.out 0).trans rfl; have hcz57_1 : w52.cell? ⟨gb432, 1, none⟩ = some (.int .i64 a0_1) := (blk_cell BK432.out 1).trans rfl; have hfz57_0 := blk_frozen BK432.out 0; have hfz57_1 := blk_frozen BK432.out 1; obtain ⟨Ao58, co58, eo58⟩ := Kd.R_slice HO_11.out; subst eo58) | (go_at_call 20; (with_reducible refine (furrowref14_At.calls k3 _ _ l0_0 a0_1 _ _ x11_3 t467 t468 t471 _ ?side1 ?side2 ?side3 ?side4 A45.out).mono ?_); (case side1 => exact Kd.C_below HR0_0.out (by repeat (first | (with_reducible first | exact HB.out | apply bA | apply bN | apply bD | refine bS ?_ (by assumption)) | exact HB.out))); (case side2 => exact HC0_0.out); (case side3 => refine (Kd.R_reads' (e := 2) (base := w.heap.size) (ok := fun k_ => some k_ ≠ (.slice Ao50 x10_3.length co50 : Value).ownBlock) (n := x11_3.length) (c := co58) ?_).2.2; exact (uR (Kd.R_mono (Kd.R_far (p := ⟨gb466, 1, none⟩) (Kd.R_far (p := ⟨gb466, 0, none⟩) (Kd.R_types HO_11.out BK466.out (by decide)) (fun _ hk => hk.2) (.slice Ao53 t462.length co53)) (fun _ hk => hk.2) (.int .i64 t465)) (fun _ h_ => h_.1)))); (case side4 => exact (Kd.R_reads' HO_11.out).2.1); rintro e w59 ⟨v469, rfl, ho0, hb⟩; have n0_ := mk0 (Kd.R_below (uR (Kd.R_mono (Kd.R_far (p := ⟨gb466, 1, none⟩) (Kd.R_far (p := ⟨gb466, 0, none⟩) (Kd.R_types HO_10.out BK466.out (by decide)) (fun _ hk => hk.2) (.slice Ao53 t462.length co53)) (fun _ hk => hk.2) (.int .i64 t465)) (fun _ h_ => h_.1))) hb); have n1_ := mk0 (Kd.R_below (uR (Kd.R_mono (Kd.R_far (p := ⟨gb466, 1, none⟩) (Kd.R_far (p := ⟨gb466, 0, none⟩) (Kd.R_types HO_11.out BK466.out (by decide)) (fun _ hk => hk.2) (.slice Ao53 t462.length co53)) (fun _ hk => hk.2) (.int .i64 t465)) (fun _ h_ => h_.1))) hb); have n2_ := mk0 (Kd.R_elder' (uR (Kd.R_mono (Kd.R_far (p := ⟨gb466, 1, none⟩) (Kd.R_far (p := ⟨gb466, 0, none⟩) (Kd.R_types HO464.out BK466.out (by decide)) (fun _ hk => hk.2) (.slice Ao53 t462.length co53)) (fun _ hk => hk.2) (.int .i64 t465)) (fun _ h_ => h_.1))) (Kd.R_base ho0) hb); have n3_ := mk0 (Kd.R_lower (Kd.R_new' ho0 (Kd.R_lt (uR (Kd.R_mono (Kd.R_far (p := ⟨gb466, 1, none⟩) (Kd.R_far (p := ⟨gb466, 0, none⟩) (Kd.R_types HO464.out BK466.out (by decide)) (fun _ hk => hk.2) (.slice Ao53 t462.length co53)) (fun _ hk => hk.2) (.int .i64 t465)) (fun _ h_ => h_.1))))) (below_size (by repeat (first | (with_reducible first | exact HB.out | apply bA | apply bN | apply bD | refine bS ?_ (by assumption)) | exact HB.out)))); have n4_ := mk0 (blk_below (g := gb432) (o := .cells #[.slice A0_0 l0_0.length c0_0, .int .i64 a0_1] 31 (0, 0)) (by (with_reducible repeat (first | refine blk_drewN ?_ _ | refine blk_drew ?_ | refine blk_alloc ?_ _)); refine blk_far ?_ NB432_466.out _; (with_reducible repeat (first | refine blk_drewN ?_ _ | refine blk_drew ?_ | refine blk_alloc ?_ _)); refine blk_far ?_ NB432_466.out _; (with_reducible repeat (first | refine blk_drewN ?_ _ | refine blk_drew ?_ | refine blk_alloc ?_ _)); exact BK432.out) hb); have n5_ := mk0 (blk_below (g := gb433) (o := .cells #[.slice none 0 0, .int .i64 x434001_2] 34 (0, 0)) (by (with_reducible repeat (first | refine blk_drewN ?_ _ | refine blk_drew ?_ | refine blk_alloc ?_ _)); refine blk_far ?_ NB433_466.out _; (with_reducible repeat (first | refine blk_drewN ?_ _ | refine blk_drew ?_ | refine blk_alloc ?_ _)); refine blk_far ?_ NB433_466.out _; (with_reducible repeat (first | refine blk_drewN ?_ _ | refine blk_drew ?_ | refine blk_alloc ?_ _)); exact BK433.out) hb); have n6_ := mk0 (blk_below (g := gb466) (o := .cells #[.slice Ao53 t462.length co53, .int .i64 t465] 34 (0, 0)) (by (with_reducible repeat (first | refine blk_drewN ?_ _ | refine blk_drew ?_ | refine blk_alloc ?_ _)); refine blk_put (cs := #[.slice Ao53 t462.length co53, .int .i64 0]) ?_ 1 _ rfl; (with_reducible repeat (first | refine blk_drewN ?_ _ | refine blk_drew ?_ | refine blk_alloc ?_ _)); refine blk_put (cs := #[.slice none 0 0, .int .i64 0]) ?_ 0 _ rfl; (with_reducible repeat (first | refine blk_drewN ?_ _ | refine blk_drew ?_ | refine blk_alloc ?_ _)); exact BK466.out) hb); have n7_ := mk0 (below_step (by repeat (first | (with_reducible first | exact HB.out | apply bA | apply bN | apply bD | refine bS ?_ (by assumption)) | exact HB.out)) hb); clear HO_10; clear HO_11; clear HO464; clear BK432; clear BK433; clear BK466; clear HB; have HO_10 := n0_; have HO_11 := n1_; have HO464 := n2_; have HO470 := n3_; have BK432 := n4_; have BK433 := n5_; have BK466 := n6_; have HB := n7_; clear n0_ n1_ n2_ n3_ n4_ n5_ n6_ n7_; (try clear hb); (try clear hb2); (try clear hk); (try clear hi); (try clear ho0)) | ((with_reducible refine gate_dst (N := 18) rfl ?_); (try (refine gate_guard (by rfl) ?_; dsimp only)); refine box_event ?hg (N := 18) ?hd (cs := #[.slice none 0 0, .int .i64 0]) (t := 34) ?hr ?_; (case hd => rfl); (case hg => rfl); (case hr => first | (go_simp; done) | (go_simp; rfl)); intro gb472 hg w60 hbox hb; have n0_ := mk0 (Kd.R_below (uR HO_10.out) hb); have n1_ := mk0 (Kd.R_below (uR HO_11.out) hb); have n2_ := mk0 (Kd.R_below (uR HO464.out) hb); have n3_ := mk0 (Kd.R_below (uR HO470.out) hb); have n4_ := mk0 (blk_below (g := gb432) (o := .cells #[.slice A0_0 l0_0.length c0_0, .int .i64 a0_1] 31 (0, 0)) (uB BK432.out) hb); have n5_ := mk0 (blk_below (g := gb433) (o := .cells #[.slice none 0 0, .int .i64 x434001_2] 34 (0, 0)) (uB BK433.out) hb); have n6_ := mk0 (blk_below (g := gb466) (o := .cells #[.slice Ao53 t462.length co53, .int .i64 t465] 34 (0, 0)) (uB BK466.out) hb); have n7_ := mk0 (below_step (by repeat (first | (with_reducible first | exact HB.out | apply bA | apply bN | apply bD | refine bS ?_ (by assumption)) | exact HB.out)) hb); have n8_ := mk0 (hbox); have n9_ := mk0 ((by rw [hg]; exact (below_size (by repeat (first | (with_reducible first | exact HB.out | apply bA | apply bN | apply bD | refine bS ?_ (by assumption)) | exact HB.out))) : w.heap.size ≤ gb472)); have n10_ := mk0 ((by rw [hg]; exact (below_size (by repeat (first | (with_reducible first | exact HB.out | apply bA | apply bN | apply bD | refine bS ?_ (by assumption)) | exact HB.out))) : w.heap.size ≤ gb472)); have n11_ := mk0 ((by rw [hg]; exact Nat.ne_of_lt (blk_lt (g := gb432) (o := .cells #[.slice A0_0 l0_0.length c0_0, .int .i64 a0_1] 31 (0, 0)) (uB BK432.out)) : gb432 ≠ gb472)); have n12_ := mk0 ((by rw [hg]; exact Nat.ne_of_gt (blk_lt (g := gb432) (o := .cells #[.slice A0_0 l0_0.length c0_0, .int .i64 a0_1] 31 (0, 0)) (uB BK432.out)) : gb472 ≠ gb432)); have n13_ := mk0 ((by rw [hg]; exact Nat.ne_of_lt (blk_lt (g := gb433) (o := .cells #[.slice none 0 0, .int .i64 x434001_2] 34 (0, 0)) (uB BK433.out)) : gb433 ≠ gb472)); have n14_ := mk0 ((by rw [hg]; exact Nat.ne_of_gt (blk_lt (g := gb433) (o := .cells #[.slice none 0 0, .int .i64 x434001_2] 34 (0, 0)) (uB BK433.out)) : gb472 ≠ gb433)); have n15_ := mk0 ((by rw [hg]; exact Nat.ne_of_lt (blk_lt (g := gb466) (o := .cells #[.slice Ao53 t462.length co53, .int .i64 t465] 34 (0, 0)) (uB BK466.out)) : gb466 ≠ gb472)); have n16_ := mk0 ((by rw [hg]; exact Nat.ne_of_gt (blk_lt (g := gb466) (o := .cells #[.slice Ao53 t462.length co53, .int .i64 t465] 34 (0, 0)) (uB BK466.out)) : gb472 ≠ gb466)); clear HO_10; clear HO_11; clear HO464; clear HO470; clear BK432; clear BK433; clear BK466; clear HB; have HO_10 := n0_; have HO_11 := n1_; have HO464 := n2_; have HO470 := n3_; have BK432 := n4_; have BK433 := n5_; have BK466 := n6_; have HB := n7_; have BK472 := n8_; have GW472 := n9_; have GE472 := n10_; have NB432_472 := n11_; have NB472_432 := n12_; have NB433_472 := n13_; have NB472_433 := n14_; have NB466_472 := n15_; have NB472_466 := n16_; clear n0_ n1_ n2_ n3_ n4_ n5_ n6_ n7_ n8_ n9_ n10_ n11_ n12_ n13_ n14_ n15_ n16_; clear hb hbox hg; obtain ⟨Ao61, co61, eo61⟩ := Kd.R_slice HO470.out; subst eo61; have hnb62 := NB472_432.out; have hnc62 := NB432_472.out; have hnb63 := NB472_433.out; have hnc63 := NB433_472.out; have hnb64 := NB472_466.out; have hnc64 := NB466_472.out; have hcz65_0 : w60.cell? ⟨gb472, 0, none⟩ = some (.slice none 0 0) := (blk_cell BK472.out 0).trans rfl; have hcz65_1 : w60.cell? ⟨gb472, 1, none⟩ = some (.int .i64 0) := (blk_cell BK472.out 1).trans rfl; have hfz65_0 := blk_frozen BK472.out 0; have hfz65_1 := blk_frozen BK472.out 1; have hcz66_0 : w60.cell? ⟨gb466, 0, none⟩ = some (.slice Ao53 t462.length co53) := (blk_cell BK466.out 0).trans rfl; have hcz66_1 : w60.cell? ⟨gb466, 1, none⟩ = some (.int .i64 t465) := (blk_cell BK466.out 1).trans rfl; have hfz66_0 := blk_frozen BK466.out 0; have hfz66_1 := blk_frozen BK466.out 1; have hcz67_0 : w60.cell? ⟨gb433, 0, none⟩ = some (.slice none 0 0) := (blk_cell BK433.out 0).trans rfl; have hcz67_1 : w60.cell? ⟨gb433, 1, none⟩ = some (.int .i64 x434001_2) := (blk_cell BK433.out 1).trans rfl; have hfz67_0 := blk_frozen BK433.out 0; have hfz67_1 := blk_frozen BK433.out 1))
            refine bodyPost_ret (results_list (rs := [.tmp 6, .tmp 7, .cell 8 34]) rfl (by simp) (.tmp (.tmp (.cell gb433 34 #[.slice none 0 0, .int .i64 0] (0, 0) _ rfl (by (with_reducible repeat (first | refine blk_drewN ?_ _ | refine blk_drew ?_ | refine blk_alloc ?_ _)); refine blk_put (cs := #[.slice none 0 0, .int .i64 x434001_2]) ?_ 1 _ rfl; (with_reducible repeat (first | refine blk_drewN ?_ _ | refine blk_drew ?_ | refine blk_alloc ?_ _)); refine blk_put (cs := #[.slice none 0 0, .int .i64 x434001_2]) ?_ 0 _ rfl; (with_reducible repeat (first | refine blk_drewN ?_ _ | refine blk_drew ?_ | refine blk_alloc ?_ _)); refine blk_far ?_ NB433_472.out _; (with_reducible repeat (first | refine blk_drewN ?_ _ | refine blk_drew ?_ | refine blk_alloc ?_ _)); refine blk_far ?_ NB433_472.out _; (with_reducible repeat (first | refine blk_drewN ?_ _ | refine blk_drew ?_ | refine blk_alloc ?_ _)); exact BK433.out) Tryd.underlying34 rfl (by kernel_rfl) .nil)))) rfl ?_
            exact ⟨_, by first | rfl | (simp [errW_none, errW_some] <;> rfl) | (simp [*, errW_none, errW_some] <;> rfl), by first | exact Kd.R_nil _ _ _ _ _ | exact Kd.N_nil _ _ _ _ _ | exact Kd.V_nil _ _ _ _ _ | exact Kd.Q_nil _ _ _ _ _ | exact Kd.S_nil _ _ _ _ _, by repeat (first | (with_reducible first | exact HB.out | apply bA | apply bN | apply bD | refine bS ?_ (by assumption)) | exact HB.out)⟩
           ·rw [if_neg c47] at H
            have c47b0 : (t471 == 0) = false := beq_eq_false_iff_ne.mpr c47
            have c47b1 : (t471 != 0) = true := bne_iff_ne.mpr c47
            replace H := Option.bind_eq_some_iff.mp H
            obtain ⟨⟨t473, t476⟩, A680, H⟩ := H
            replace H : (some (0, 0, t473, t476)) = some (r1, r2, r3, r4) := H
            have A68 := mk0 A680
            clear A680
            simp only [Option.some.injEq, Prod.mk.injEq] at H
            obtain ⟨rfl, rfl, rfl, rfl⟩ := H
            have hnb69 := NB432_433.out
            have hnc69 := NB433_432.out
            have hcz70_0 : wr.cell? ⟨gb432, 0, none⟩ = some (.slice A0_0 l0_0.length c0_0) := (blk_cell BK432.out 0).trans rfl
            have hcz70_1 : wr.cell? ⟨gb432, 1, none⟩ = some (.int .i64 a0_1) := (blk_cell BK432.out 1).trans rfl
            have hfz70_0 := blk_frozen BK432.out 0
            have hfz70_1 := blk_frozen BK432.out 1
            obtain ⟨Ao71, co71, eo71⟩ := Kd.R_slice HO_10.out
            subst eo71
            go_wp2_with (first | (go_at_call 20; (with_reducible refine (furrowref14_At.calls k3 _ _ l0_0 a0_1 _ _ x10_3 t461 t462 t465 _ ?side1 ?side2 ?side3 ?side4 A44.out).mono ?_); (case side1 => repeat (first | exact (Kd.C_below HR0_0.out HB.out) | (with_reducible refine Kd.C_alloc ?_ _) | (with_reducible refine Kd.C_drewN ?_ _) | (with_reducible refine Kd.C_drew ?_))); (case side2 => exact HC0_0.out); (case side3 => repeat (first | exact (Kd.R_reads' HO_10.out).2.2 | (with_reducible refine Kd.C_alloc ?_ _) | (with_reducible refine Kd.C_drewN ?_ _) | (with_reducible refine Kd.C_drew ?_))); (case side4 => exact (Kd.R_reads' HO_10.out).2.1); rintro e w72 ⟨v463, rfl, ho0, hb⟩; have n0_ := mk0 (Kd.R_below (uR HO_10.out) hb); have n1_ := mk0 (Kd.R_below (uR HO_11.out) hb); have n2_ := mk0 (Kd.R_lower ho0 (below_size (by repeat (first | (with_reducible first | exact HB.out | apply bA | apply bN | apply bD | refine bS ?_ (by assumption)) | exact HB.out)))); have n3_ := mk0 (blk_below (g := gb432) (o := .cells #[.slice A0_0 l0_0.length c0_0, .int .i64 a0_1] 31 (0, 0)) (uB BK432.out) hb); have n4_ := mk0 (blk_below (g := gb433) (o := .cells #[.slice none 0 0, .int .i64 x434001_2] 34 (0, 0)) (uB BK433.out) hb); have n5_ := mk0 (below_step (by repeat (first | (with_reducible first | exact HB.out | apply bA | apply bN | apply bD | refine bS ?_ (by assumption)) | exact HB.out)) hb); clear HO_10; clear HO_11; clear BK432; clear BK433; clear HB; have HO_10 := n0_; have HO_11 := n1_; have HO464 := n2_; have BK432 := n3_; have BK433 := n4_; have HB := n5_; clear n0_ n1_ n2_ n3_ n4_ n5_; (try clear hb); (try clear hb2); (try clear hk); (try clear hi); (try clear ho0)) | ((with_reducible refine gate_dst (N := 16) rfl ?_); (try (refine gate_guard (by rfl) ?_; dsimp only)); refine box_event ?hg (N := 16) ?hd (cs := #[.slice none 0 0, .int .i64 0]) (t := 34) ?hr ?_; (case hd => rfl); (case hg => rfl); (case hr => first | (go_simp; done) | (go_simp; rfl)); intro gb466 hg w73 hbox hb; have n0_ := mk0 (Kd.R_below (uR HO_10.out) hb); have n1_ := mk0 (Kd.R_below (uR HO_11.out) hb); have n2_ := mk0 (Kd.R_below (uR HO464.out) hb); have n3_ := mk0 (blk_below (g := gb432) (o := .cells #[.slice A0_0 l0_0.length c0_0, .int .i64 a0_1] 31 (0, 0)) (uB BK432.out) hb); have n4_ := mk0 (blk_below (g := gb433) (o := .cells #[.slice none 0 0, .int .i64 x434001_2] 34 (0, 0)) (uB BK433.out) hb); have n5_ := mk0 (below_step (by repeat (first | (with_reducible first | exact HB.out | apply bA | apply bN | apply bD | refine bS ?_ (by assumption)) | exact HB.out)) hb); have n6_ := mk0 (hbox); have n7_ := mk0 ((by rw [hg]; exact (below_size (by repeat (first | (with_reducible first | exact HB.out | apply bA | apply bN | apply bD | refine bS ?_ (by assumption)) | exact HB.out))) : w.heap.size ≤ gb466)); have n8_ := mk0 ((by rw [hg]; exact (below_size (by repeat (first | (with_reducible first | exact HB.out | apply bA | apply bN | apply bD | refine bS ?_ (by assumption)) | exact HB.out))) : w.heap.size ≤ gb466)); have n9_ := mk0 ((by rw [hg]; exact Nat.ne_of_lt (blk_lt (g := gb432) (o := .cells #[.slice A0_0 l0_0.length c0_0, .int .i64 a0_1] 31 (0, 0)) (uB BK432.out)) : gb432 ≠ gb466)); have n10_ := mk0 ((by rw [hg]; exact Nat.ne_of_gt (blk_lt (g := gb432) (o := .cells #[.slice A0_0 l0_0.length c0_0, .int .i64 a0_1] 31 (0, 0)) (uB BK432.out)) : gb466 ≠ gb432)); have n11_ := mk0 ((by rw [hg]; exact Nat.ne_of_lt (blk_lt (g := gb433) (o := .cells #[.slice none 0 0, .int .i64 x434001_2] 34 (0, 0)) (uB BK433.out)) : gb433 ≠ gb466)); have n12_ := mk0 ((by rw [hg]; exact Nat.ne_of_gt (blk_lt (g := gb433) (o := .cells #[.slice none 0 0, .int .i64 x434001_2] 34 (0, 0)) (uB BK433.out)) : gb466 ≠ gb433)); clear HO_10; clear HO_11; clear HO464; clear BK432; clear BK433; clear HB; have HO_10 := n0_; have HO_11 := n1_; have HO464 := n2_; have BK432 := n3_; have BK433 := n4_; have HB := n5_; have BK466 := n6_; have GW466 := n7_; have GE466 := n8_; have NB432_466 := n9_; have NB466_432 := n10_; have NB433_466 := n11_; have NB466_433 := n12_; clear n0_ n1_ n2_ n3_ n4_ n5_ n6_ n7_ n8_ n9_ n10_ n11_ n12_; clear hb hbox hg; obtain ⟨Ao74, co74, eo74⟩ := Kd.R_slice HO464.out; subst eo74; have hnb75 := NB466_432.out; have hnc75 := NB432_466.out; have hnb76 := NB466_433.out; have hnc76 := NB433_466.out; have hcz77_0 : w73.cell? ⟨gb466, 0, none⟩ = some (.slice none 0 0) := (blk_cell BK466.out 0).trans rfl; have hcz77_1 : w73.cell? ⟨gb466, 1, none⟩ = some (.int .i64 0) := (blk_cell BK466.out 1).trans rfl; have hfz77_0 := blk_frozen BK466.out 0; have hfz77_1 := blk_frozen BK466.out 1; have hcz78_0 : w73.cell? ⟨gb432, 0, none⟩ = some (.slice A0_0 l0_0.length c0_0) := (blk_cell BK432.out 0).trans rfl; have hcz78_1 : w73.cell? ⟨gb432, 1, none⟩ = some (.int .i64 a0_1) := (blk_cell BK432.out 1).trans rfl; have hfz78_0 := blk_frozen BK432.out 0; have hfz78_1 := blk_frozen BK432.out 1; obtain ⟨Ao79, co79, eo79⟩ := Kd.R_slice HO_11.out; subst eo79) | (go_at_call 20; (with_reducible refine (furrowref14_At.calls k3 _ _ l0_0 a0_1 _ _ x11_3 t467 t468 t471 _ ?side1 ?side2 ?side3 ?side4 A45.out).mono ?_); (case side1 => exact Kd.C_below HR0_0.out (by repeat (first | (with_reducible first | exact HB.out | apply bA | apply bN | apply bD | refine bS ?_ (by assumption)) | exact HB.out))); (case side2 => exact HC0_0.out); (case side3 => refine (Kd.R_reads' (e := 2) (base := w.heap.size) (ok := fun k_ => some k_ ≠ (.slice Ao71 x10_3.length co71 : Value).ownBlock) (n := x11_3.length) (c := co79) ?_).2.2; exact (uR (Kd.R_mono (Kd.R_far (p := ⟨gb466, 1, none⟩) (Kd.R_far (p := ⟨gb466, 0, none⟩) (Kd.R_types HO_11.out BK466.out (by decide)) (fun _ hk => hk.2) (.slice Ao74 t462.length co74)) (fun _ hk => hk.2) (.int .i64 t465)) (fun _ h_ => h_.1)))); (case side4 => exact (Kd.R_reads' HO_11.out).2.1); rintro e w80 ⟨v469, rfl, ho0, hb⟩; have n0_ := mk0 (Kd.R_below (uR (Kd.R_mono (Kd.R_far (p := ⟨gb466, 1, none⟩) (Kd.R_far (p := ⟨gb466, 0, none⟩) (Kd.R_types HO_10.out BK466.out (by decide)) (fun _ hk => hk.2) (.slice Ao74 t462.length co74)) (fun _ hk => hk.2) (.int .i64 t465)) (fun _ h_ => h_.1))) hb); have n1_ := mk0 (Kd.R_below (uR (Kd.R_mono (Kd.R_far (p := ⟨gb466, 1, none⟩) (Kd.R_far (p := ⟨gb466, 0, none⟩) (Kd.R_types HO_11.out BK466.out (by decide)) (fun _ hk => hk.2) (.slice Ao74 t462.length co74)) (fun _ hk => hk.2) (.int .i64 t465)) (fun _ h_ => h_.1))) hb); have n2_ := mk0 (Kd.R_elder' (uR (Kd.R_mono (Kd.R_far (p := ⟨gb466, 1, none⟩) (Kd.R_far (p := ⟨gb466, 0, none⟩) (Kd.R_types HO464.out BK466.out (by decide)) (fun _ hk => hk.2) (.slice Ao74 t462.length co74)) (fun _ hk => hk.2) (.int .i64 t465)) (fun _ h_ => h_.1))) (Kd.R_base ho0) hb); have n3_ := mk0 (Kd.R_lower (Kd.R_new' ho0 (Kd.R_lt (uR (Kd.R_mono (Kd.R_far (p := ⟨gb466, 1, none⟩) (Kd.R_far (p := ⟨gb466, 0, none⟩) (Kd.R_types HO464.out BK466.out (by decide)) (fun _ hk => hk.2) (.slice Ao74 t462.length co74)) (fun _ hk => hk.2) (.int .i64 t465)) (fun _ h_ => h_.1))))) (below_size (by repeat (first | (with_reducible first | exact HB.out | apply bA | apply bN | apply bD | refine bS ?_ (by assumption)) | exact HB.out)))); have n4_ := mk0 (blk_below (g := gb432) (o := .cells #[.slice A0_0 l0_0.length c0_0, .int .i64 a0_1] 31 (0, 0)) (by (with_reducible repeat (first | refine blk_drewN ?_ _ | refine blk_drew ?_ | refine blk_alloc ?_ _)); refine blk_far ?_ NB432_466.out _; (with_reducible repeat (first | refine blk_drewN ?_ _ | refine blk_drew ?_ | refine blk_alloc ?_ _)); refine blk_far ?_ NB432_466.out _; (with_reducible repeat (first | refine blk_drewN ?_ _ | refine blk_drew ?_ | refine blk_alloc ?_ _)); exact BK432.out) hb); have n5_ := mk0 (blk_below (g := gb433) (o := .cells #[.slice none 0 0, .int .i64 x434001_2] 34 (0, 0)) (by (with_reducible repeat (first | refine blk_drewN ?_ _ | refine blk_drew ?_ | refine blk_alloc ?_ _)); refine blk_far ?_ NB433_466.out _; (with_reducible repeat (first | refine blk_drewN ?_ _ | refine blk_drew ?_ | refine blk_alloc ?_ _)); refine blk_far ?_ NB433_466.out _; (with_reducible repeat (first | refine blk_drewN ?_ _ | refine blk_drew ?_ | refine blk_alloc ?_ _)); exact BK433.out) hb); have n6_ := mk0 (blk_below (g := gb466) (o := .cells #[.slice Ao74 t462.length co74, .int .i64 t465] 34 (0, 0)) (by (with_reducible repeat (first | refine blk_drewN ?_ _ | refine blk_drew ?_ | refine blk_alloc ?_ _)); refine blk_put (cs := #[.slice Ao74 t462.length co74, .int .i64 0]) ?_ 1 _ rfl; (with_reducible repeat (first | refine blk_drewN ?_ _ | refine blk_drew ?_ | refine blk_alloc ?_ _)); refine blk_put (cs := #[.slice none 0 0, .int .i64 0]) ?_ 0 _ rfl; (with_reducible repeat (first | refine blk_drewN ?_ _ | refine blk_drew ?_ | refine blk_alloc ?_ _)); exact BK466.out) hb); have n7_ := mk0 (below_step (by repeat (first | (with_reducible first | exact HB.out | apply bA | apply bN | apply bD | refine bS ?_ (by assumption)) | exact HB.out)) hb); clear HO_10; clear HO_11; clear HO464; clear BK432; clear BK433; clear BK466; clear HB; have HO_10 := n0_; have HO_11 := n1_; have HO464 := n2_; have HO470 := n3_; have BK432 := n4_; have BK433 := n5_; have BK466 := n6_; have HB := n7_; clear n0_ n1_ n2_ n3_ n4_ n5_ n6_ n7_; (try clear hb); (try clear hb2); (try clear hk); (try clear hi); (try clear ho0)) | ((with_reducible refine gate_dst (N := 18) rfl ?_); (try (refine gate_guard (by rfl) ?_; dsimp only)); refine box_event ?hg (N := 18) ?hd (cs := #[.slice none 0 0, .int .i64 0]) (t := 34) ?hr ?_; (case hd => rfl); (case hg => rfl); (case hr => first | (go_simp; done) | (go_simp; rfl)); intro gb472 hg w81 hbox hb; have n0_ := mk0 (Kd.R_below (uR HO_10.out) hb); have n1_ := mk0 (Kd.R_below (uR HO_11.out) hb); have n2_ := mk0 (Kd.R_below (uR HO464.out) hb); have n3_ := mk0 (Kd.R_below (uR HO470.out) hb); have n4_ := mk0 (blk_below (g := gb432) (o := .cells #[.slice A0_0 l0_0.length c0_0, .int .i64 a0_1] 31 (0, 0)) (uB BK432.out) hb); have n5_ := mk0 (blk_below (g := gb433) (o := .cells #[.slice none 0 0, .int .i64 x434001_2] 34 (0, 0)) (uB BK433.out) hb); have n6_ := mk0 (blk_below (g := gb466) (o := .cells #[.slice Ao74 t462.length co74, .int .i64 t465] 34 (0, 0)) (uB BK466.out) hb); have n7_ := mk0 (below_step (by repeat (first | (with_reducible first | exact HB.out | apply bA | apply bN | apply bD | refine bS ?_ (by assumption)) | exact HB.out)) hb); have n8_ := mk0 (hbox); have n9_ := mk0 ((by rw [hg]; exact (below_size (by repeat (first | (with_reducible first | exact HB.out | apply bA | apply bN | apply bD | refine bS ?_ (by assumption)) | exact HB.out))) : w.heap.size ≤ gb472)); have n10_ := mk0 ((by rw [hg]; exact (below_size (by repeat (first | (with_reducible first | exact HB.out | apply bA | apply bN | apply bD | refine bS ?_ (by assumption)) | exact HB.out))) : w.heap.size ≤ gb472)); have n11_ := mk0 ((by rw [hg]; exact Nat.ne_of_lt (blk_lt (g := gb432) (o := .cells #[.slice A0_0 l0_0.length c0_0, .int .i64 a0_1] 31 (0, 0)) (uB BK432.out)) : gb432 ≠ gb472)); have n12_ := mk0 ((by rw [hg]; exact Nat.ne_of_gt (blk_lt (g := gb432) (o := .cells #[.slice A0_0 l0_0.length c0_0, .int .i64 a0_1] 31 (0, 0)) (uB BK432.out)) : gb472 ≠ gb432)); have n13_ := mk0 ((by rw [hg]; exact Nat.ne_of_lt (blk_lt (g := gb433) (o := .cells #[.slice none 0 0, .int .i64 x434001_2] 34 (0, 0)) (uB BK433.out)) : gb433 ≠ gb472)); have n14_ := mk0 ((by rw [hg]; exact Nat.ne_of_gt (blk_lt (g := gb433) (o := .cells #[.slice none 0 0, .int .i64 x434001_2] 34 (0, 0)) (uB BK433.out)) : gb472 ≠ gb433)); have n15_ := mk0 ((by rw [hg]; exact Nat.ne_of_lt (blk_lt (g := gb466) (o := .cells #[.slice Ao74 t462.length co74, .int .i64 t465] 34 (0, 0)) (uB BK466.out)) : gb466 ≠ gb472)); have n16_ := mk0 ((by rw [hg]; exact Nat.ne_of_gt (blk_lt (g := gb466) (o := .cells #[.slice Ao74 t462.length co74, .int .i64 t465] 34 (0, 0)) (uB BK466.out)) : gb472 ≠ gb466)); clear HO_10; clear HO_11; clear HO464; clear HO470; clear BK432; clear BK433; clear BK466; clear HB; have HO_10 := n0_; have HO_11 := n1_; have HO464 := n2_; have HO470 := n3_; have BK432 := n4_; have BK433 := n5_; have BK466 := n6_; have HB := n7_; have BK472 := n8_; have GW472 := n9_; have GE472 := n10_; have NB432_472 := n11_; have NB472_432 := n12_; have NB433_472 := n13_; have NB472_433 := n14_; have NB466_472 := n15_; have NB472_466 := n16_; clear n0_ n1_ n2_ n3_ n4_ n5_ n6_ n7_ n8_ n9_ n10_ n11_ n12_ n13_ n14_ n15_ n16_; clear hb hbox hg; obtain ⟨Ao82, co82, eo82⟩ := Kd.R_slice HO470.out; subst eo82; have hnb83 := NB472_432.out; have hnc83 := NB432_472.out; have hnb84 := NB472_433.out; have hnc84 := NB433_472.out; have hnb85 := NB472_466.out; have hnc85 := NB466_472.out; have hcz86_0 : w81.cell? ⟨gb472, 0, none⟩ = some (.slice none 0 0) := (blk_cell BK472.out 0).trans rfl; have hcz86_1 : w81.cell? ⟨gb472, 1, none⟩ = some (.int .i64 0) := (blk_cell BK472.out 1).trans rfl; have hfz86_0 := blk_frozen BK472.out 0; have hfz86_1 := blk_frozen BK472.out 1; have hcz87_0 : w81.cell? ⟨gb466, 0, none⟩ = some (.slice Ao74 t462.length co74) := (blk_cell BK466.out 0).trans rfl; have hcz87_1 : w81.cell? ⟨gb466, 1, none⟩ = some (.int .i64 t465) := (blk_cell BK466.out 1).trans rfl; have hfz87_0 := blk_frozen BK466.out 0; have hfz87_1 := blk_frozen BK466.out 1) | (go_at_call 37; (with_reducible refine (furrowref14_over.calls  t473 t476 _ A68.out).mono ?_); rintro e w88 ⟨v474, rfl, ho0, hb⟩; have n0_ := mk0 (Kd.R_below (uR (Kd.R_mono (Kd.R_far (p := ⟨gb472, 1, none⟩) (Kd.R_far (p := ⟨gb472, 0, none⟩) (Kd.R_types HO_10.out BK472.out (by decide)) (fun _ hk => hk.2) (.slice Ao82 t468.length co82)) (fun _ hk => hk.2) (.int .i64 t471)) (fun _ h_ => h_.1))) hb); have n1_ := mk0 (Kd.R_below (uR (Kd.R_mono (Kd.R_far (p := ⟨gb472, 1, none⟩) (Kd.R_far (p := ⟨gb472, 0, none⟩) (Kd.R_types HO_11.out BK472.out (by decide)) (fun _ hk => hk.2) (.slice Ao82 t468.length co82)) (fun _ hk => hk.2) (.int .i64 t471)) (fun _ h_ => h_.1))) hb); have n2_ := mk0 (Kd.R_elder' (uR (Kd.R_mono (Kd.R_far (p := ⟨gb472, 1, none⟩) (Kd.R_far (p := ⟨gb472, 0, none⟩) (Kd.R_types HO464.out BK472.out (by decide)) (fun _ hk => hk.2) (.slice Ao82 t468.length co82)) (fun _ hk => hk.2) (.int .i64 t471)) (fun _ h_ => h_.1))) (Kd.R_base ho0) hb); have n3_ := mk0 (Kd.R_elder' (uR (Kd.R_mono (Kd.R_far (p := ⟨gb472, 1, none⟩) (Kd.R_far (p := ⟨gb472, 0, none⟩) (Kd.R_types HO470.out BK472.out (by decide)) (fun _ hk => hk.2) (.slice Ao82 t468.length co82)) (fun _ hk => hk.2) (.int .i64 t471)) (fun _ h_ => h_.1))) (Kd.R_base ho0) hb); have n4_ := mk0 (Kd.R_lower (Kd.R_new' (Kd.R_new' ho0 (Kd.R_lt (uR (Kd.R_mono (Kd.R_far (p := ⟨gb472, 1, none⟩) (Kd.R_far (p := ⟨gb472, 0, none⟩) (Kd.R_types HO464.out BK472.out (by decide)) (fun _ hk => hk.2) (.slice Ao82 t468.length co82)) (fun _ hk => hk.2) (.int .i64 t471)) (fun _ h_ => h_.1))))) (Kd.R_lt (uR (Kd.R_mono (Kd.R_far (p := ⟨gb472, 1, none⟩) (Kd.R_far (p := ⟨gb472, 0, none⟩) (Kd.R_types HO470.out BK472.out (by decide)) (fun _ hk => hk.2) (.slice Ao82 t468.length co82)) (fun _ hk => hk.2) (.int .i64 t471)) (fun _ h_ => h_.1))))) (below_size (by repeat (first | (with_reducible first | exact HB.out | apply bA | apply bN | apply bD | refine bS ?_ (by assumption)) | exact HB.out)))); have n5_ := mk0 (blk_below (g := gb432) (o := .cells #[.slice A0_0 l0_0.length c0_0, .int .i64 a0_1] 31 (0, 0)) (by (with_reducible repeat (first | refine blk_drewN ?_ _ | refine blk_drew ?_ | refine blk_alloc ?_ _)); refine blk_far ?_ NB432_472.out _; (with_reducible repeat (first | refine blk_drewN ?_ _ | refine blk_drew ?_ | refine blk_alloc ?_ _)); refine blk_far ?_ NB432_472.out _; (with_reducible repeat (first | refine blk_drewN ?_ _ | refine blk_drew ?_ | refine blk_alloc ?_ _)); exact BK432.out) hb); have n6_ := mk0 (blk_below (g := gb433) (o := .cells #[.slice none 0 0, .int .i64 x434001_2] 34 (0, 0)) (by (with_reducible repeat (first | refine blk_drewN ?_ _ | refine blk_drew ?_ | refine blk_alloc ?_ _)); refine blk_far ?_ NB433_472.out _; (with_reducible repeat (first | refine blk_drewN ?_ _ | refine blk_drew ?_ | refine blk_alloc ?_ _)); refine blk_far ?_ NB433_472.out _; (with_reducible repeat (first | refine blk_drewN ?_ _ | refine blk_drew ?_ | refine blk_alloc ?_ _)); exact BK433.out) hb); have n7_ := mk0 (blk_below (g := gb466) (o := .cells #[.slice Ao74 t462.length co74, .int .i64 t465] 34 (0, 0)) (by (with_reducible repeat (first | refine blk_drewN ?_ _ | refine blk_drew ?_ | refine blk_alloc ?_ _)); refine blk_far ?_ NB466_472.out _; (with_reducible repeat (first | refine blk_drewN ?_ _ | refine blk_drew ?_ | refine blk_alloc ?_ _)); refine blk_far ?_ NB466_472.out _; (with_reducible repeat (first | refine blk_drewN ?_ _ | refine blk_drew ?_ | refine blk_alloc ?_ _)); exact BK466.out) hb); have n8_ := mk0 (blk_below (g := gb472) (o := .cells #[.slice Ao82 t468.length co82, .int .i64 t471] 34 (0, 0)) (by (with_reducible repeat (first | refine blk_drewN ?_ _ | refine blk_drew ?_ | refine blk_alloc ?_ _)); refine blk_put (cs := #[.slice Ao82 t468.length co82, .int .i64 0]) ?_ 1 _ rfl; (with_reducible repeat (first | refine blk_drewN ?_ _ | refine blk_drew ?_ | refine blk_alloc ?_ _)); refine blk_put (cs := #[.slice none 0 0, .int .i64 0]) ?_ 0 _ rfl; (with_reducible repeat (first | refine blk_drewN ?_ _ | refine blk_drew ?_ | refine blk_alloc ?_ _)); exact BK472.out) hb); have n9_ := mk0 (below_step (by repeat (first | (with_reducible first | exact HB.out | apply bA | apply bN | apply bD | refine bS ?_ (by assumption)) | exact HB.out)) hb); clear HO_10; clear HO_11; clear HO464; clear HO470; clear BK432; clear BK433; clear BK466; clear BK472; clear HB; have HO_10 := n0_; have HO_11 := n1_; have HO464 := n2_; have HO470 := n3_; have HO475 := n4_; have BK432 := n5_; have BK433 := n6_; have BK466 := n7_; have BK472 := n8_; have HB := n9_; clear n0_ n1_ n2_ n3_ n4_ n5_ n6_ n7_ n8_ n9_; (try clear hb); (try clear hb2); (try clear hk); (try clear hi); (try clear ho0); obtain ⟨Ao89, co89, eo89⟩ := Kd.R_slice HO475.out; subst eo89; have hcz90_0 : w88.cell? ⟨gb433, 0, none⟩ = some (.slice none 0 0) := (blk_cell BK433.out 0).trans rfl; have hcz90_1 : w88.cell? ⟨gb433, 1, none⟩ = some (.int .i64 x434001_2) := (blk_cell BK433.out 1).trans rfl; have hfz90_0 := blk_frozen BK433.out 0; have hfz90_1 := blk_frozen BK433.out 1))
            refine bodyPost_ret (results_list (rs := [.tmp 6, .tmp 7, .cell 8 34]) rfl (by simp) (.tmp (.tmp (.cell gb433 34 #[.slice Ao89 t473.length co89, .int .i64 t476] (0, 0) _ rfl (by (with_reducible repeat (first | refine blk_drewN ?_ _ | refine blk_drew ?_ | refine blk_alloc ?_ _)); refine blk_put (cs := #[.slice Ao89 t473.length co89, .int .i64 x434001_2]) ?_ 1 _ rfl; (with_reducible repeat (first | refine blk_drewN ?_ _ | refine blk_drew ?_ | refine blk_alloc ?_ _)); refine blk_put (cs := #[.slice none 0 0, .int .i64 x434001_2]) ?_ 0 _ rfl; (with_reducible repeat (first | refine blk_drewN ?_ _ | refine blk_drew ?_ | refine blk_alloc ?_ _)); exact BK433.out) Tryd.underlying34 rfl (by kernel_rfl) .nil)))) rfl ?_
            exact ⟨_, by first | rfl | (simp [errW_none, errW_some] <;> rfl) | (simp [*, errW_none, errW_some] <;> rfl), uR (Kd.R_mono (Kd.R_far (p := ⟨gb433, 1, none⟩) (Kd.R_far (p := ⟨gb433, 0, none⟩) (Kd.R_types HO475.out BK433.out (by decide)) (fun _ hk => hk.2) (.slice Ao89 t473.length co89)) (fun _ hk => hk.2) (.int .i64 t476)) (fun _ hk => trivial)), by repeat (first | (with_reducible first | exact HB.out | apply bA | apply bN | apply bD | refine bS ?_ (by assumption)) | exact HB.out)⟩
          ·rw [if_neg c46] at H
           have c46b0 : (t465 == 0) = false := beq_eq_false_iff_ne.mpr c46
           have c46b1 : (t465 != 0) = true := bne_iff_ne.mpr c46
           replace H := Option.bind_eq_some_iff.mp H
           obtain ⟨⟨t477, t480⟩, A910, H⟩ := H
           replace H : (some (0, 0, t477, t480)) = some (r1, r2, r3, r4) := H
           have A91 := mk0 A910
           clear A910
           simp only [Option.some.injEq, Prod.mk.injEq] at H
           obtain ⟨rfl, rfl, rfl, rfl⟩ := H
           have hnb92 := NB432_433.out
           have hnc92 := NB433_432.out
           have hcz93_0 : wr.cell? ⟨gb432, 0, none⟩ = some (.slice A0_0 l0_0.length c0_0) := (blk_cell BK432.out 0).trans rfl
           have hcz93_1 : wr.cell? ⟨gb432, 1, none⟩ = some (.int .i64 a0_1) := (blk_cell BK432.out 1).trans rfl
           have hfz93_0 := blk_frozen BK432.out 0
           have hfz93_1 := blk_frozen BK432.out 1
           obtain ⟨Ao94, co94, eo94⟩ := Kd.R_slice HO_10.out
           subst eo94
           go_wp2_with (first | (go_at_call 20; (with_reducible refine (furrowref14_At.calls k3 _ _ l0_0 a0_1 _ _ x10_3 t461 t462 t465 _ ?side1 ?side2 ?side3 ?side4 A44.out).mono ?_); (case side1 => repeat (first | exact (Kd.C_below HR0_0.out HB.out) | (with_reducible refine Kd.C_alloc ?_ _) | (with_reducible refine Kd.C_drewN ?_ _) | (with_reducible refine Kd.C_drew ?_))); (case side2 => exact HC0_0.out); (case side3 => repeat (first | exact (Kd.R_reads' HO_10.out).2.2 | (with_reducible refine Kd.C_alloc ?_ _) | (with_reducible refine Kd.C_drewN ?_ _) | (with_reducible refine Kd.C_drew ?_))); (case side4 => exact (Kd.R_reads' HO_10.out).2.1); rintro e w95 ⟨v463, rfl, ho0, hb⟩; have n0_ := mk0 (Kd.R_below (uR HO_10.out) hb); have n1_ := mk0 (Kd.R_below (uR HO_11.out) hb); have n2_ := mk0 (Kd.R_lower ho0 (below_size (by repeat (first | (with_reducible first | exact HB.out | apply bA | apply bN | apply bD | refine bS ?_ (by assumption)) | exact HB.out)))); have n3_ := mk0 (blk_below (g := gb432) (o := .cells #[.slice A0_0 l0_0.length c0_0, .int .i64 a0_1] 31 (0, 0)) (uB BK432.out) hb); have n4_ := mk0 (blk_below (g := gb433) (o := .cells #[.slice none 0 0, .int .i64 x434001_2] 34 (0, 0)) (uB BK433.out) hb); have n5_ := mk0 (below_step (by repeat (first | (with_reducible first | exact HB.out | apply bA | apply bN | apply bD | refine bS ?_ (by assumption)) | exact HB.out)) hb); clear HO_10; clear HO_11; clear BK432; clear BK433; clear HB; have HO_10 := n0_; have HO_11 := n1_; have HO464 := n2_; have BK432 := n3_; have BK433 := n4_; have HB := n5_; clear n0_ n1_ n2_ n3_ n4_ n5_; (try clear hb); (try clear hb2); (try clear hk); (try clear hi); (try clear ho0)) | ((with_reducible refine gate_dst (N := 16) rfl ?_); (try (refine gate_guard (by rfl) ?_; dsimp only)); refine box_event ?hg (N := 16) ?hd (cs := #[.slice none 0 0, .int .i64 0]) (t := 34) ?hr ?_; (case hd => rfl); (case hg => rfl); (case hr => first | (go_simp; done) | (go_simp; rfl)); intro gb466 hg w96 hbox hb; have n0_ := mk0 (Kd.R_below (uR HO_10.out) hb); have n1_ := mk0 (Kd.R_below (uR HO_11.out) hb); have n2_ := mk0 (Kd.R_below (uR HO464.out) hb); have n3_ := mk0 (blk_below (g := gb432) (o := .cells #[.slice A0_0 l0_0.length c0_0, .int .i64 a0_1] 31 (0, 0)) (uB BK432.out) hb); have n4_ := mk0 (blk_below (g := gb433) (o := .cells #[.slice none 0 0, .int .i64 x434001_2] 34 (0, 0)) (uB BK433.out) hb); have n5_ := mk0 (below_step (by repeat (first | (with_reducible first | exact HB.out | apply bA | apply bN | apply bD | refine bS ?_ (by assumption)) | exact HB.out)) hb); have n6_ := mk0 (hbox); have n7_ := mk0 ((by rw [hg]; exact (below_size (by repeat (first | (with_reducible first | exact HB.out | apply bA | apply bN | apply bD | refine bS ?_ (by assumption)) | exact HB.out))) : w.heap.size ≤ gb466)); have n8_ := mk0 ((by rw [hg]; exact (below_size (by repeat (first | (with_reducible first | exact HB.out | apply bA | apply bN | apply bD | refine bS ?_ (by assumption)) | exact HB.out))) : w.heap.size ≤ gb466)); have n9_ := mk0 ((by rw [hg]; exact Nat.ne_of_lt (blk_lt (g := gb432) (o := .cells #[.slice A0_0 l0_0.length c0_0, .int .i64 a0_1] 31 (0, 0)) (uB BK432.out)) : gb432 ≠ gb466)); have n10_ := mk0 ((by rw [hg]; exact Nat.ne_of_gt (blk_lt (g := gb432) (o := .cells #[.slice A0_0 l0_0.length c0_0, .int .i64 a0_1] 31 (0, 0)) (uB BK432.out)) : gb466 ≠ gb432)); have n11_ := mk0 ((by rw [hg]; exact Nat.ne_of_lt (blk_lt (g := gb433) (o := .cells #[.slice none 0 0, .int .i64 x434001_2] 34 (0, 0)) (uB BK433.out)) : gb433 ≠ gb466)); have n12_ := mk0 ((by rw [hg]; exact Nat.ne_of_gt (blk_lt (g := gb433) (o := .cells #[.slice none 0 0, .int .i64 x434001_2] 34 (0, 0)) (uB BK433.out)) : gb466 ≠ gb433)); clear HO_10; clear HO_11; clear HO464; clear BK432; clear BK433; clear HB; have HO_10 := n0_; have HO_11 := n1_; have HO464 := n2_; have BK432 := n3_; have BK433 := n4_; have HB := n5_; have BK466 := n6_; have GW466 := n7_; have GE466 := n8_; have NB432_466 := n9_; have NB466_432 := n10_; have NB433_466 := n11_; have NB466_433 := n12_; clear n0_ n1_ n2_ n3_ n4_ n5_ n6_ n7_ n8_ n9_ n10_ n11_ n12_; clear hb hbox hg; obtain ⟨Ao97, co97, eo97⟩ := Kd.R_slice HO464.out; subst eo97; have hnb98 := NB466_432.out; have hnc98 := NB432_466.out; have hnb99 := NB466_433.out; have hnc99 := NB433_466.out; have hcz100_0 : w96.cell? ⟨gb466, 0, none⟩ = some (.slice none 0 0) := (blk_cell BK466.out 0).trans rfl; have hcz100_1 : w96.cell? ⟨gb466, 1, none⟩ = some (.int .i64 0) := (blk_cell BK466.out 1).trans rfl; have hfz100_0 := blk_frozen BK466.out 0; have hfz100_1 := blk_frozen BK466.out 1; have hcz101_0 : w96.cell? ⟨gb432, 0, none⟩ = some (.slice A0_0 l0_0.length c0_0) := (blk_cell BK432.out 0).trans rfl; have hcz101_1 : w96.cell? ⟨gb432, 1, none⟩ = some (.int .i64 a0_1) := (blk_cell BK432.out 1).trans rfl; have hfz101_0 := blk_frozen BK432.out 0; have hfz101_1 := blk_frozen BK432.out 1; obtain ⟨Ao102, co102, eo102⟩ := Kd.R_slice HO_11.out; subst eo102) | (go_at_call 20; (with_reducible refine (furrowref14_At.calls k3 _ _ l0_0 a0_1 _ _ x11_3 t467 t468 t471 _ ?side1 ?side2 ?side3 ?side4 A45.out).mono ?_); (case side1 => exact Kd.C_below HR0_0.out (by repeat (first | (with_reducible first | exact HB.out | apply bA | apply bN | apply bD | refine bS ?_ (by assumption)) | exact HB.out))); (case side2 => exact HC0_0.out); (case side3 => refine (Kd.R_reads' (e := 2) (base := w.heap.size) (ok := fun k_ => some k_ ≠ (.slice Ao94 x10_3.length co94 : Value).ownBlock) (n := x11_3.length) (c := co102) ?_).2.2; exact (uR (Kd.R_mono (Kd.R_far (p := ⟨gb466, 1, none⟩) (Kd.R_far (p := ⟨gb466, 0, none⟩) (Kd.R_types HO_11.out BK466.out (by decide)) (fun _ hk => hk.2) (.slice Ao97 t462.length co97)) (fun _ hk => hk.2) (.int .i64 t465)) (fun _ h_ => h_.1)))); (case side4 => exact (Kd.R_reads' HO_11.out).2.1); rintro e w103 ⟨v469, rfl, ho0, hb⟩; have n0_ := mk0 (Kd.R_below (uR (Kd.R_mono (Kd.R_far (p := ⟨gb466, 1, none⟩) (Kd.R_far (p := ⟨gb466, 0, none⟩) (Kd.R_types HO_10.out BK466.out (by decide)) (fun _ hk => hk.2) (.slice Ao97 t462.length co97)) (fun _ hk => hk.2) (.int .i64 t465)) (fun _ h_ => h_.1))) hb); have n1_ := mk0 (Kd.R_below (uR (Kd.R_mono (Kd.R_far (p := ⟨gb466, 1, none⟩) (Kd.R_far (p := ⟨gb466, 0, none⟩) (Kd.R_types HO_11.out BK466.out (by decide)) (fun _ hk => hk.2) (.slice Ao97 t462.length co97)) (fun _ hk => hk.2) (.int .i64 t465)) (fun _ h_ => h_.1))) hb); have n2_ := mk0 (Kd.R_elder' (uR (Kd.R_mono (Kd.R_far (p := ⟨gb466, 1, none⟩) (Kd.R_far (p := ⟨gb466, 0, none⟩) (Kd.R_types HO464.out BK466.out (by decide)) (fun _ hk => hk.2) (.slice Ao97 t462.length co97)) (fun _ hk => hk.2) (.int .i64 t465)) (fun _ h_ => h_.1))) (Kd.R_base ho0) hb); have n3_ := mk0 (Kd.R_lower (Kd.R_new' ho0 (Kd.R_lt (uR (Kd.R_mono (Kd.R_far (p := ⟨gb466, 1, none⟩) (Kd.R_far (p := ⟨gb466, 0, none⟩) (Kd.R_types HO464.out BK466.out (by decide)) (fun _ hk => hk.2) (.slice Ao97 t462.length co97)) (fun _ hk => hk.2) (.int .i64 t465)) (fun _ h_ => h_.1))))) (below_size (by repeat (first | (with_reducible first | exact HB.out | apply bA | apply bN | apply bD | refine bS ?_ (by assumption)) | exact HB.out)))); have n4_ := mk0 (blk_below (g := gb432) (o := .cells #[.slice A0_0 l0_0.length c0_0, .int .i64 a0_1] 31 (0, 0)) (by (with_reducible repeat (first | refine blk_drewN ?_ _ | refine blk_drew ?_ | refine blk_alloc ?_ _)); refine blk_far ?_ NB432_466.out _; (with_reducible repeat (first | refine blk_drewN ?_ _ | refine blk_drew ?_ | refine blk_alloc ?_ _)); refine blk_far ?_ NB432_466.out _; (with_reducible repeat (first | refine blk_drewN ?_ _ | refine blk_drew ?_ | refine blk_alloc ?_ _)); exact BK432.out) hb); have n5_ := mk0 (blk_below (g := gb433) (o := .cells #[.slice none 0 0, .int .i64 x434001_2] 34 (0, 0)) (by (with_reducible repeat (first | refine blk_drewN ?_ _ | refine blk_drew ?_ | refine blk_alloc ?_ _)); refine blk_far ?_ NB433_466.out _; (with_reducible repeat (first | refine blk_drewN ?_ _ | refine blk_drew ?_ | refine blk_alloc ?_ _)); refine blk_far ?_ NB433_466.out _; (with_reducible repeat (first | refine blk_drewN ?_ _ | refine blk_drew ?_ | refine blk_alloc ?_ _)); exact BK433.out) hb); have n6_ := mk0 (blk_below (g := gb466) (o := .cells #[.slice Ao97 t462.length co97, .int .i64 t465] 34 (0, 0)) (by (with_reducible repeat (first | refine blk_drewN ?_ _ | refine blk_drew ?_ | refine blk_alloc ?_ _)); refine blk_put (cs := #[.slice Ao97 t462.length co97, .int .i64 0]) ?_ 1 _ rfl; (with_reducible repeat (first | refine blk_drewN ?_ _ | refine blk_drew ?_ | refine blk_alloc ?_ _)); refine blk_put (cs := #[.slice none 0 0, .int .i64 0]) ?_ 0 _ rfl; (with_reducible repeat (first | refine blk_drewN ?_ _ | refine blk_drew ?_ | refine blk_alloc ?_ _)); exact BK466.out) hb); have n7_ := mk0 (below_step (by repeat (first | (with_reducible first | exact HB.out | apply bA | apply bN | apply bD | refine bS ?_ (by assumption)) | exact HB.out)) hb); clear HO_10; clear HO_11; clear HO464; clear BK432; clear BK433; clear BK466; clear HB; have HO_10 := n0_; have HO_11 := n1_; have HO464 := n2_; have HO470 := n3_; have BK432 := n4_; have BK433 := n5_; have BK466 := n6_; have HB := n7_; clear n0_ n1_ n2_ n3_ n4_ n5_ n6_ n7_; (try clear hb); (try clear hb2); (try clear hk); (try clear hi); (try clear ho0)) | ((with_reducible refine gate_dst (N := 18) rfl ?_); (try (refine gate_guard (by rfl) ?_; dsimp only)); refine box_event ?hg (N := 18) ?hd (cs := #[.slice none 0 0, .int .i64 0]) (t := 34) ?hr ?_; (case hd => rfl); (case hg => rfl); (case hr => first | (go_simp; done) | (go_simp; rfl)); intro gb472 hg w104 hbox hb; have n0_ := mk0 (Kd.R_below (uR HO_10.out) hb); have n1_ := mk0 (Kd.R_below (uR HO_11.out) hb); have n2_ := mk0 (Kd.R_below (uR HO464.out) hb); have n3_ := mk0 (Kd.R_below (uR HO470.out) hb); have n4_ := mk0 (blk_below (g := gb432) (o := .cells #[.slice A0_0 l0_0.length c0_0, .int .i64 a0_1] 31 (0, 0)) (uB BK432.out) hb); have n5_ := mk0 (blk_below (g := gb433) (o := .cells #[.slice none 0 0, .int .i64 x434001_2] 34 (0, 0)) (uB BK433.out) hb); have n6_ := mk0 (blk_below (g := gb466) (o := .cells #[.slice Ao97 t462.length co97, .int .i64 t465] 34 (0, 0)) (uB BK466.out) hb); have n7_ := mk0 (below_step (by repeat (first | (with_reducible first | exact HB.out | apply bA | apply bN | apply bD | refine bS ?_ (by assumption)) | exact HB.out)) hb); have n8_ := mk0 (hbox); have n9_ := mk0 ((by rw [hg]; exact (below_size (by repeat (first | (with_reducible first | exact HB.out | apply bA | apply bN | apply bD | refine bS ?_ (by assumption)) | exact HB.out))) : w.heap.size ≤ gb472)); have n10_ := mk0 ((by rw [hg]; exact (below_size (by repeat (first | (with_reducible first | exact HB.out | apply bA | apply bN | apply bD | refine bS ?_ (by assumption)) | exact HB.out))) : w.heap.size ≤ gb472)); have n11_ := mk0 ((by rw [hg]; exact Nat.ne_of_lt (blk_lt (g := gb432) (o := .cells #[.slice A0_0 l0_0.length c0_0, .int .i64 a0_1] 31 (0, 0)) (uB BK432.out)) : gb432 ≠ gb472)); have n12_ := mk0 ((by rw [hg]; exact Nat.ne_of_gt (blk_lt (g := gb432) (o := .cells #[.slice A0_0 l0_0.length c0_0, .int .i64 a0_1] 31 (0, 0)) (uB BK432.out)) : gb472 ≠ gb432)); have n13_ := mk0 ((by rw [hg]; exact Nat.ne_of_lt (blk_lt (g := gb433) (o := .cells #[.slice none 0 0, .int .i64 x434001_2] 34 (0, 0)) (uB BK433.out)) : gb433 ≠ gb472)); have n14_ := mk0 ((by rw [hg]; exact Nat.ne_of_gt (blk_lt (g := gb433) (o := .cells #[.slice none 0 0, .int .i64 x434001_2] 34 (0, 0)) (uB BK433.out)) : gb472 ≠ gb433)); have n15_ := mk0 ((by rw [hg]; exact Nat.ne_of_lt (blk_lt (g := gb466) (o := .cells #[.slice Ao97 t462.length co97, .int .i64 t465] 34 (0, 0)) (uB BK466.out)) : gb466 ≠ gb472)); have n16_ := mk0 ((by rw [hg]; exact Nat.ne_of_gt (blk_lt (g := gb466) (o := .cells #[.slice Ao97 t462.length co97, .int .i64 t465] 34 (0, 0)) (uB BK466.out)) : gb472 ≠ gb466)); clear HO_10; clear HO_11; clear HO464; clear HO470; clear BK432; clear BK433; clear BK466; clear HB; have HO_10 := n0_; have HO_11 := n1_; have HO464 := n2_; have HO470 := n3_; have BK432 := n4_; have BK433 := n5_; have BK466 := n6_; have HB := n7_; have BK472 := n8_; have GW472 := n9_; have GE472 := n10_; have NB432_472 := n11_; have NB472_432 := n12_; have NB433_472 := n13_; have NB472_433 := n14_; have NB466_472 := n15_; have NB472_466 := n16_; clear n0_ n1_ n2_ n3_ n4_ n5_ n6_ n7_ n8_ n9_ n10_ n11_ n12_ n13_ n14_ n15_ n16_; clear hb hbox hg; obtain ⟨Ao105, co105, eo105⟩ := Kd.R_slice HO470.out; subst eo105; have hnb106 := NB472_432.out; have hnc106 := NB432_472.out; have hnb107 := NB472_433.out; have hnc107 := NB433_472.out; have hnb108 := NB472_466.out; have hnc108 := NB466_472.out; have hcz109_0 : w104.cell? ⟨gb472, 0, none⟩ = some (.slice none 0 0) := (blk_cell BK472.out 0).trans rfl; have hcz109_1 : w104.cell? ⟨gb472, 1, none⟩ = some (.int .i64 0) := (blk_cell BK472.out 1).trans rfl; have hfz109_0 := blk_frozen BK472.out 0; have hfz109_1 := blk_frozen BK472.out 1; have hcz110_0 : w104.cell? ⟨gb466, 0, none⟩ = some (.slice Ao97 t462.length co97) := (blk_cell BK466.out 0).trans rfl; have hcz110_1 : w104.cell? ⟨gb466, 1, none⟩ = some (.int .i64 t465) := (blk_cell BK466.out 1).trans rfl; have hfz110_0 := blk_frozen BK466.out 0; have hfz110_1 := blk_frozen BK466.out 1) | (go_at_call 37; (with_reducible refine (furrowref14_over.calls  t477 t480 _ A91.out).mono ?_); rintro e w111 ⟨v478, rfl, ho0, hb⟩; have n0_ := mk0 (Kd.R_below (uR (Kd.R_mono (Kd.R_far (p := ⟨gb472, 1, none⟩) (Kd.R_far (p := ⟨gb472, 0, none⟩) (Kd.R_types HO_10.out BK472.out (by decide)) (fun _ hk => hk.2) (.slice Ao105 t468.length co105)) (fun _ hk => hk.2) (.int .i64 t471)) (fun _ h_ => h_.1))) hb); have n1_ := mk0 (Kd.R_below (uR (Kd.R_mono (Kd.R_far (p := ⟨gb472, 1, none⟩) (Kd.R_far (p := ⟨gb472, 0, none⟩) (Kd.R_types HO_11.out BK472.out (by decide)) (fun _ hk => hk.2) (.slice Ao105 t468.length co105)) (fun _ hk => hk.2) (.int .i64 t471)) (fun _ h_ => h_.1))) hb); have n2_ := mk0 (Kd.R_elder' (uR (Kd.R_mono (Kd.R_far (p := ⟨gb472, 1, none⟩) (Kd.R_far (p := ⟨gb472, 0, none⟩) (Kd.R_types HO464.out BK472.out (by decide)) (fun _ hk => hk.2) (.slice Ao105 t468.length co105)) (fun _ hk => hk.2) (.int .i64 t471)) (fun _ h_ => h_.1))) (Kd.R_base ho0) hb); have n3_ := mk0 (Kd.R_elder' (uR (Kd.R_mono (Kd.R_far (p := ⟨gb472, 1, none⟩) (Kd.R_far (p := ⟨gb472, 0, none⟩) (Kd.R_types HO470.out BK472.out (by decide)) (fun _ hk => hk.2) (.slice Ao105 t468.length co105)) (fun _ hk => hk.2) (.int .i64 t471)) (fun _ h_ => h_.1))) (Kd.R_base ho0) hb); have n4_ := mk0 (Kd.R_lower (Kd.R_new' (Kd.R_new' ho0 (Kd.R_lt (uR (Kd.R_mono (Kd.R_far (p := ⟨gb472, 1, none⟩) (Kd.R_far (p := ⟨gb472, 0, none⟩) (Kd.R_types HO464.out BK472.out (by decide)) (fun _ hk => hk.2) (.slice Ao105 t468.length co105)) (fun _ hk => hk.2) (.int .i64 t471)) (fun _ h_ => h_.1))))) (Kd.R_lt (uR (Kd.R_mono (Kd.R_far (p := ⟨gb472, 1, none⟩) (Kd.R_far (p := ⟨gb472, 0, none⟩) (Kd.R_types HO470.out BK472.out (by decide)) (fun _ hk => hk.2) (.slice Ao105 t468.length co105)) (fun _ hk => hk.2) (.int .i64 t471)) (fun _ h_ => h_.1))))) (below_size (by repeat (first | (with_reducible first | exact HB.out | apply bA | apply bN | apply bD | refine bS ?_ (by assumption)) | exact HB.out)))); have n5_ := mk0 (blk_below (g := gb432) (o := .cells #[.slice A0_0 l0_0.length c0_0, .int .i64 a0_1] 31 (0, 0)) (by (with_reducible repeat (first | refine blk_drewN ?_ _ | refine blk_drew ?_ | refine blk_alloc ?_ _)); refine blk_far ?_ NB432_472.out _; (with_reducible repeat (first | refine blk_drewN ?_ _ | refine blk_drew ?_ | refine blk_alloc ?_ _)); refine blk_far ?_ NB432_472.out _; (with_reducible repeat (first | refine blk_drewN ?_ _ | refine blk_drew ?_ | refine blk_alloc ?_ _)); exact BK432.out) hb); have n6_ := mk0 (blk_below (g := gb433) (o := .cells #[.slice none 0 0, .int .i64 x434001_2] 34 (0, 0)) (by (with_reducible repeat (first | refine blk_drewN ?_ _ | refine blk_drew ?_ | refine blk_alloc ?_ _)); refine blk_far ?_ NB433_472.out _; (with_reducible repeat (first | refine blk_drewN ?_ _ | refine blk_drew ?_ | refine blk_alloc ?_ _)); refine blk_far ?_ NB433_472.out _; (with_reducible repeat (first | refine blk_drewN ?_ _ | refine blk_drew ?_ | refine blk_alloc ?_ _)); exact BK433.out) hb); have n7_ := mk0 (blk_below (g := gb466) (o := .cells #[.slice Ao97 t462.length co97, .int .i64 t465] 34 (0, 0)) (by (with_reducible repeat (first | refine blk_drewN ?_ _ | refine blk_drew ?_ | refine blk_alloc ?_ _)); refine blk_far ?_ NB466_472.out _; (with_reducible repeat (first | refine blk_drewN ?_ _ | refine blk_drew ?_ | refine blk_alloc ?_ _)); refine blk_far ?_ NB466_472.out _; (with_reducible repeat (first | refine blk_drewN ?_ _ | refine blk_drew ?_ | refine blk_alloc ?_ _)); exact BK466.out) hb); have n8_ := mk0 (blk_below (g := gb472) (o := .cells #[.slice Ao105 t468.length co105, .int .i64 t471] 34 (0, 0)) (by (with_reducible repeat (first | refine blk_drewN ?_ _ | refine blk_drew ?_ | refine blk_alloc ?_ _)); refine blk_put (cs := #[.slice Ao105 t468.length co105, .int .i64 0]) ?_ 1 _ rfl; (with_reducible repeat (first | refine blk_drewN ?_ _ | refine blk_drew ?_ | refine blk_alloc ?_ _)); refine blk_put (cs := #[.slice none 0 0, .int .i64 0]) ?_ 0 _ rfl; (with_reducible repeat (first | refine blk_drewN ?_ _ | refine blk_drew ?_ | refine blk_alloc ?_ _)); exact BK472.out) hb); have n9_ := mk0 (below_step (by repeat (first | (with_reducible first | exact HB.out | apply bA | apply bN | apply bD | refine bS ?_ (by assumption)) | exact HB.out)) hb); clear HO_10; clear HO_11; clear HO464; clear HO470; clear BK432; clear BK433; clear BK466; clear BK472; clear HB; have HO_10 := n0_; have HO_11 := n1_; have HO464 := n2_; have HO470 := n3_; have HO479 := n4_; have BK432 := n5_; have BK433 := n6_; have BK466 := n7_; have BK472 := n8_; have HB := n9_; clear n0_ n1_ n2_ n3_ n4_ n5_ n6_ n7_ n8_ n9_; (try clear hb); (try clear hb2); (try clear hk); (try clear hi); (try clear ho0); obtain ⟨Ao112, co112, eo112⟩ := Kd.R_slice HO479.out; subst eo112; have hcz113_0 : w111.cell? ⟨gb433, 0, none⟩ = some (.slice none 0 0) := (blk_cell BK433.out 0).trans rfl; have hcz113_1 : w111.cell? ⟨gb433, 1, none⟩ = some (.int .i64 x434001_2) := (blk_cell BK433.out 1).trans rfl; have hfz113_0 := blk_frozen BK433.out 0; have hfz113_1 := blk_frozen BK433.out 1))
           refine bodyPost_ret (results_list (rs := [.tmp 6, .tmp 7, .cell 8 34]) rfl (by simp) (.tmp (.tmp (.cell gb433 34 #[.slice Ao112 t477.length co112, .int .i64 t480] (0, 0) _ rfl (by (with_reducible repeat (first | refine blk_drewN ?_ _ | refine blk_drew ?_ | refine blk_alloc ?_ _)); refine blk_put (cs := #[.slice Ao112 t477.length co112, .int .i64 x434001_2]) ?_ 1 _ rfl; (with_reducible repeat (first | refine blk_drewN ?_ _ | refine blk_drew ?_ | refine blk_alloc ?_ _)); refine blk_put (cs := #[.slice none 0 0, .int .i64 x434001_2]) ?_ 0 _ rfl; (with_reducible repeat (first | refine blk_drewN ?_ _ | refine blk_drew ?_ | refine blk_alloc ?_ _)); exact BK433.out) Tryd.underlying34 rfl (by kernel_rfl) .nil)))) rfl ?_
           exact ⟨_, by first | rfl | (simp [errW_none, errW_some] <;> rfl) | (simp [*, errW_none, errW_some] <;> rfl), uR (Kd.R_mono (Kd.R_far (p := ⟨gb433, 1, none⟩) (Kd.R_far (p := ⟨gb433, 0, none⟩) (Kd.R_types HO479.out BK433.out (by decide)) (fun _ hk => hk.2) (.slice Ao112 t477.length co112)) (fun _ hk => hk.2) (.int .i64 t480)) (fun _ hk => trivial)), by repeat (first | (with_reducible first | exact HB.out | apply bA | apply bN | apply bD | refine bS ?_ (by assumption)) | exact HB.out)⟩

end Go.Proofs.YtmnifoeodohphaaDoor.X
