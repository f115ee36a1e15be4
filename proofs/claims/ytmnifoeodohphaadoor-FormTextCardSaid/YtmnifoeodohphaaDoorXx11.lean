-- PRINTED by print.py (a twelfth state) out of the translation. Not trusted: Lean checks it.
import Derived.Test.YtmnifoeodohphaaDoorXx0
import Derived.Test.YtmnifoeodohphaaDoorXx10
import Derived.Test.YtmnifoeodohphaaDoorHandF
namespace Go.Proofs.YtmnifoeodohphaaDoor.X
open Go.Proofs.YtmnifoeodohphaaDoor.Flt Go.Proofs.YtmnifoeodohphaaDoor.H Go.RowKit Go.Proofs.YtmnifoeodohphaaDoorW.PrintWords Go.Proofs.YtmnifoeodohphaaDoorW.PrintLast Go.Proofs.YtmnifoeodohphaaDoorW.PrintMore
attribute [local go_sem] max2_int min2_int max_two min_two max_three min_three max_four min_four   -- for this text's walks alone
set_option linter.unusedVariables false
set_option linter.unusedSimpArgs false

/-! ### lin_Range: function 21 -/
mutual
def lin_Range.j0 : Nat → List Int → List Int → Bool → List Int → Int → Option (Int × Int × (List (Flt)))
 | 0, _, _, _, _, _ => none
 | k + 1, x1, x2, x32, x134000, x134001 => if x32 = true then ((lin_fault.f 1).bind fun t134 => (some (0, 0, t134))) else (lin_Range.l0 k x1 x2 (x1.length : Int) 0 x134000 x134001)
def lin_Range.l0 : Nat → List Int → List Int → Int → Int → List Int → Int → Option (Int × Int × (List (Flt)))
 | 0, _, _, _, _, _, _ => none
 | k + 1, x1, x2, x35, x36, x134000, x134001 => if x36 < x35 then (if 0 ≤ x36 then (if x36 < (x1.length : Int) then (if x36 < (x2.length : Int) then (if (rd x1 x36) > (rd x2 x36) then ((lin_fault.f 1).bind fun t139 => (some (0, 0, t139))) else (lin_Range.l0 k x1 x2 x35 (wrap64 (x36 + 1)) x134000 x134001)) else (none)) else (none)) else (none)) else (lin_Range.l1 k x1 x2 ([] : List Int) ([] : List Int) x134000 (x134000.length : Int) 0 x134000 x134001)
def lin_Range.l1 : Nat → List Int → List Int → List Int → List Int → List Int → Int → Int → List Int → Int → Option (Int × Int × (List (Flt)))
 | 0, _, _, _, _, _, _, _, _, _ => none
 | k + 1, x1, x2, x10, x11, x51, x52, x53, x134000, x134001 => if x53 < x52 then (if 0 ≤ x53 then (if x53 < (x51.length : Int) then (if x53 < (x1.length : Int) then (if x53 < (x2.length : Int) then (if (rd x51 x53) < 0 then (if x10.length < 17592186044416 then (if x11.length < 17592186044416 then (lin_Range.l1 k x1 x2 (x10 ++ [rd x2 x53]) (x11 ++ [rd x1 x53]) x51 x52 (wrap64 (x53 + 1)) x134000 x134001) else (none)) else (none)) else (if x10.length < 17592186044416 then (if x11.length < 17592186044416 then (lin_Range.l1 k x1 x2 (x10 ++ [rd x1 x53]) (x11 ++ [rd x2 x53]) x51 x52 (wrap64 (x53 + 1)) x134000 x134001) else (none)) else (none))) else (none)) else (none)) else (none)) else (none)) else ((lin_At.f k x134000 x134001 x10).bind fun bt157 => (if (bt157.2.length : Int) = 0 then ((lin_At.f k x134000 x134001 x11).bind fun bt161 => (if (bt161.2.length : Int) = 0 then (some (bt157.1, bt161.1, ([] : List (Flt)))) else (some (0, 0, bt161.2)))) else (some (0, 0, bt157.2))))
end
def lin_Range.f (k : Nat) (l0_0 : List Int) (a0_1 : Int) (l1 : List Int) (l2 : List Int) : Option (Int × Int × (List (Flt))) := if (l0_0.length : Int) = (l1.length : Int) then (lin_Range.j0 k l1 l2 ((l0_0.length : Int) != (l2.length : Int)) l0_0 a0_1) else (lin_Range.j0 k l1 l2 true l0_0 a0_1)
theorem lin_Range.mono_l : ∀ k, (∀ y0 y1 y2 y3 y4, LeO (lin_Range.j0 k y0 y1 y2 y3 y4) (lin_Range.j0 (k + 1) y0 y1 y2 y3 y4)) ∧ (∀ y0 y1 y2 y3 y4 y5, LeO (lin_Range.l0 k y0 y1 y2 y3 y4 y5) (lin_Range.l0 (k + 1) y0 y1 y2 y3 y4 y5)) ∧ (∀ y0 y1 y2 y3 y4 y5 y6 y7 y8, LeO (lin_Range.l1 k y0 y1 y2 y3 y4 y5 y6 y7 y8) (lin_Range.l1 (k + 1) y0 y1 y2 y3 y4 y5 y6 y7 y8))
 | 0 => ⟨fun _ _ _ _ _ r h => by simp [lin_Range.j0] at h, fun _ _ _ _ _ _ r h => by simp [lin_Range.l0] at h, fun _ _ _ _ _ _ _ _ _ r h => by simp [lin_Range.l1] at h⟩
 | k + 1 => by
  obtain ⟨ih0, ih1, ih2⟩ := lin_Range.mono_l k
  refine ⟨?_, ?_, ?_⟩
  ·intro y0 y1 y2 y3 y4
   unfold lin_Range.j0
   repeat' first
   | (with_reducible exact ih0 _ _ _ _ _)
   | (with_reducible exact ih1 _ _ _ _ _ _)
   | (with_reducible exact ih2 _ _ _ _ _ _ _ _ _)
   | (with_reducible exact lin_At.mono _ _ _ _)
   | (with_reducible exact LeO.refl _)
   | (with_reducible exact LeO.none _)
   | (with_reducible refine LeO.ite ?_ ?_)
   | (with_reducible refine LeO.bind ?_ (fun _ => ?_))
   | exact ih0 _ _ _ _ _
   | exact ih1 _ _ _ _ _ _
   | exact ih2 _ _ _ _ _ _ _ _ _
   | exact lin_At.mono _ _ _ _
   | exact LeO.none _
   | refine LeO.ite ?_ ?_
   | refine LeO.bind ?_ (fun _ => ?_)
  ·intro y0 y1 y2 y3 y4 y5
   unfold lin_Range.l0
   repeat' first
   | (with_reducible exact ih0 _ _ _ _ _)
   | (with_reducible exact ih1 _ _ _ _ _ _)
   | (with_reducible exact ih2 _ _ _ _ _ _ _ _ _)
   | (with_reducible exact lin_At.mono _ _ _ _)
   | (with_reducible exact LeO.refl _)
   | (with_reducible exact LeO.none _)
   | (with_reducible refine LeO.ite ?_ ?_)
   | (with_reducible refine LeO.bind ?_ (fun _ => ?_))
   | exact ih0 _ _ _ _ _
   | exact ih1 _ _ _ _ _ _
   | exact ih2 _ _ _ _ _ _ _ _ _
   | exact lin_At.mono _ _ _ _
   | exact LeO.none _
   | refine LeO.ite ?_ ?_
   | refine LeO.bind ?_ (fun _ => ?_)
  ·intro y0 y1 y2 y3 y4 y5 y6 y7 y8
   unfold lin_Range.l1
   repeat' first
   | (with_reducible exact ih0 _ _ _ _ _)
   | (with_reducible exact ih1 _ _ _ _ _ _)
   | (with_reducible exact ih2 _ _ _ _ _ _ _ _ _)
   | (with_reducible exact lin_At.mono _ _ _ _)
   | (with_reducible exact LeO.refl _)
   | (with_reducible exact LeO.none _)
   | (with_reducible refine LeO.ite ?_ ?_)
   | (with_reducible refine LeO.bind ?_ (fun _ => ?_))
   | exact ih0 _ _ _ _ _
   | exact ih1 _ _ _ _ _ _
   | exact ih2 _ _ _ _ _ _ _ _ _
   | exact lin_At.mono _ _ _ _
   | exact LeO.none _
   | refine LeO.ite ?_ ?_
   | refine LeO.bind ?_ (fun _ => ?_)
theorem lin_Range.mono : ∀ a0 a1 a2 a3 k, LeO (lin_Range.f k a0 a1 a2 a3) (lin_Range.f (k + 1) a0 a1 a2 a3) := by
 intro a0 a1 a2 a3 k
 obtain ⟨ih0, ih1, ih2⟩ := lin_Range.mono_l k
 unfold lin_Range.f
 repeat' first
   | (with_reducible exact ih0 _ _ _ _ _)
   | (with_reducible exact ih1 _ _ _ _ _ _)
   | (with_reducible exact ih2 _ _ _ _ _ _ _ _ _)
   | (with_reducible exact lin_At.mono _ _ _ _)
   | (with_reducible exact LeO.refl _)
   | (with_reducible exact LeO.none _)
   | (with_reducible refine LeO.ite ?_ ?_)
   | (with_reducible refine LeO.bind ?_ (fun _ => ?_))
   | exact ih0 _ _ _ _ _
   | exact ih1 _ _ _ _ _ _
   | exact ih2 _ _ _ _ _ _ _ _ _
   | exact lin_At.mono _ _ _ _
   | exact LeO.none _
   | refine LeO.ite ?_ ?_
   | refine LeO.bind ?_ (fun _ => ?_)
set_option maxHeartbeats 8000000 in
set_option maxRecDepth 100000 in
theorem lin_Range.calls (k : Nat) (A0_0 : Option Addr) (c0_0 : Nat) (l0_0 : List Int) (a0_1 : Int) (A1 : Option Addr) (c1 : Nat) (l1 : List Int) (A2 : Option Addr) (c2 : Nat) (l2 : List Int) (r1 : Int) (r2 : Int) (r3 : List (Flt)) (w : World) (hr0_0 : Kd.C (Kd.int .i64) w A0_0 l0_0.length l0_0) (hc0_0 : l0_0.length ≤ c0_0) (hr1 : Kd.C (Kd.int .i64) w A1 l1.length l1) (hc1 : l1.length ≤ c1) (hr2 : Kd.C (Kd.int .i64) w A2 l2.length l2) (hc2 : l2.length ≤ c2) (h : lin_Range.f k l0_0 a0_1 l1 l2 = some (r1, r2, r3)) :
  Calls Tryd.prog 21 #[.agg #[.slice A0_0 l0_0.length c0_0, .int .i64 a0_1], .slice A1 l1.length c1, .slice A2 l2.length c2] w fun e w' => ∃ v2_ : Value, e = .returned (.tuple #[.int .i64 r1, .int .i64 r2, errV v2_]) ∧ Kd.R fltK 84 w' w.heap.size (fun _ => True) v2_ r3 ∧ Below w.heap.size w w' := by
 have hu24 := Tryd.underlying24
 have HR0_0 := mk0 hr0_0
 have HC0_0 := mk0 hc0_0
 clear hr0_0 hc0_0
 have HR1 := mk0 hr1
 have HC1 := mk0 hc1
 clear hr1 hc1
 have HR2 := mk0 hr2
 have HC2 := mk0 hc2
 clear hr2 hc2
 have HB := mk0 (Below.refl w.heap.size w)
 have H : (if (l0_0.length : Int) = (l1.length : Int) then (lin_Range.j0 k l1 l2 ((l0_0.length : Int) != (l2.length : Int)) l0_0 a0_1) else (lin_Range.j0 k l1 l2 true l0_0 a0_1)) = some (r1, r2, r3) := h
 clear h
 have HC4 := mk0 H
 clear H
 go_enter Tryd.func21, Tryd.ntmps21
 go_upto_region 1 with (first | ((with_reducible refine gate_dst (N := 3) rfl ?_); (try (refine gate_guard (by rfl) ?_; dsimp only)); refine box_event ?hg (N := 3) ?hd (cs := #[.slice A0_0 l0_0.length c0_0, .int .i64 a0_1]) (t := 24) ?hr ?_; (case hd => rfl); (case hg => rfl); (case hr => first | (go_simp; done) | (go_simp; rfl)); intro gb133 hg w5 hbox hb; have n0_ := mk0 (below_step (uL HB.out) hb); have n1_ := mk0 (hbox); have n2_ := mk0 ((by rw [hg]; exact (below_size (uL HB.out)) : w.heap.size ≤ gb133)); have n3_ := mk0 ((by rw [hg]; exact (below_size (uL HB.out)) : w.heap.size ≤ gb133)); clear HB; have HB := n0_; have BK133 := n1_; have GW133 := n2_; have GE133 := n3_; clear n0_ n1_ n2_ n3_; clear hb hbox hg))
 repeat (go_quiet (first | ((with_reducible refine gate_dst (N := 3) rfl ?_); (try (refine gate_guard (by rfl) ?_; dsimp only)); refine box_event ?hg (N := 3) ?hd (cs := #[.slice A0_0 l0_0.length c0_0, .int .i64 a0_1]) (t := 24) ?hr ?_; (case hd => rfl); (case hg => rfl); (case hr => first | (go_simp; done) | (go_simp; rfl)); intro gb133 hg w5 hbox hb; have n0_ := mk0 (below_step (uL HB.out) hb); have n1_ := mk0 (hbox); have n2_ := mk0 ((by rw [hg]; exact (below_size (uL HB.out)) : w.heap.size ≤ gb133)); have n3_ := mk0 ((by rw [hg]; exact (below_size (uL HB.out)) : w.heap.size ≤ gb133)); clear HB; have HB := n0_; have BK133 := n1_; have GW133 := n2_; have GE133 := n3_; clear n0_ n1_ n2_ n3_; clear hb hbox hg)); go_upto_region 1 with (first | ((with_reducible refine gate_dst (N := 3) rfl ?_); (try (refine gate_guard (by rfl) ?_; dsimp only)); refine box_event ?hg (N := 3) ?hd (cs := #[.slice A0_0 l0_0.length c0_0, .int .i64 a0_1]) (t := 24) ?hr ?_; (case hd => rfl); (case hg => rfl); (case hr => first | (go_simp; done) | (go_simp; rfl)); intro gb133 hg w5 hbox hb; have n0_ := mk0 (below_step (uL HB.out) hb); have n1_ := mk0 (hbox); have n2_ := mk0 ((by rw [hg]; exact (below_size (uL HB.out)) : w.heap.size ≤ gb133)); have n3_ := mk0 ((by rw [hg]; exact (below_size (uL HB.out)) : w.heap.size ≤ gb133)); clear HB; have HB := n0_; have BK133 := n1_; have GW133 := n2_; have GE133 := n3_; clear n0_ n1_ n2_ n3_; clear hb hbox hg)))
 (try simp only [Act.put, List.setIfInBounds_toArray, List.set_cons_zero, List.set_cons_succ])
 go_cut [32] (fun v32 wc => ∃ (kq : Nat) (x32_3 : Bool), v32 = .bool x32_3 ∧ Aside0 (lin_Range.j0 kq l1 l2 x32_3 l0_0 a0_1 = some (r1, r2, r3)) ∧ Aside0 (kq ≤ k) ∧ Aside0 (wc.heap[gb133]? = some (.cells #[(.slice A0_0 l0_0.length c0_0), .int .i64 a0_1] 24 (0, 0))) ∧ Aside0 (Below w.heap.size w wc))
 case first =>
  have H := HC4.out
  clear HC4
  by_cases c6 : (l0_0.length : Int) = (l1.length : Int)
  ·rw [if_pos c6] at H
   have c6b0 : ((l0_0.length : Int) == (l1.length : Int)) = true := beq_iff_eq.mpr c6
   have c6b1 : ((l0_0.length : Int) != (l1.length : Int)) = false := bne_eq_false_iff_eq.mpr c6
   have c6b2 : (l0_0.length == l1.length) = true := by first | simpa using c6 | (simp at c6 ⊢; omega)
   clear c6
   (first | rw [c6b0] | (simp only [i64_w, i32_w]; rw [c6b0]) | skip)
   have H' := mk0 H
   clear H
   have hcz7_0 : w5.cell? ⟨gb133, 0, none⟩ = some (.slice A0_0 l0_0.length c0_0) := (blk_cell BK133.out 0).trans rfl
   have hcz7_1 : w5.cell? ⟨gb133, 1, none⟩ = some (.int .i64 a0_1) := (blk_cell BK133.out 1).trans rfl
   have hfz7_0 := blk_frozen BK133.out 0
   have hfz7_1 := blk_frozen BK133.out 1
   go_wp2
   repeat (go_quiet (fail); try go_wp2)
   go_meet
   case rel => exact ⟨_, (((l0_0.length : Int) != (l2.length : Int))), (by first | rfl | (simp; done) | (simp [*]; done) | (simp [bne_nil_, beq_nil_]; done)), H', ⟨by first | omega | exact Nat.le_refl _⟩, ⟨uB BK133.out⟩, ⟨by repeat (first | (with_reducible first | exact HB.out | apply bA | apply bN | apply bD | refine bS ?_ (by assumption)) | exact HB.out)⟩⟩
  ·rw [if_neg c6] at H
   have c6b0 : ((l0_0.length : Int) == (l1.length : Int)) = false := beq_eq_false_iff_ne.mpr c6
   have c6b1 : ((l0_0.length : Int) != (l1.length : Int)) = true := bne_iff_ne.mpr c6
   have c6b2 : (l0_0.length == l1.length) = false := by first | simpa using c6 | (simp at c6 ⊢; omega)
   (first | rw [c6b0] | (simp only [i64_w, i32_w]; rw [c6b0]) | skip)
   have H' := mk0 H
   clear H
   have hcz8_0 : w5.cell? ⟨gb133, 0, none⟩ = some (.slice A0_0 l0_0.length c0_0) := (blk_cell BK133.out 0).trans rfl
   have hcz8_1 : w5.cell? ⟨gb133, 1, none⟩ = some (.int .i64 a0_1) := (blk_cell BK133.out 1).trans rfl
   have hfz8_0 := blk_frozen BK133.out 0
   have hfz8_1 := blk_frozen BK133.out 1
   go_wp2
   repeat (go_quiet (fail); try go_wp2)
   go_meet
   case rel => exact ⟨_, (true), (by first | rfl | (simp; done) | (simp [*]; done) | (simp [bne_nil_, beq_nil_]; done)), H', ⟨by first | omega | exact Nat.le_refl _⟩, ⟨uB BK133.out⟩, ⟨by repeat (first | (with_reducible first | exact HB.out | apply bA | apply bN | apply bD | refine bS ?_ (by assumption)) | exact HB.out)⟩⟩
 case rest =>
  clear HC4
  try clear c1
  try clear c2
  try clear p2
  try clear c6
  try clear c6b0
  try clear c6b1
  try clear c6b2
  try clear hcz7_0
  try clear hcz7_1
  try clear hcz8_0
  try clear hcz8_1
  try clear hfz7_0
  try clear hfz7_1
  try clear hfz8_0
  try clear hfz8_1
  obtain ⟨kq, x32_3, rfl, HA, HJ3, BK133, HB⟩ := hcut
  cases kq with
  | zero => exact absurd HA.out (by simp [lin_Range.j0])
  | succ kj3 =>
   have H := HA.out
   clear HA
   simp only [lin_Range.j0] at H
   by_cases c9 : x32_3 = true
   ·subst c9
    have H1 : ((lin_fault.f 1).bind fun t134 => (some (0, 0, t134))) = some (r1, r2, r3) := by rw [if_pos rfl] at H; exact H
    clear H
    have H := H1
    clear H1
    replace H := Option.bind_eq_some_iff.mp H
    obtain ⟨t134, A100, H⟩ := H
    replace H : (some (0, 0, t134)) = some (r1, r2, r3) := H
    have A10 := mk0 A100
    clear A100
    simp only [Option.some.injEq, Prod.mk.injEq] at H
    obtain ⟨rfl, rfl, rfl⟩ := H
    go_wp2_with (first | (go_at_call 30; (with_reducible refine (lin_fault.calls 1 t134 _ A10.out).mono ?_); rintro e w11 ⟨v135, rfl, ho0, hb⟩; have n0_ := mk0 (Kd.R_lower ho0 (below_size (by repeat (first | (with_reducible first | exact HB.out | apply bA | apply bN | apply bD | refine bS ?_ (by assumption)) | exact HB.out)))); have n1_ := mk0 (blk_below (g := gb133) (o := .cells #[.slice A0_0 l0_0.length c0_0, .int .i64 a0_1] 24 (0, 0)) (uB BK133.out) hb); have n2_ := mk0 (below_step (by repeat (first | (with_reducible first | exact HB.out | apply bA | apply bN | apply bD | refine bS ?_ (by assumption)) | exact HB.out)) hb); clear BK133; clear HB; have HO136 := n0_; have BK133 := n1_; have HB := n2_; clear n0_ n1_ n2_; (try clear hb); (try clear hb2); (try clear hk); (try clear hi); (try clear ho0); (first | (have EHO136 := cmpV_no HO136.out (by with_reducible assumption)) | (have EHO136 := cmpV_yes HO136.out (by with_reducible assumption)) | skip)))
    repeat (go_quiet (first | (go_at_call 30; (with_reducible refine (lin_fault.calls 1 t134 _ A10.out).mono ?_); rintro e w11 ⟨v135, rfl, ho0, hb⟩; have n0_ := mk0 (Kd.R_lower ho0 (below_size (by repeat (first | (with_reducible first | exact HB.out | apply bA | apply bN | apply bD | refine bS ?_ (by assumption)) | exact HB.out)))); have n1_ := mk0 (blk_below (g := gb133) (o := .cells #[.slice A0_0 l0_0.length c0_0, .int .i64 a0_1] 24 (0, 0)) (uB BK133.out) hb); have n2_ := mk0 (below_step (by repeat (first | (with_reducible first | exact HB.out | apply bA | apply bN | apply bD | refine bS ?_ (by assumption)) | exact HB.out)) hb); clear BK133; clear HB; have HO136 := n0_; have BK133 := n1_; have HB := n2_; clear n0_ n1_ n2_; (try clear hb); (try clear hb2); (try clear hk); (try clear hi); (try clear ho0); (first | (have EHO136 := cmpV_no HO136.out (by with_reducible assumption)) | (have EHO136 := cmpV_yes HO136.out (by with_reducible assumption)) | skip))); try go_wp2_with (first | (go_at_call 30; (with_reducible refine (lin_fault.calls 1 t134 _ A10.out).mono ?_); rintro e w11 ⟨v135, rfl, ho0, hb⟩; have n0_ := mk0 (Kd.R_lower ho0 (below_size (by repeat (first | (with_reducible first | exact HB.out | apply bA | apply bN | apply bD | refine bS ?_ (by assumption)) | exact HB.out)))); have n1_ := mk0 (blk_below (g := gb133) (o := .cells #[.slice A0_0 l0_0.length c0_0, .int .i64 a0_1] 24 (0, 0)) (uB BK133.out) hb); have n2_ := mk0 (below_step (by repeat (first | (with_reducible first | exact HB.out | apply bA | apply bN | apply bD | refine bS ?_ (by assumption)) | exact HB.out)) hb); clear BK133; clear HB; have HO136 := n0_; have BK133 := n1_; have HB := n2_; clear n0_ n1_ n2_; (try clear hb); (try clear hb2); (try clear hk); (try clear hi); (try clear ho0); (first | (have EHO136 := cmpV_no HO136.out (by with_reducible assumption)) | (have EHO136 := cmpV_yes HO136.out (by with_reducible assumption)) | skip))))
    go_ret3
    exact ⟨(v135), by first | rfl | (simp [errW_none, errW_some] <;> rfl) | (simp [*, errW_none, errW_some] <;> rfl), uR HO136.out, by repeat (first | (with_reducible first | exact HB.out | apply bA | apply bN | apply bD | refine bS ?_ (by assumption)) | exact HB.out)⟩
   ·replace c9 := Bool.eq_false_iff.mpr c9
    subst c9
    have H1 : (lin_Range.l0 kj3 l1 l2 (l1.length : Int) 0 l0_0 a0_1) = some (r1, r2, r3) := by rw [if_neg (show ¬ (false = true) by decide)] at H; exact H
    clear H
    have H := H1
    clear H1
    have H' := mk0 H
    clear H
    go_wp2
    repeat (go_quiet (fail); try go_wp2)
    go_loopg [36] kj3 (fun kq v36 w' => ∃ (x36_2 : Int), v36 = .int .i64 x36_2 ∧ Aside0 (lin_Range.l0 kq l1 l2 (l1.length : Int) x36_2 l0_0 a0_1 = some (r1, r2, r3)) ∧ Aside0 (kq ≤ kj3) ∧ Aside0 (w'.heap[gb133]? = some (.cells #[(.slice A0_0 l0_0.length c0_0), .int .i64 a0_1] 24 (0, 0))) ∧ Aside0 (Below w.heap.size w w'))
    case atStart => exact ⟨(0), (by first | rfl | (simp; done) | (simp [*]; done) | (simp [bne_nil_, beq_nil_]; done)), H', ⟨Nat.le_refl _⟩, ⟨uB BK133.out⟩, ⟨by repeat (first | (with_reducible first | exact HB.out | apply bA | apply bN | apply bD | refine bS ?_ (by assumption)) | exact HB.out)⟩⟩
    case round =>
     clear H'
     try clear c1
     try clear c2
     try clear p2
     try clear c6
     try clear c6b0
     try clear c6b1
     try clear c6b2
     try clear c9
     try clear hcz7_0
     try clear hcz7_1
     try clear hcz8_0
     try clear hcz8_1
     try clear hfz7_0
     try clear hfz7_1
     try clear hfz8_0
     try clear hfz8_1
     try clear p2
     obtain ⟨x36_2, rfl, HA, HK2, BK133, HB⟩ := hrel
     cases gk with
     | zero => exact absurd HA.out (by simp [lin_Range.l0])
     | succ k2 =>
      have H := HA.out
      clear HA
      simp only [lin_Range.l0] at H
      by_cases c12 : x36_2 < (l1.length : Int)
      ·rw [if_pos c12] at H
       have c12b0 : decide (x36_2 < (l1.length : Int)) = true := decide_eq_true c12
       clear c12
       by_cases c13 : 0 ≤ x36_2
       ·rw [if_pos c13] at H
        have c13b0 : decide (0 ≤ x36_2) = true := decide_eq_true c13
        clear c13
        by_cases c14 : x36_2 < (l1.length : Int)
        ·rw [if_pos c14] at H
         have c14b0 : decide (x36_2 < (l1.length : Int)) = true := decide_eq_true c14
         clear c14
         by_cases c15 : x36_2 < (l2.length : Int)
         ·rw [if_pos c15] at H
          have c15b0 : decide (x36_2 < (l2.length : Int)) = true := decide_eq_true c15
          clear c15
          by_cases c16 : (rd l1 x36_2) > (rd l2 x36_2)
          ·rw [if_pos c16] at H
           have c16b0 : decide ((rd l2 x36_2) < (rd l1 x36_2)) = true := decide_eq_true c16
           clear c16
           replace H := Option.bind_eq_some_iff.mp H
           obtain ⟨t139, A170, H⟩ := H
           replace H : (some (0, 0, t139)) = some (r1, r2, r3) := H
           have A17 := mk0 A170
           clear A170
           simp only [Option.some.injEq, Prod.mk.injEq] at H
           obtain ⟨rfl, rfl, rfl⟩ := H
           have p137 : 0 ≤ (x36_2 : Int) := of_decide_eq_true (by first | (with_reducible assumption) | assumption)
           have q137 : x36_2 < (l1.length : Int) := of_decide_eq_true (by first | (with_reducible assumption) | assumption)
           obtain ⟨ad137, e137, hx137_0⟩ := Kd.at_int HR1.out x36_2 p137 q137
           cases e137
           replace hx137_0 := (HB.out.cell (World.block_lt_of_cell? w _ hx137_0)).trans hx137_0
           replace p137 := eq_true p137
           replace q137 := eq_true q137
           have p138 : 0 ≤ (x36_2 : Int) := of_decide_eq_true (by first | (with_reducible assumption) | assumption)
           have q138 : x36_2 < (l2.length : Int) := of_decide_eq_true (by first | (with_reducible assumption) | assumption)
           obtain ⟨ad138, e138, hx138_0⟩ := Kd.at_int HR2.out x36_2 p138 q138
           cases e138
           replace hx138_0 := (HB.out.cell (World.block_lt_of_cell? w _ hx138_0)).trans hx138_0
           replace p138 := eq_true p138
           replace q138 := eq_true q138
           go_wp2_with (first | (go_at_call 30; (with_reducible refine (lin_fault.calls 1 t139 _ A17.out).mono ?_); rintro e w18 ⟨v140, rfl, ho0, hb⟩; have n0_ := mk0 (Kd.R_lower ho0 (below_size (by repeat (first | (with_reducible first | exact HB.out | apply bA | apply bN | apply bD | refine bS ?_ (by assumption)) | exact HB.out)))); have n1_ := mk0 (blk_below (g := gb133) (o := .cells #[.slice A0_0 l0_0.length c0_0, .int .i64 a0_1] 24 (0, 0)) (uB BK133.out) hb); have n2_ := mk0 (below_step (by repeat (first | (with_reducible first | exact HB.out | apply bA | apply bN | apply bD | refine bS ?_ (by assumption)) | exact HB.out)) hb); clear BK133; clear HB; have HO141 := n0_; have BK133 := n1_; have HB := n2_; clear n0_ n1_ n2_; (try clear hb); (try clear hb2); (try clear hk); (try clear hi); (try clear ho0); (first | (have EHO141 := cmpV_no HO141.out (by with_reducible assumption)) | (have EHO141 := cmpV_yes HO141.out (by with_reducible assumption)) | skip)))
           repeat (go_quiet (first | (go_at_call 30; (with_reducible refine (lin_fault.calls 1 t139 _ A17.out).mono ?_); rintro e w18 ⟨v140, rfl, ho0, hb⟩; have n0_ := mk0 (Kd.R_lower ho0 (below_size (by repeat (first | (with_reducible first | exact HB.out | apply bA | apply bN | apply bD | refine bS ?_ (by assumption)) | exact HB.out)))); have n1_ := mk0 (blk_below (g := gb133) (o := .cells #[.slice A0_0 l0_0.length c0_0, .int .i64 a0_1] 24 (0, 0)) (uB BK133.out) hb); have n2_ := mk0 (below_step (by repeat (first | (with_reducible first | exact HB.out | apply bA | apply bN | apply bD | refine bS ?_ (by assumption)) | exact HB.out)) hb); clear BK133; clear HB; have HO141 := n0_; have BK133 := n1_; have HB := n2_; clear n0_ n1_ n2_; (try clear hb); (try clear hb2); (try clear hk); (try clear hi); (try clear ho0); (first | (have EHO141 := cmpV_no HO141.out (by with_reducible assumption)) | (have EHO141 := cmpV_yes HO141.out (by with_reducible assumption)) | skip))); try go_wp2_with (first | (go_at_call 30; (with_reducible refine (lin_fault.calls 1 t139 _ A17.out).mono ?_); rintro e w18 ⟨v140, rfl, ho0, hb⟩; have n0_ := mk0 (Kd.R_lower ho0 (below_size (by repeat (first | (with_reducible first | exact HB.out | apply bA | apply bN | apply bD | refine bS ?_ (by assumption)) | exact HB.out)))); have n1_ := mk0 (blk_below (g := gb133) (o := .cells #[.slice A0_0 l0_0.length c0_0, .int .i64 a0_1] 24 (0, 0)) (uB BK133.out) hb); have n2_ := mk0 (below_step (by repeat (first | (with_reducible first | exact HB.out | apply bA | apply bN | apply bD | refine bS ?_ (by assumption)) | exact HB.out)) hb); clear BK133; clear HB; have HO141 := n0_; have BK133 := n1_; have HB := n2_; clear n0_ n1_ n2_; (try clear hb); (try clear hb2); (try clear hk); (try clear hi); (try clear ho0); (first | (have EHO141 := cmpV_no HO141.out (by with_reducible assumption)) | (have EHO141 := cmpV_yes HO141.out (by with_reducible assumption)) | skip))))
           go_ret3
           exact ⟨(v140), by first | rfl | (simp [errW_none, errW_some] <;> rfl) | (simp [*, errW_none, errW_some] <;> rfl), uR HO141.out, by repeat (first | (with_reducible first | exact HB.out | apply bA | apply bN | apply bD | refine bS ?_ (by assumption)) | exact HB.out)⟩
          ·rw [if_neg c16] at H
           have c16b0 : decide ((rd l2 x36_2) < (rd l1 x36_2)) = false := decide_eq_false c16
           clear c16
           have H' := mk0 H
           clear H
           have p137 : 0 ≤ (x36_2 : Int) := of_decide_eq_true (by first | (with_reducible assumption) | assumption)
           have q137 : x36_2 < (l1.length : Int) := of_decide_eq_true (by first | (with_reducible assumption) | assumption)
           obtain ⟨ad137, e137, hx137_0⟩ := Kd.at_int HR1.out x36_2 p137 q137
           cases e137
           replace hx137_0 := (HB.out.cell (World.block_lt_of_cell? w _ hx137_0)).trans hx137_0
           replace p137 := eq_true p137
           replace q137 := eq_true q137
           have p138 : 0 ≤ (x36_2 : Int) := of_decide_eq_true (by first | (with_reducible assumption) | assumption)
           have q138 : x36_2 < (l2.length : Int) := of_decide_eq_true (by first | (with_reducible assumption) | assumption)
           obtain ⟨ad138, e138, hx138_0⟩ := Kd.at_int HR2.out x36_2 p138 q138
           cases e138
           replace hx138_0 := (HB.out.cell (World.block_lt_of_cell? w _ hx138_0)).trans hx138_0
           replace p138 := eq_true p138
           replace q138 := eq_true q138
           go_wp2
           repeat (go_quiet (fail); try go_wp2)
           go_roundg k2
           case measure => have := HJ3.out; have := HK2.out; omega
           case rel => exact ⟨(wrap64 (x36_2 + 1)), (by first | rfl | (simp; done) | (simp [*]; done) | (simp [bne_nil_, beq_nil_]; done)), H', ⟨by have := HJ3.out; have := HK2.out; omega⟩, ⟨uB BK133.out⟩, ⟨by repeat (first | (with_reducible first | exact HB.out | apply bA | apply bN | apply bD | refine bS ?_ (by assumption)) | exact HB.out)⟩⟩
         ·rw [if_neg c15] at H
          exact absurd H (by simp)
        ·rw [if_neg c14] at H
         exact absurd H (by simp)
       ·rw [if_neg c13] at H
        exact absurd H (by simp)
      ·rw [if_neg c12] at H
       have c12b0 : decide (x36_2 < (l1.length : Int)) = false := decide_eq_false c12
       clear c12
       have H' := mk0 H
       clear H
       have hcz19_0 : wr.cell? ⟨gb133, 0, none⟩ = some (.slice A0_0 l0_0.length c0_0) := (blk_cell BK133.out 0).trans rfl
       have hcz19_1 : wr.cell? ⟨gb133, 1, none⟩ = some (.int .i64 a0_1) := (blk_cell BK133.out 1).trans rfl
       have hfz19_0 := blk_frozen BK133.out 0
       have hfz19_1 := blk_frozen BK133.out 1
       go_wp2
       repeat (go_quiet (fail); try go_wp2)
       go_loopg [10, 11, 53] k2 (fun kq v10 v11 v53 w' => ∃ (x10_3 : List Int) (x11_3 : List Int) (x53_3 : Int), v53 = .int .i64 x53_3 ∧ Aside0 (lin_Range.l1 kq l1 l2 x10_3 x11_3 l0_0 (l0_0.length : Int) x53_3 l0_0 a0_1 = some (r1, r2, r3)) ∧ Aside0 (kq ≤ k2) ∧ Aside0 (Kd.R (Kd.int .i64) 2 w' w.heap.size (fun k_ => some k_ ≠ (v11 : Value).ownBlock) v10 x10_3) ∧ Aside0 (Kd.R (Kd.int .i64) 2 w' w.heap.size (fun k_ => some k_ ≠ (v10 : Value).ownBlock) v11 x11_3) ∧ Aside0 (w'.heap[gb133]? = some (.cells #[(.slice A0_0 l0_0.length c0_0), .int .i64 a0_1] 24 (0, 0))) ∧ Aside0 (Below w.heap.size w w'))
       case atStart => exact ⟨(([] : List Int)), (([] : List Int)), (0), (by first | rfl | (simp; done) | (simp [*]; done) | (simp [bne_nil_, beq_nil_]; done)), H', ⟨Nat.le_refl _⟩, ⟨by first | exact Kd.R_nil _ _ _ _ _ | exact Kd.N_nil _ _ _ _ _ | exact Kd.V_nil _ _ _ _ _ | exact Kd.Q_nil _ _ _ _ _ | exact Kd.S_nil _ _ _ _ _⟩, ⟨by first | exact Kd.R_nil _ _ _ _ _ | exact Kd.N_nil _ _ _ _ _ | exact Kd.V_nil _ _ _ _ _ | exact Kd.Q_nil _ _ _ _ _ | exact Kd.S_nil _ _ _ _ _⟩, ⟨uB BK133.out⟩, ⟨by repeat (first | (with_reducible first | exact HB.out | apply bA | apply bN | apply bD | refine bS ?_ (by assumption)) | exact HB.out)⟩⟩
       case round =>
        clear H'
        try clear c1
        try clear p1
        try clear q1
        try clear hx1
        try clear c2
        try clear p2
        try clear c6
        try clear c6b0
        try clear c6b1
        try clear c6b2
        try clear p6
        try clear c9
        try clear c12
        try clear c12b0
        try clear c13
        try clear c13b0
        try clear p13
        try clear q13
        try clear hx13
        try clear c14
        try clear c14b0
        try clear c15
        try clear c15b0
        try clear c16
        try clear c16b0
        try clear hcz19_0
        try clear hcz19_1
        try clear hcz7_0
        try clear hcz7_1
        try clear hcz8_0
        try clear hcz8_1
        try clear hfz19_0
        try clear hfz19_1
        try clear hfz7_0
        try clear hfz7_1
        try clear hfz8_0
        try clear hfz8_1
        try clear hx137_0
        try clear hx138_0
        try clear p137
        try clear p138
        try clear p2
        try clear q137
        try clear q138
        obtain ⟨x10_3, x11_3, x53_3, rfl, HA, HK3, HO_10, HO_11, BK133, HB⟩ := hrel
        cases gk with
        | zero => exact absurd HA.out (by simp [lin_Range.l1])
        | succ k3 =>
         have H := HA.out
         clear HA
         simp only [lin_Range.l1] at H
         by_cases c20 : x53_3 < (l0_0.length : Int)
         ·rw [if_pos c20] at H
          have c20b0 : decide (x53_3 < (l0_0.length : Int)) = true := decide_eq_true c20
          clear c20
          by_cases c21 : 0 ≤ x53_3
          ·rw [if_pos c21] at H
           have c21b0 : decide (0 ≤ x53_3) = true := decide_eq_true c21
           clear c21
           by_cases c22 : x53_3 < (l0_0.length : Int)
           ·rw [if_pos c22] at H
            have c22b0 : decide (x53_3 < (l0_0.length : Int)) = true := decide_eq_true c22
            clear c22
            by_cases c23 : x53_3 < (l1.length : Int)
            ·rw [if_pos c23] at H
             have c23b0 : decide (x53_3 < (l1.length : Int)) = true := decide_eq_true c23
             clear c23
             by_cases c24 : x53_3 < (l2.length : Int)
             ·rw [if_pos c24] at H
              have c24b0 : decide (x53_3 < (l2.length : Int)) = true := decide_eq_true c24
              clear c24
              by_cases c25 : (rd l0_0 x53_3) < 0
              ·rw [if_pos c25] at H
               have c25b0 : decide ((rd l0_0 x53_3) < 0) = true := decide_eq_true c25
               clear c25
               by_cases c26 : x10_3.length < 17592186044416
               ·rw [if_pos c26] at H
                have LMc26 := mk0 c26
                clear c26
                obtain ⟨y145, hy145⟩ : ∃ y_ : List Int, y_ = (x10_3 ++ [rd l2 x53_3]) := ⟨_, rfl⟩
                replace H : (if x11_3.length < 17592186044416 then (lin_Range.l1 k3 l1 l2 y145 (x11_3 ++ [rd l1 x53_3]) l0_0 (l0_0.length : Int) (wrap64 (x53_3 + 1)) l0_0 a0_1) else (none)) = some (r1, r2, r3) := by first | (rw [hy145]; with_reducible exact H) | (have H2_ := (Option.bind_some _ _).symm.trans H; rw [hy145]; with_reducible exact H2_) | (have H2_ := (Option.bind_some _ _).symm.trans H; with_reducible exact H2_) | with_reducible exact H | (rw [hy145]; exact H) | exact H
                have Ny145 := mk0 hy145
                clear hy145
                by_cases c27 : x11_3.length < 17592186044416
                ·rw [if_pos c27] at H
                 have LMc27 := mk0 c27
                 clear c27
                 obtain ⟨y148, hy148⟩ : ∃ y_ : List Int, y_ = (x11_3 ++ [rd l1 x53_3]) := ⟨_, rfl⟩
                 replace H : (lin_Range.l1 k3 l1 l2 y145 y148 l0_0 (l0_0.length : Int) (wrap64 (x53_3 + 1)) l0_0 a0_1) = some (r1, r2, r3) := by first | (rw [hy148]; with_reducible exact H) | (have H2_ := (Option.bind_some _ _).symm.trans H; rw [hy148]; with_reducible exact H2_) | (have H2_ := (Option.bind_some _ _).symm.trans H; with_reducible exact H2_) | with_reducible exact H | (rw [hy148]; exact H) | exact H
                 have Ny148 := mk0 hy148
                 clear hy148
                 have H' := mk0 H
                 clear H
                 have p142 : 0 ≤ (x53_3 : Int) := of_decide_eq_true (by first | (with_reducible assumption) | assumption)
                 have q142 : x53_3 < (l0_0.length : Int) := of_decide_eq_true (by first | (with_reducible assumption) | assumption)
                 obtain ⟨ad142, e142, hx142_0⟩ := Kd.at_int HR0_0.out x53_3 p142 q142
                 cases e142
                 replace hx142_0 := (HB.out.cell (World.block_lt_of_cell? w _ hx142_0)).trans hx142_0
                 replace p142 := eq_true p142
                 replace q142 := eq_true q142
                 have p143 : 0 ≤ (x53_3 : Int) := of_decide_eq_true (by first | (with_reducible assumption) | assumption)
                 have q143 : x53_3 < (l1.length : Int) := of_decide_eq_true (by first | (with_reducible assumption) | assumption)
                 obtain ⟨ad143, e143, hx143_0⟩ := Kd.at_int HR1.out x53_3 p143 q143
                 cases e143
                 replace hx143_0 := (HB.out.cell (World.block_lt_of_cell? w _ hx143_0)).trans hx143_0
                 replace p143 := eq_true p143
                 replace q143 := eq_true q143
                 have p144 : 0 ≤ (x53_3 : Int) := of_decide_eq_true (by first | (with_reducible assumption) | assumption)
                 have q144 : x53_3 < (l2.length : Int) := of_decide_eq_true (by first | (with_reducible assumption) | assumption)
                 obtain ⟨ad144, e144, hx144_0⟩ := Kd.at_int HR2.out x53_3 p144 q144
                 cases e144
                 replace hx144_0 := (HB.out.cell (World.block_lt_of_cell? w _ hx144_0)).trans hx144_0
                 replace p144 := eq_true p144
                 replace q144 := eq_true q144
                 go_wp2_with (first | ((with_reducible refine gate_builtin (b := .append) (xs := #[.tmp 71, .tmp 73]) rfl ?_); (try (refine gate_guard (by rfl) ?_; dsimp only)); at_builtin; refine Kd.R_append (Kd.int .i64) (w0 := w) w.heap.size rfl (.tmp 71) (.tmp 73) 22 2 (.int .i64 0) 8 rfl Tryd.underlying22 info2 rfl (by decide) (by omega) u10 x10_3 (rd l2 x53_3) [.int .i64 (rd l2 x53_3)] (fun k_ => some k_ ≠ (u11 : Value).ownBlock) (fun _ => False) rfl rfl ?aP (fun _ hk => hk.elim) ?aF ?aO ?aB ?aS ?aL ?_; (case aP => exact rfl); (case aB => exact (by repeat (first | (with_reducible first | exact HB.out | apply bA | apply bN | apply bD | refine bS ?_ (by assumption)) | exact HB.out))); (case aF => exact (fun k_ hk => Kd.fresh' (Kd.R_lt (uR HO_11.out)) k_ hk)); (case aO => exact (uR HO_10.out)); (case aS => exact (below_size (by repeat (first | (with_reducible first | exact HB.out | apply bA | apply bN | apply bD | refine bS ?_ (by assumption)) | exact HB.out)))); (case aL => have := LMc26.out; omega); intro v146 w28 ho hb hg hat; rw [← Ny145.out] at ho; have n0_ := mk0 (Kd.R_after (ok := (fun _ => True)) (uR (Kd.R_mono HO_11.out (fun _ hk => ⟨trivial, hk⟩))) hg hat); have n1_ := mk0 (blk_grown (g := gb133) (o := .cells #[.slice (some ad142) l0_0.length c0_0, .int .i64 a0_1] 24 (0, 0)) (uB BK133.out) hg (Kd.R_ne HO_10.out BK133.out (by decide))); have n2_ := mk0 (hb); have n3_ := mk0 (ho); clear HO_11; clear BK133; clear HB; clear HO_10; have HO_11 := n0_; have BK133 := n1_; have HB := n2_; have HO147 := n3_; clear n0_ n1_ n2_ n3_; clear ho hb hg hat) | ((with_reducible refine gate_builtin (b := .append) (xs := #[.tmp 75, .tmp 77]) rfl ?_); (try (refine gate_guard (by rfl) ?_; dsimp only)); at_builtin; refine Kd.R_append (Kd.int .i64) (w0 := w) w.heap.size rfl (.tmp 75) (.tmp 77) 22 2 (.int .i64 0) 8 rfl Tryd.underlying22 info2 rfl (by decide) (by omega) u11 x11_3 (rd l1 x53_3) [.int .i64 (rd l1 x53_3)] (fun k_ => some k_ ≠ (v146 : Value).ownBlock) (fun _ => False) rfl rfl ?aP (fun _ hk => hk.elim) ?aF ?aO ?aB ?aS ?aL ?_; (case aP => exact rfl); (case aB => exact (by repeat (first | (with_reducible first | exact HB.out | apply bA | apply bN | apply bD | refine bS ?_ (by assumption)) | exact HB.out))); (case aF => exact (fun k_ hk => Kd.fresh' (Kd.R_lt (uR HO147.out)) k_ hk)); (case aO => exact (uR (Kd.R_mono HO_11.out (fun _ hk => hk.2)))); (case aS => exact (below_size (by repeat (first | (with_reducible first | exact HB.out | apply bA | apply bN | apply bD | refine bS ?_ (by assumption)) | exact HB.out)))); (case aL => have := LMc27.out; omega); intro v149 w29 ho hb hg hat; rw [← Ny148.out] at ho; have n0_ := mk0 (blk_grown (g := gb133) (o := .cells #[.slice (some ad142) l0_0.length c0_0, .int .i64 a0_1] 24 (0, 0)) (uB BK133.out) hg (Kd.R_ne HO_11.out BK133.out (by decide))); have n1_ := mk0 (Kd.R_after (ok := (fun _ => True)) (uR (Kd.R_mono HO147.out (fun _ hk => ⟨trivial, hk⟩))) hg hat); have n2_ := mk0 (hb); have n3_ := mk0 (ho); clear BK133; clear HO147; clear HB; clear HO_11; have BK133 := n0_; have HO147 := n1_; have HB := n2_; have HO150 := n3_; clear n0_ n1_ n2_ n3_; clear ho hb hg hat))
                 repeat (go_quiet (first | ((with_reducible refine gate_builtin (b := .append) (xs := #[.tmp 71, .tmp 73]) rfl ?_); (try (refine gate_guard (by rfl) ?_; dsimp only)); at_builtin; refine Kd.R_append (Kd.int .i64) (w0 := w) w.heap.size rfl (.tmp 71) (.tmp 73) 22 2 (.int .i64 0) 8 rfl Tryd.underlying22 info2 rfl (by decide) (by omega) u10 x10_3 (rd l2 x53_3) [.int .i64 (rd l2 x53_3)] (fun k_ => some k_ ≠ (u11 : Value).ownBlock) (fun _ => False) rfl rfl ?aP (fun _ hk => hk.elim) ?aF ?aO ?aB ?aS ?aL ?_; (case aP => exact rfl); (case aB => exact (by repeat (first | (with_reducible first | exact HB.out | apply bA | apply bN | apply bD | refine bS ?_ (by assumption)) | exact HB.out))); (case aF => exact (fun k_ hk => Kd.fresh' (Kd.R_lt (uR HO_11.out)) k_ hk)); (case aO => exact (uR HO_10.out)); (case aS => exact (below_size (by repeat (first | (with_reducible first | exact HB.out | apply bA | apply bN | apply bD | refine bS ?_ (by assumption)) | exact HB.out)))); (case aL => have := LMc26.out; omega); intro v146 w28 ho hb hg hat; rw [← Ny145.out] at ho; have n0_ := mk0 (Kd.R_after (ok := (fun _ => True)) (uR (Kd.R_mono HO_11.out (fun _ hk => ⟨trivial, hk⟩))) hg hat); have n1_ := mk0 (blk_grown (g := gb133) (o := .cells #[.slice (some ad142) l0_0.length c0_0, .int .i64 a0_1] 24 (0, 0)) (uB BK133.out) hg (Kd.R_ne HO_10.out BK133.out (by decide))); have n2_ := mk0 (hb); have n3_ := mk0 (ho); clear HO_11; clear BK133; clear HB; clear HO_10; have HO_11 := n0_; have BK133 := n1_; have HB := n2_; have HO147 := n3_; clear n0_ n1_ n2_ n3_; clear ho hb hg hat) | ((with_reducible refine gate_builtin (b := .append) (xs := #[.tmp 75, .tmp 77]) rfl ?_); (try (refine gate_guard (by rfl) ?_; dsimp only)); at_builtin; refine Kd.R_append (Kd.int .i64) (w0 := w) w.heap.size rfl (.tmp 75) (.tmp 77) 22 2 (.int .i64 0) 8 rfl Tryd.underlying22 info2 rfl (by decide) (by omega) u11 x11_3 (rd l1 x53_3) [.int .i64 (rd l1 x53_3)] (fun k_ => some k_ ≠ (v146 : Value).ownBlock) (fun _ => False) rfl rfl ?aP (fun _ hk => hk.elim) ?aF ?aO ?aB ?aS ?aL ?_; (case aP => exact rfl); (case aB => exact (by repeat (first | (with_reducible first | exact HB.out | apply bA | apply bN | apply bD | refine bS ?_ (by assumption)) | exact HB.out))); (case aF => exact (fun k_ hk => Kd.fresh' (Kd.R_lt (uR HO147.out)) k_ hk)); (case aO => exact (uR (Kd.R_mono HO_11.out (fun _ hk => hk.2)))); (case aS => exact (below_size (by repeat (first | (with_reducible first | exact HB.out | apply bA | apply bN | apply bD | refine bS ?_ (by assumption)) | exact HB.out)))); (case aL => have := LMc27.out; omega); intro v149 w29 ho hb hg hat; rw [← Ny148.out] at ho; have n0_ := mk0 (blk_grown (g := gb133) (o := .cells #[.slice (some ad142) l0_0.length c0_0, .int .i64 a0_1] 24 (0, 0)) (uB BK133.out) hg (Kd.R_ne HO_11.out BK133.out (by decide))); have n1_ := mk0 (Kd.R_after (ok := (fun _ => True)) (uR (Kd.R_mono HO147.out (fun _ hk => ⟨trivial, hk⟩))) hg hat); have n2_ := mk0 (hb); have n3_ := mk0 (ho); clear BK133; clear HO147; clear HB; clear HO_11; have BK133 := n0_; have HO147 := n1_; have HB := n2_; have HO150 := n3_; clear n0_ n1_ n2_ n3_; clear ho hb hg hat)); try go_wp2_with (first | ((with_reducible refine gate_builtin (b := .append) (xs := #[.tmp 71, .tmp 73]) rfl ?_); (try (refine gate_guard (by rfl) ?_; dsimp only)); at_builtin; refine Kd.R_append (Kd.int .i64) (w0 := w) w.heap.size rfl (.tmp 71) (.tmp 73) 22 2 (.int .i64 0) 8 rfl Tryd.underlying22 info2 rfl (by decide) (by omega) u10 x10_3 (rd l2 x53_3) [.int .i64 (rd l2 x53_3)] (fun k_ => some k_ ≠ (u11 : Value).ownBlock) (fun _ => False) rfl rfl ?aP (fun _ hk => hk.elim) ?aF ?aO ?aB ?aS ?aL ?_; (case aP => exact rfl); (case aB => exact (by repeat (first | (with_reducible first | exact HB.out | apply bA | apply bN | apply bD | refine bS ?_ (by assumption)) | exact HB.out))); (case aF => exact (fun k_ hk => Kd.fresh' (Kd.R_lt (uR HO_11.out)) k_ hk)); (case aO => exact (uR HO_10.out)); (case aS => exact (below_size (by repeat (first | (with_reducible first | exact HB.out | apply bA | apply bN | apply bD | refine bS ?_ (by assumption)) | exact HB.out)))); (case aL => have := LMc26.out; omega); intro v146 w28 ho hb hg hat; rw [← Ny145.out] at ho; have n0_ := mk0 (Kd.R_after (ok := (fun _ => True)) (uR (Kd.R_mono HO_11.out (fun _ hk => ⟨trivial, hk⟩))) hg hat); have n1_ := mk0 (blk_grown (g := gb133) (o := .cells #[.slice (some ad142) l0_0.length c0_0, .int .i64 a0_1] 24 (0, 0)) (uB BK133.out) hg (Kd.R_ne HO_10.out BK133.out (by decide))); have n2_ := mk0 (hb); have n3_ := mk0 (ho); clear HO_11; clear BK133; clear HB; clear HO_10; have HO_11 := n0_; have BK133 := n1_; have HB := n2_; have HO147 := n3_; clear n0_ n1_ n2_ n3_; clear ho hb hg hat) | ((with_reducible refine gate_builtin (b := .append) (xs := #[.tmp 75, .tmp 77]) rfl ?_); (try (refine gate_guard (by rfl) ?_; dsimp only)); at_builtin; refine Kd.R_append (Kd.int .i64) (w0 := w) w.heap.size rfl (.tmp 75) (.tmp 77) 22 2 (.int .i64 0) 8 rfl Tryd.underlying22 info2 rfl (by decide) (by omega) u11 x11_3 (rd l1 x53_3) [.int .i64 (rd l1 x53_3)] (fun k_ => some k_ ≠ (v146 : Value).ownBlock) (fun _ => False) rfl rfl ?aP (fun _ hk => hk.elim) ?aF ?aO ?aB ?aS ?aL ?_; (case aP => exact rfl); (case aB => exact (by repeat (first | (with_reducible first | exact HB.out | apply bA | apply bN | apply bD | refine bS ?_ (by assumption)) | exact HB.out))); (case aF => exact (fun k_ hk => Kd.fresh' (Kd.R_lt (uR HO147.out)) k_ hk)); (case aO => exact (uR (Kd.R_mono HO_11.out (fun _ hk => hk.2)))); (case aS => exact (below_size (by repeat (first | (with_reducible first | exact HB.out | apply bA | apply bN | apply bD | refine bS ?_ (by assumption)) | exact HB.out)))); (case aL => have := LMc27.out; omega); intro v149 w29 ho hb hg hat; rw [← Ny148.out] at ho; have n0_ := mk0 (blk_grown (g := gb133) (o := .cells #[.slice (some ad142) l0_0.length c0_0, .int .i64 a0_1] 24 (0, 0)) (uB BK133.out) hg (Kd.R_ne HO_11.out BK133.out (by decide))); have n1_ := mk0 (Kd.R_after (ok := (fun _ => True)) (uR (Kd.R_mono HO147.out (fun _ hk => ⟨trivial, hk⟩))) hg hat); have n2_ := mk0 (hb); have n3_ := mk0 (ho); clear BK133; clear HO147; clear HB; clear HO_11; have BK133 := n0_; have HO147 := n1_; have HB := n2_; have HO150 := n3_; clear n0_ n1_ n2_ n3_; clear ho hb hg hat)))
                 go_roundg k3
                 case measure => have := HJ3.out; have := HK2.out; have := HK3.out; omega
                 case rel => exact ⟨(y145), (y148), (wrap64 (x53_3 + 1)), (by first | rfl | (simp; done) | (simp [*]; done) | (simp [bne_nil_, beq_nil_]; done)), H', ⟨by have := HJ3.out; have := HK2.out; have := HK3.out; omega⟩, ⟨uR (Kd.R_mono HO147.out (fun _ hk => hk.2))⟩, ⟨uR HO150.out⟩, ⟨uB BK133.out⟩, ⟨by repeat (first | (with_reducible first | exact HB.out | apply bA | apply bN | apply bD | refine bS ?_ (by assumption)) | exact HB.out)⟩⟩
                ·rw [if_neg c27] at H
                 exact absurd H (by simp)
               ·rw [if_neg c26] at H
                exact absurd H (by simp)
              ·rw [if_neg c25] at H
               have c25b0 : decide ((rd l0_0 x53_3) < 0) = false := decide_eq_false c25
               clear c25
               by_cases c30 : x10_3.length < 17592186044416
               ·rw [if_pos c30] at H
                have LMc30 := mk0 c30
                clear c30
                obtain ⟨y151, hy151⟩ : ∃ y_ : List Int, y_ = (x10_3 ++ [rd l1 x53_3]) := ⟨_, rfl⟩
                replace H : (if x11_3.length < 17592186044416 then (lin_Range.l1 k3 l1 l2 y151 (x11_3 ++ [rd l2 x53_3]) l0_0 (l0_0.length : Int) (wrap64 (x53_3 + 1)) l0_0 a0_1) else (none)) = some (r1, r2, r3) := by first | (rw [hy151]; with_reducible exact H) | (have H2_ := (Option.bind_some _ _).symm.trans H; rw [hy151]; with_reducible exact H2_) | (have H2_ := (Option.bind_some _ _).symm.trans H; with_reducible exact H2_) | with_reducible exact H | (rw [hy151]; exact H) | exact H
                have Ny151 := mk0 hy151
                clear hy151
                by_cases c31 : x11_3.length < 17592186044416
                ·rw [if_pos c31] at H
                 have LMc31 := mk0 c31
                 clear c31
                 obtain ⟨y154, hy154⟩ : ∃ y_ : List Int, y_ = (x11_3 ++ [rd l2 x53_3]) := ⟨_, rfl⟩
                 replace H : (lin_Range.l1 k3 l1 l2 y151 y154 l0_0 (l0_0.length : Int) (wrap64 (x53_3 + 1)) l0_0 a0_1) = some (r1, r2, r3) := by first | (rw [hy154]; with_reducible exact H) | (have H2_ := (Option.bind_some _ _).symm.trans H; rw [hy154]; with_reducible exact H2_) | (have H2_ := (Option.bind_some _ _).symm.trans H; with_reducible exact H2_) | with_reducible exact H | (rw [hy154]; exact H) | exact H
                 have Ny154 := mk0 hy154
                 clear hy154
                 have H' := mk0 H
                 clear H
                 have p142 : 0 ≤ (x53_3 : Int) := of_decide_eq_true (by first | (with_reducible assumption) | assumption)
                 have q142 : x53_3 < (l0_0.length : Int) := of_decide_eq_true (by first | (with_reducible assumption) | assumption)
                 obtain ⟨ad142, e142, hx142_0⟩ := Kd.at_int HR0_0.out x53_3 p142 q142
                 cases e142
                 replace hx142_0 := (HB.out.cell (World.block_lt_of_cell? w _ hx142_0)).trans hx142_0
                 replace p142 := eq_true p142
                 replace q142 := eq_true q142
                 have p143 : 0 ≤ (x53_3 : Int) := of_decide_eq_true (by first | (with_reducible assumption) | assumption)
                 have q143 : x53_3 < (l1.length : Int) := of_decide_eq_true (by first | (with_reducible assumption) | assumption)
                 obtain ⟨ad143, e143, hx143_0⟩ := Kd.at_int HR1.out x53_3 p143 q143
                 cases e143
                 replace hx143_0 := (HB.out.cell (World.block_lt_of_cell? w _ hx143_0)).trans hx143_0
                 replace p143 := eq_true p143
                 replace q143 := eq_true q143
                 have p144 : 0 ≤ (x53_3 : Int) := of_decide_eq_true (by first | (with_reducible assumption) | assumption)
                 have q144 : x53_3 < (l2.length : Int) := of_decide_eq_true (by first | (with_reducible assumption) | assumption)
                 obtain ⟨ad144, e144, hx144_0⟩ := Kd.at_int HR2.out x53_3 p144 q144
                 cases e144
                 replace hx144_0 := (HB.out.cell (World.block_lt_of_cell? w _ hx144_0)).trans hx144_0
                 replace p144 := eq_true p144
                 replace q144 := eq_true q144
                 go_wp2_with (first | ((with_reducible refine gate_builtin (b := .append) (xs := #[.tmp 71, .tmp 73]) rfl ?_); (try (refine gate_guard (by rfl) ?_; dsimp only)); at_builtin; refine Kd.R_append (Kd.int .i64) (w0 := w) w.heap.size rfl (.tmp 71) (.tmp 73) 22 2 (.int .i64 0) 8 rfl Tryd.underlying22 info2 rfl (by decide) (by omega) u10 x10_3 (rd l1 x53_3) [.int .i64 (rd l1 x53_3)] (fun k_ => some k_ ≠ (u11 : Value).ownBlock) (fun _ => False) rfl rfl ?aP (fun _ hk => hk.elim) ?aF ?aO ?aB ?aS ?aL ?_; (case aP => exact rfl); (case aB => exact (by repeat (first | (with_reducible first | exact HB.out | apply bA | apply bN | apply bD | refine bS ?_ (by assumption)) | exact HB.out))); (case aF => exact (fun k_ hk => Kd.fresh' (Kd.R_lt (uR HO_11.out)) k_ hk)); (case aO => exact (uR HO_10.out)); (case aS => exact (below_size (by repeat (first | (with_reducible first | exact HB.out | apply bA | apply bN | apply bD | refine bS ?_ (by assumption)) | exact HB.out)))); (case aL => have := LMc30.out; omega); intro v152 w32 ho hb hg hat; rw [← Ny151.out] at ho; have n0_ := mk0 (Kd.R_after (ok := (fun _ => True)) (uR (Kd.R_mono HO_11.out (fun _ hk => ⟨trivial, hk⟩))) hg hat); have n1_ := mk0 (blk_grown (g := gb133) (o := .cells #[.slice (some ad142) l0_0.length c0_0, .int .i64 a0_1] 24 (0, 0)) (uB BK133.out) hg (Kd.R_ne HO_10.out BK133.out (by decide))); have n2_ := mk0 (hb); have n3_ := mk0 (ho); clear HO_11; clear BK133; clear HB; clear HO_10; have HO_11 := n0_; have BK133 := n1_; have HB := n2_; have HO153 := n3_; clear n0_ n1_ n2_ n3_; clear ho hb hg hat) | ((with_reducible refine gate_builtin (b := .append) (xs := #[.tmp 75, .tmp 77]) rfl ?_); (try (refine gate_guard (by rfl) ?_; dsimp only)); at_builtin; refine Kd.R_append (Kd.int .i64) (w0 := w) w.heap.size rfl (.tmp 75) (.tmp 77) 22 2 (.int .i64 0) 8 rfl Tryd.underlying22 info2 rfl (by decide) (by omega) u11 x11_3 (rd l2 x53_3) [.int .i64 (rd l2 x53_3)] (fun k_ => some k_ ≠ (v152 : Value).ownBlock) (fun _ => False) rfl rfl ?aP (fun _ hk => hk.elim) ?aF ?aO ?aB ?aS ?aL ?_; (case aP => exact rfl); (case aB => exact (by repeat (first | (with_reducible first | exact HB.out | apply bA | apply bN | apply bD | refine bS ?_ (by assumption)) | exact HB.out))); (case aF => exact (fun k_ hk => Kd.fresh' (Kd.R_lt (uR HO153.out)) k_ hk)); (case aO => exact (uR (Kd.R_mono HO_11.out (fun _ hk => hk.2)))); (case aS => exact (below_size (by repeat (first | (with_reducible first | exact HB.out | apply bA | apply bN | apply bD | refine bS ?_ (by assumption)) | exact HB.out)))); (case aL => have := LMc31.out; omega); intro v155 w33 ho hb hg hat; rw [← Ny154.out] at ho; have n0_ := mk0 (blk_grown (g := gb133) (o := .cells #[.slice (some ad142) l0_0.length c0_0, .int .i64 a0_1] 24 (0, 0)) (uB BK133.out) hg (Kd.R_ne HO_11.out BK133.out (by decide))); have n1_ := mk0 (Kd.R_after (ok := (fun _ => True)) (uR (Kd.R_mono HO153.out (fun _ hk => ⟨trivial, hk⟩))) hg hat); have n2_ := mk0 (hb); have n3_ := mk0 (ho); clear BK133; clear HO153; clear HB; clear HO_11; have BK133 := n0_; have HO153 := n1_; have HB := n2_; have HO156 := n3_; clear n0_ n1_ n2_ n3_; clear ho hb hg hat))
                 repeat (go_quiet (first | ((with_reducible refine gate_builtin (b := .append) (xs := #[.tmp 71, .tmp 73]) rfl ?_); (try (refine gate_guard (by rfl) ?_; dsimp only)); at_builtin; refine Kd.R_append (Kd.int .i64) (w0 := w) w.heap.size rfl (.tmp 71) (.tmp 73) 22 2 (.int .i64 0) 8 rfl Tryd.underlying22 info2 rfl (by decide) (by omega) u10 x10_3 (rd l1 x53_3) [.int .i64 (rd l1 x53_3)] (fun k_ => some k_ ≠ (u11 : Value).ownBlock) (fun _ => False) rfl rfl ?aP (fun _ hk => hk.elim) ?aF ?aO ?aB ?aS ?aL ?_; (case aP => exact rfl); (case aB => exact (by repeat (first | (with_reducible first | exact HB.out | apply bA | apply bN | apply bD | refine bS ?_ (by assumption)) | exact HB.out))); (case aF => exact (fun k_ hk => Kd.fresh' (Kd.R_lt (uR HO_11.out)) k_ hk)); (case aO => exact (uR HO_10.out)); (case aS => exact (below_size (by repeat (first | (with_reducible first | exact HB.out | apply bA | apply bN | apply bD | refine bS ?_ (by assumption)) | exact HB.out)))); (case aL => have := LMc30.out; omega); intro v152 w32 ho hb hg hat; rw [← Ny151.out] at ho; have n0_ := mk0 (Kd.R_after (ok := (fun _ => True)) (uR (Kd.R_mono HO_11.out (fun _ hk => ⟨trivial, hk⟩))) hg hat); have n1_ := mk0 (blk_grown (g := gb133) (o := .cells #[.slice (some ad142) l0_0.length c0_0, .int .i64 a0_1] 24 (0, 0)) (uB BK133.out) hg (Kd.R_ne HO_10.out BK133.out (by decide))); have n2_ := mk0 (hb); have n3_ := mk0 (ho); clear HO_11; clear BK133; clear HB; clear HO_10; have HO_11 := n0_; have BK133 := n1_; have HB := n2_; have HO153 := n3_; clear n0_ n1_ n2_ n3_; clear ho hb hg hat) | ((with_reducible refine gate_builtin (b := .append) (xs := #[.tmp 75, .tmp 77]) rfl ?_); (try (refine gate_guard (by rfl) ?_; dsimp only)); at_builtin; refine Kd.R_append (Kd.int .i64) (w0 := w) w.heap.size rfl (.tmp 75) (.tmp 77) 22 2 (.int .i64 0) 8 rfl Tryd.underlying22 info2 rfl (by decide) (by omega) u11 x11_3 (rd l2 x53_3) [.int .i64 (rd l2 x53_3)] (fun k_ => some k_ ≠ (v152 : Value).ownBlock) (fun _ => False) rfl rfl ?aP (fun _ hk => hk.elim) ?aF ?aO ?aB ?aS ?aL ?_; (case aP => exact rfl); (case aB => exact (by repeat (first | (with_reducible first | exact HB.out | apply bA | apply bN | apply bD | refine bS ?_ (by assumption)) | exact HB.out))); (case aF => exact (fun k_ hk => Kd.fresh' (Kd.R_lt (uR HO153.out)) k_ hk)); (case aO => exact (uR (Kd.R_mono HO_11.out (fun _ hk => hk.2)))); (case aS => exact (below_size (by repeat (first | (with_reducible first | exact HB.out | apply bA | apply bN | apply bD | refine bS ?_ (by assumption)) | exact HB.out)))); (case aL => have := LMc31.out; omega); intro v155 w33 ho hb hg hat; rw [← Ny154.out] at ho; have n0_ := mk0 (blk_grown (g := gb133) (o := .cells #[.slice (some ad142) l0_0.length c0_0, .int .i64 a0_1] 24 (0, 0)) (uB BK133.out) hg (Kd.R_ne HO_11.out BK133.out (by decide))); have n1_ := mk0 (Kd.R_after (ok := (fun _ => True)) (uR (Kd.R_mono HO153.out (fun _ hk => ⟨trivial, hk⟩))) hg hat); have n2_ := mk0 (hb); have n3_ := mk0 (ho); clear BK133; clear HO153; clear HB; clear HO_11; have BK133 := n0_; have HO153 := n1_; have HB := n2_; have HO156 := n3_; clear n0_ n1_ n2_ n3_; clear ho hb hg hat)); try go_wp2_with (first | ((with_reducible refine gate_builtin (b := .append) (xs := #[.tmp 71, .tmp 73]) rfl ?_); (try (refine gate_guard (by rfl) ?_; dsimp only)); at_builtin; refine Kd.R_append (Kd.int .i64) (w0 := w) w.heap.size rfl (.tmp 71) (.tmp 73) 22 2 (.int .i64 0) 8 rfl Tryd.underlying22 info2 rfl (by decide) (by omega) u10 x10_3 (rd l1 x53_3) [.int .i64 (rd l1 x53_3)] (fun k_ => some k_ ≠ (u11 : Value).ownBlock) (fun _ => False) rfl rfl ?aP (fun _ hk => hk.elim) ?aF ?aO ?aB ?aS ?aL ?_; (case aP => exact rfl); (case aB => exact (by repeat (first | (with_reducible first | exact HB.out | apply bA | apply bN | apply bD | refine bS ?_ (by assumption)) | exact HB.out))); (case aF => exact (fun k_ hk => Kd.fresh' (Kd.R_lt (uR HO_11.out)) k_ hk)); (case aO => exact (uR HO_10.out)); (case aS => exact (below_size (by repeat (first | (with_reducible first | exact HB.out | apply bA | apply bN | apply bD | refine bS ?_ (by assumption)) | exact HB.out)))); (case aL => have := LMc30.out; omega); intro v152 w32 ho hb hg hat; rw [← Ny151.out] at ho; have n0_ := mk0 (Kd.R_after (ok := (fun _ => True)) (uR (Kd.R_mono HO_11.out (fun _ hk => ⟨trivial, hk⟩))) hg hat); have n1_ := mk0 (blk_grown (g := gb133) (o := .cells #[.slice (some ad142) l0_0.length c0_0, .int .i64 a0_1] 24 (0, 0)) (uB BK133.out) hg (Kd.R_ne HO_10.out BK133.out (by decide))); have n2_ := mk0 (hb); have n3_ := mk0 (ho); clear HO_11; clear BK133; clear HB; clear HO_10; have HO_11 := n0_; have BK133 := n1_; have HB := n2_; have HO153 := n3_; clear n0_ n1_ n2_ n3_; clear ho hb hg hat) | ((with_reducible refine gate_builtin (b := .append) (xs := #[.tmp 75, .tmp 77]) rfl ?_); (try (refine gate_guard (by rfl) ?_; dsimp only)); at_builtin; refine Kd.R_append (Kd.int .i64) (w0 := w) w.heap.size rfl (.tmp 75) (.tmp 77) 22 2 (.int .i64 0) 8 rfl Tryd.underlying22 info2 rfl (by decide) (by omega) u11 x11_3 (rd l2 x53_3) [.int .i64 (rd l2 x53_3)] (fun k_ => some k_ ≠ (v152 : Value).ownBlock) (fun _ => False) rfl rfl ?aP (fun _ hk => hk.elim) ?aF ?aO ?aB ?aS ?aL ?_; (case aP => exact rfl); (case aB => exact (by repeat (first | (with_reducible first | exact HB.out | apply bA | apply bN | apply bD | refine bS ?_ (by assumption)) | exact HB.out))); (case aF => exact (fun k_ hk => Kd.fresh' (Kd.R_lt (uR HO153.out)) k_ hk)); (case aO => exact (uR (Kd.R_mono HO_11.out (fun _ hk => hk.2)))); (case aS => exact (below_size (by repeat (first | (with_reducible first | exact HB.out | apply bA | apply bN | apply bD | refine bS ?_ (by assumption)) | exact HB.out)))); (case aL => have := LMc31.out; omega); intro v155 w33 ho hb hg hat; rw [← Ny154.out] at ho; have n0_ := mk0 (blk_grown (g := gb133) (o := .cells #[.slice (some ad142) l0_0.length c0_0, .int .i64 a0_1] 24 (0, 0)) (uB BK133.out) hg (Kd.R_ne HO_11.out BK133.out (by decide))); have n1_ := mk0 (Kd.R_after (ok := (fun _ => True)) (uR (Kd.R_mono HO153.out (fun _ hk => ⟨trivial, hk⟩))) hg hat); have n2_ := mk0 (hb); have n3_ := mk0 (ho); clear BK133; clear HO153; clear HB; clear HO_11; have BK133 := n0_; have HO153 := n1_; have HB := n2_; have HO156 := n3_; clear n0_ n1_ n2_ n3_; clear ho hb hg hat)))
                 go_roundg k3
                 case measure => have := HJ3.out; have := HK2.out; have := HK3.out; omega
                 case rel => exact ⟨(y151), (y154), (wrap64 (x53_3 + 1)), (by first | rfl | (simp; done) | (simp [*]; done) | (simp [bne_nil_, beq_nil_]; done)), H', ⟨by have := HJ3.out; have := HK2.out; have := HK3.out; omega⟩, ⟨uR (Kd.R_mono HO153.out (fun _ hk => hk.2))⟩, ⟨uR HO156.out⟩, ⟨uB BK133.out⟩, ⟨by repeat (first | (with_reducible first | exact HB.out | apply bA | apply bN | apply bD | refine bS ?_ (by assumption)) | exact HB.out)⟩⟩
                ·rw [if_neg c31] at H
                 exact absurd H (by simp)
               ·rw [if_neg c30] at H
                exact absurd H (by simp)
             ·rw [if_neg c24] at H
              exact absurd H (by simp)
            ·rw [if_neg c23] at H
             exact absurd H (by simp)
           ·rw [if_neg c22] at H
            exact absurd H (by simp)
          ·rw [if_neg c21] at H
           exact absurd H (by simp)
         ·rw [if_neg c20] at H
          have c20b0 : decide (x53_3 < (l0_0.length : Int)) = false := decide_eq_false c20
          clear c20
          replace H := Option.bind_eq_some_iff.mp H
          obtain ⟨⟨t157, t158⟩, A340, H⟩ := H
          replace H : (if (t158.length : Int) = 0 then ((lin_At.f k3 l0_0 a0_1 x11_3).bind fun bt161 => (if (bt161.2.length : Int) = 0 then (some (t157, bt161.1, ([] : List (Flt)))) else (some (0, 0, bt161.2)))) else (some (0, 0, t158))) = some (r1, r2, r3) := H
          have A34 := mk0 A340
          clear A340
          by_cases c35 : (t158.length : Int) = 0
          ·rw [if_pos c35] at H
           have c35b0 : ((t158.length : Int) == 0) = true := beq_iff_eq.mpr c35
           have c35b1 : ((t158.length : Int) != 0) = false := bne_eq_false_iff_eq.mpr c35
           clear c35
           replace H := Option.bind_eq_some_iff.mp H
           obtain ⟨⟨t161, t162⟩, A360, H⟩ := H
           replace H : (if (t162.length : Int) = 0 then (some (t157, t161, ([] : List (Flt)))) else (some (0, 0, t162))) = some (r1, r2, r3) := H
           have A36 := mk0 A360
           clear A360
           by_cases c37 : (t162.length : Int) = 0
           ·rw [if_pos c37] at H
            have c37b0 : ((t162.length : Int) == 0) = true := beq_iff_eq.mpr c37
            have c37b1 : ((t162.length : Int) != 0) = false := bne_eq_false_iff_eq.mpr c37
            clear c37
            simp only [Option.some.injEq, Prod.mk.injEq] at H
            obtain ⟨rfl, rfl, rfl⟩ := H
            have hcz38_0 : wr.cell? ⟨gb133, 0, none⟩ = some (.slice A0_0 l0_0.length c0_0) := (blk_cell BK133.out 0).trans rfl
            have hcz38_1 : wr.cell? ⟨gb133, 1, none⟩ = some (.int .i64 a0_1) := (blk_cell BK133.out 1).trans rfl
            have hfz38_0 := blk_frozen BK133.out 0
            have hfz38_1 := blk_frozen BK133.out 1
            obtain ⟨Ao39, co39, eo39⟩ := Kd.R_slice HO_10.out
            subst eo39
            go_wp2_with (first | (go_at_call 19; (with_reducible refine (lin_At.calls k3 _ _ l0_0 a0_1 _ _ x10_3 t157 t158 _ ?side1 ?side2 ?side3 ?side4 A34.out).mono ?_); (case side1 => repeat (first | exact (Kd.C_below HR0_0.out HB.out) | (with_reducible refine Kd.C_alloc ?_ _) | (with_reducible refine Kd.C_drewN ?_ _) | (with_reducible refine Kd.C_drew ?_))); (case side2 => exact HC0_0.out); (case side3 => repeat (first | exact (Kd.R_reads' HO_10.out).2.2 | (with_reducible refine Kd.C_alloc ?_ _) | (with_reducible refine Kd.C_drewN ?_ _) | (with_reducible refine Kd.C_drew ?_))); (case side4 => exact (Kd.R_reads' HO_10.out).2.1); rintro e w40 ⟨v159, rfl, ho0, hb⟩; have n0_ := mk0 (Kd.R_below (uR HO_10.out) hb); have n1_ := mk0 (Kd.R_below (uR HO_11.out) hb); have n2_ := mk0 (Kd.R_lower ho0 (below_size (by repeat (first | (with_reducible first | exact HB.out | apply bA | apply bN | apply bD | refine bS ?_ (by assumption)) | exact HB.out)))); have n3_ := mk0 (blk_below (g := gb133) (o := .cells #[.slice A0_0 l0_0.length c0_0, .int .i64 a0_1] 24 (0, 0)) (uB BK133.out) hb); have n4_ := mk0 (below_step (by repeat (first | (with_reducible first | exact HB.out | apply bA | apply bN | apply bD | refine bS ?_ (by assumption)) | exact HB.out)) hb); clear HO_10; clear HO_11; clear BK133; clear HB; have HO_10 := n0_; have HO_11 := n1_; have HO160 := n2_; have BK133 := n3_; have HB := n4_; clear n0_ n1_ n2_ n3_ n4_; (try clear hb); (try clear hb2); (try clear hk); (try clear hi); (try clear ho0); (first | (have EHO160 := cmpV_no HO160.out (by with_reducible assumption)) | (have EHO160 := cmpV_yes HO160.out (by with_reducible assumption)) | skip); have hcz41_0 : w40.cell? ⟨gb133, 0, none⟩ = some (.slice A0_0 l0_0.length c0_0) := (blk_cell BK133.out 0).trans rfl; have hcz41_1 : w40.cell? ⟨gb133, 1, none⟩ = some (.int .i64 a0_1) := (blk_cell BK133.out 1).trans rfl; have hfz41_0 := blk_frozen BK133.out 0; have hfz41_1 := blk_frozen BK133.out 1; obtain ⟨Ao42, co42, eo42⟩ := Kd.R_slice HO_11.out; subst eo42) | (go_at_call 19; (with_reducible refine (lin_At.calls k3 _ _ l0_0 a0_1 _ _ x11_3 t161 t162 _ ?side1 ?side2 ?side3 ?side4 A36.out).mono ?_); (case side1 => repeat (first | exact (Kd.C_below HR0_0.out HB.out) | (with_reducible refine Kd.C_alloc ?_ _) | (with_reducible refine Kd.C_drewN ?_ _) | (with_reducible refine Kd.C_drew ?_))); (case side2 => exact HC0_0.out); (case side3 => repeat (first | exact (Kd.R_reads' HO_11.out).2.2 | (with_reducible refine Kd.C_alloc ?_ _) | (with_reducible refine Kd.C_drewN ?_ _) | (with_reducible refine Kd.C_drew ?_))); (case side4 => exact (Kd.R_reads' HO_11.out).2.1); rintro e w43 ⟨v163, rfl, ho0, hb⟩; have n0_ := mk0 (Kd.R_below (uR HO_10.out) hb); have n1_ := mk0 (Kd.R_below (uR HO_11.out) hb); have n2_ := mk0 (Kd.R_elder' (uR HO160.out) (Kd.R_base ho0) hb); have n3_ := mk0 (Kd.R_lower (Kd.R_new' ho0 (Kd.R_lt (uR HO160.out))) (below_size (by repeat (first | (with_reducible first | exact HB.out | apply bA | apply bN | apply bD | refine bS ?_ (by assumption)) | exact HB.out)))); have n4_ := mk0 (blk_below (g := gb133) (o := .cells #[.slice A0_0 l0_0.length c0_0, .int .i64 a0_1] 24 (0, 0)) (uB BK133.out) hb); have n5_ := mk0 (below_step (by repeat (first | (with_reducible first | exact HB.out | apply bA | apply bN | apply bD | refine bS ?_ (by assumption)) | exact HB.out)) hb); clear HO_10; clear HO_11; clear HO160; clear BK133; clear HB; have HO_10 := n0_; have HO_11 := n1_; have HO160 := n2_; have HO164 := n3_; have BK133 := n4_; have HB := n5_; clear n0_ n1_ n2_ n3_ n4_ n5_; (try clear hb); (try clear hb2); (try clear hk); (try clear hi); (try clear ho0); (first | (have EHO164 := cmpV_no HO164.out (by with_reducible assumption)) | (have EHO164 := cmpV_yes HO164.out (by with_reducible assumption)) | skip)))
            repeat (go_quiet (first | (go_at_call 19; (with_reducible refine (lin_At.calls k3 _ _ l0_0 a0_1 _ _ x10_3 t157 t158 _ ?side1 ?side2 ?side3 ?side4 A34.out).mono ?_); (case side1 => repeat (first | exact (Kd.C_below HR0_0.out HB.out) | (with_reducible refine Kd.C_alloc ?_ _) | (with_reducible refine Kd.C_drewN ?_ _) | (with_reducible refine Kd.C_drew ?_))); (case side2 => exact HC0_0.out); (case side3 => repeat (first | exact (Kd.R_reads' HO_10.out).2.2 | (with_reducible refine Kd.C_alloc ?_ _) | (with_reducible refine Kd.C_drewN ?_ _) | (with_reducible refine Kd.C_drew ?_))); (case side4 => exact (Kd.R_reads' HO_10.out).2.1); rintro e w40 ⟨v159, rfl, ho0, hb⟩; have n0_ := mk0 (Kd.R_below (uR HO_10.out) hb); have n1_ := mk0 (Kd.R_below (uR HO_11.out) hb); have n2_ := mk0 (Kd.R_lower ho0 (below_size (by repeat (first | (with_reducible first | exact HB.out | apply bA | apply bN | apply bD | refine bS ?_ (by assumption)) | exact HB.out)))); have n3_ := mk0 (blk_below (g := gb133) (o := .cells #[.slice A0_0 l0_0.length c0_0, .int .i64 a0_1] 24 (0, 0)) (uB BK133.out) hb); have n4_ := mk0 (below_step (by repeat (first | (with_reducible first | exact HB.out | apply bA | apply bN | apply bD | refine bS ?_ (by assumption)) | exact HB.out)) hb); clear HO_10; clear HO_11; clear BK133; clear HB; have HO_10 := n0_; have HO_11 := n1_; have HO160 := n2_; have BK133 := n3_; have HB := n4_; clear n0_ n1_ n2_ n3_ n4_; (try clear hb); (try clear hb2); (try clear hk); (try clear hi); (try clear ho0); (first | (have EHO160 := cmpV_no HO160.out (by with_reducible assumption)) | (have EHO160 := cmpV_yes HO160.out (by with_reducible assumption)) | skip); have hcz41_0 : w40.cell? ⟨gb133, 0, none⟩ = some (.slice A0_0 l0_0.length c0_0) := (blk_cell BK133.out 0).trans rfl; have hcz41_1 : w40.cell? ⟨gb133, 1, none⟩ = some (.int .i64 a0_1) := (blk_cell BK133.out 1).trans rfl; have hfz41_0 := blk_frozen BK133.out 0; have hfz41_1 := blk_frozen BK133.out 1; obtain ⟨Ao42, co42, eo42⟩ := Kd.R_slice HO_11.out; subst eo42) | (go_at_call 19; (with_reducible refine (lin_At.calls k3 _ _ l0_0 a0_1 _ _ x11_3 t161 t162 _ ?side1 ?side2 ?side3 ?side4 A36.out).mono ?_); (case side1 => repeat (first | exact (Kd.C_below HR0_0.out HB.out) | (with_reducible refine Kd.C_alloc ?_ _) | (with_reducible refine Kd.C_drewN ?_ _) | (with_reducible refine Kd.C_drew ?_))); (case side2 => exact HC0_0.out); (case side3 => repeat (first | exact (Kd.R_reads' HO_11.out).2.2 | (with_reducible refine Kd.C_alloc ?_ _) | (with_reducible refine Kd.C_drewN ?_ _) | (with_reducible refine Kd.C_drew ?_))); (case side4 => exact (Kd.R_reads' HO_11.out).2.1); rintro e w43 ⟨v163, rfl, ho0, hb⟩; have n0_ := mk0 (Kd.R_below (uR HO_10.out) hb); have n1_ := mk0 (Kd.R_below (uR HO_11.out) hb); have n2_ := mk0 (Kd.R_elder' (uR HO160.out) (Kd.R_base ho0) hb); have n3_ := mk0 (Kd.R_lower (Kd.R_new' ho0 (Kd.R_lt (uR HO160.out))) (below_size (by repeat (first | (with_reducible first | exact HB.out | apply bA | apply bN | apply bD | refine bS ?_ (by assumption)) | exact HB.out)))); have n4_ := mk0 (blk_below (g := gb133) (o := .cells #[.slice A0_0 l0_0.length c0_0, .int .i64 a0_1] 24 (0, 0)) (uB BK133.out) hb); have n5_ := mk0 (below_step (by repeat (first | (with_reducible first | exact HB.out | apply bA | apply bN | apply bD | refine bS ?_ (by assumption)) | exact HB.out)) hb); clear HO_10; clear HO_11; clear HO160; clear BK133; clear HB; have HO_10 := n0_; have HO_11 := n1_; have HO160 := n2_; have HO164 := n3_; have BK133 := n4_; have HB := n5_; clear n0_ n1_ n2_ n3_ n4_ n5_; (try clear hb); (try clear hb2); (try clear hk); (try clear hi); (try clear ho0); (first | (have EHO164 := cmpV_no HO164.out (by with_reducible assumption)) | (have EHO164 := cmpV_yes HO164.out (by with_reducible assumption)) | skip))); try go_wp2_with (first | (go_at_call 19; (with_reducible refine (lin_At.calls k3 _ _ l0_0 a0_1 _ _ x10_3 t157 t158 _ ?side1 ?side2 ?side3 ?side4 A34.out).mono ?_); (case side1 => repeat (first | exact (Kd.C_below HR0_0.out HB.out) | (with_reducible refine Kd.C_alloc ?_ _) | (with_reducible refine Kd.C_drewN ?_ _) | (with_reducible refine Kd.C_drew ?_))); (case side2 => exact HC0_0.out); (case side3 => repeat (first | exact (Kd.R_reads' HO_10.out).2.2 | (with_reducible refine Kd.C_alloc ?_ _) | (with_reducible refine Kd.C_drewN ?_ _) | (with_reducible refine Kd.C_drew ?_))); (case side4 => exact (Kd.R_reads' HO_10.out).2.1); rintro e w40 ⟨v159, rfl, ho0, hb⟩; have n0_ := mk0 (Kd.R_below (uR HO_10.out) hb); have n1_ := mk0 (Kd.R_below (uR HO_11.out) hb); have n2_ := mk0 (Kd.R_lower ho0 (below_size (by repeat (first | (with_reducible first | exact HB.out | apply bA | apply bN | apply bD | refine bS ?_ (by assumption)) | exact HB.out)))); have n3_ := mk0 (blk_below (g := gb133) (o := .cells #[.slice A0_0 l0_0.length c0_0, .int .i64 a0_1] 24 (0, 0)) (uB BK133.out) hb); have n4_ := mk0 (below_step (by repeat (first | (with_reducible first | exact HB.out | apply bA | apply bN | apply bD | refine bS ?_ (by assumption)) | exact HB.out)) hb); clear HO_10; clear HO_11; clear BK133; clear HB; have HO_10 := n0_; have HO_11 := n1_; have HO160 := n2_; have BK133 := n3_; have HB := n4_; clear n0_ n1_ n2_ n3_ n4_; (try clear hb); (try clear hb2); (try clear hk); (try clear hi); (try clear ho0); (first | (have EHO160 := cmpV_no HO160.out (by with_reducible assumption)) | (have EHO160 := cmpV_yes HO160.out (by with_reducible assumption)) | skip); have hcz41_0 : w40.cell? ⟨gb133, 0, none⟩ = some (.slice A0_0 l0_0.length c0_0) := (blk_cell BK133.out 0).trans rfl; have hcz41_1 : w40.cell? ⟨gb133, 1, none⟩ = some (.int .i64 a0_1) := (blk_cell BK133.out 1).trans rfl; have hfz41_0 := blk_frozen BK133.out 0; have hfz41_1 := blk_frozen BK133.out 1; obtain ⟨Ao42, co42, eo42⟩ := Kd.R_slice HO_11.out; subst eo42) | (go_at_call 19; (with_reducible refine (lin_At.calls k3 _ _ l0_0 a0_1 _ _ x11_3 t161 t162 _ ?side1 ?side2 ?side3 ?side4 A36.out).mono ?_); (case side1 => repeat (first | exact (Kd.C_below HR0_0.out HB.out) | (with_reducible refine Kd.C_alloc ?_ _) | (with_reducible refine Kd.C_drewN ?_ _) | (with_reducible refine Kd.C_drew ?_))); (case side2 => exact HC0_0.out); (case side3 => repeat (first | exact (Kd.R_reads' HO_11.out).2.2 | (with_reducible refine Kd.C_alloc ?_ _) | (with_reducible refine Kd.C_drewN ?_ _) | (with_reducible refine Kd.C_drew ?_))); (case side4 => exact (Kd.R_reads' HO_11.out).2.1); rintro e w43 ⟨v163, rfl, ho0, hb⟩; have n0_ := mk0 (Kd.R_below (uR HO_10.out) hb); have n1_ := mk0 (Kd.R_below (uR HO_11.out) hb); have n2_ := mk0 (Kd.R_elder' (uR HO160.out) (Kd.R_base ho0) hb); have n3_ := mk0 (Kd.R_lower (Kd.R_new' ho0 (Kd.R_lt (uR HO160.out))) (below_size (by repeat (first | (with_reducible first | exact HB.out | apply bA | apply bN | apply bD | refine bS ?_ (by assumption)) | exact HB.out)))); have n4_ := mk0 (blk_below (g := gb133) (o := .cells #[.slice A0_0 l0_0.length c0_0, .int .i64 a0_1] 24 (0, 0)) (uB BK133.out) hb); have n5_ := mk0 (below_step (by repeat (first | (with_reducible first | exact HB.out | apply bA | apply bN | apply bD | refine bS ?_ (by assumption)) | exact HB.out)) hb); clear HO_10; clear HO_11; clear HO160; clear BK133; clear HB; have HO_10 := n0_; have HO_11 := n1_; have HO160 := n2_; have HO164 := n3_; have BK133 := n4_; have HB := n5_; clear n0_ n1_ n2_ n3_ n4_ n5_; (try clear hb); (try clear hb2); (try clear hk); (try clear hi); (try clear ho0); (first | (have EHO164 := cmpV_no HO164.out (by with_reducible assumption)) | (have EHO164 := cmpV_yes HO164.out (by with_reducible assumption)) | skip))))
            go_ret3
            exact ⟨(.slice none 0 0), by first | rfl | (simp [errW_none, errW_some] <;> rfl) | (simp [*, errW_none, errW_some] <;> rfl), by first | exact Kd.R_nil _ _ _ _ _ | exact Kd.N_nil _ _ _ _ _ | exact Kd.V_nil _ _ _ _ _ | exact Kd.Q_nil _ _ _ _ _ | exact Kd.S_nil _ _ _ _ _, by repeat (first | (with_reducible first | exact HB.out | apply bA | apply bN | apply bD | refine bS ?_ (by assumption)) | exact HB.out)⟩
           ·rw [if_neg c37] at H
            have c37b0 : ((t162.length : Int) == 0) = false := beq_eq_false_iff_ne.mpr c37
            have c37b1 : ((t162.length : Int) != 0) = true := bne_iff_ne.mpr c37
            have c37b2 : ¬ (t162 = []) := fun h_ => c37 (by rw [h_]; rfl)
            simp only [Option.some.injEq, Prod.mk.injEq] at H
            obtain ⟨rfl, rfl, rfl⟩ := H
            have hcz44_0 : wr.cell? ⟨gb133, 0, none⟩ = some (.slice A0_0 l0_0.length c0_0) := (blk_cell BK133.out 0).trans rfl
            have hcz44_1 : wr.cell? ⟨gb133, 1, none⟩ = some (.int .i64 a0_1) := (blk_cell BK133.out 1).trans rfl
            have hfz44_0 := blk_frozen BK133.out 0
            have hfz44_1 := blk_frozen BK133.out 1
            obtain ⟨Ao45, co45, eo45⟩ := Kd.R_slice HO_10.out
            subst eo45
            go_wp2_with (first | (go_at_call 19; (with_reducible refine (lin_At.calls k3 _ _ l0_0 a0_1 _ _ x10_3 t157 t158 _ ?side1 ?side2 ?side3 ?side4 A34.out).mono ?_); (case side1 => repeat (first | exact (Kd.C_below HR0_0.out HB.out) | (with_reducible refine Kd.C_alloc ?_ _) | (with_reducible refine Kd.C_drewN ?_ _) | (with_reducible refine Kd.C_drew ?_))); (case side2 => exact HC0_0.out); (case side3 => repeat (first | exact (Kd.R_reads' HO_10.out).2.2 | (with_reducible refine Kd.C_alloc ?_ _) | (with_reducible refine Kd.C_drewN ?_ _) | (with_reducible refine Kd.C_drew ?_))); (case side4 => exact (Kd.R_reads' HO_10.out).2.1); rintro e w46 ⟨v159, rfl, ho0, hb⟩; have n0_ := mk0 (Kd.R_below (uR HO_10.out) hb); have n1_ := mk0 (Kd.R_below (uR HO_11.out) hb); have n2_ := mk0 (Kd.R_lower ho0 (below_size (by repeat (first | (with_reducible first | exact HB.out | apply bA | apply bN | apply bD | refine bS ?_ (by assumption)) | exact HB.out)))); have n3_ := mk0 (blk_below (g := gb133) (o := .cells #[.slice A0_0 l0_0.length c0_0, .int .i64 a0_1] 24 (0, 0)) (uB BK133.out) hb); have n4_ := mk0 (below_step (by repeat (first | (with_reducible first | exact HB.out | apply bA | apply bN | apply bD | refine bS ?_ (by assumption)) | exact HB.out)) hb); clear HO_10; clear HO_11; clear BK133; clear HB; have HO_10 := n0_; have HO_11 := n1_; have HO160 := n2_; have BK133 := n3_; have HB := n4_; clear n0_ n1_ n2_ n3_ n4_; (try clear hb); (try clear hb2); (try clear hk); (try clear hi); (try clear ho0); (first | (have EHO160 := cmpV_no HO160.out (by with_reducible assumption)) | (have EHO160 := cmpV_yes HO160.out (by with_reducible assumption)) | skip); have hcz47_0 : w46.cell? ⟨gb133, 0, none⟩ = some (.slice A0_0 l0_0.length c0_0) := (blk_cell BK133.out 0).trans rfl; have hcz47_1 : w46.cell? ⟨gb133, 1, none⟩ = some (.int .i64 a0_1) := (blk_cell BK133.out 1).trans rfl; have hfz47_0 := blk_frozen BK133.out 0; have hfz47_1 := blk_frozen BK133.out 1; obtain ⟨Ao48, co48, eo48⟩ := Kd.R_slice HO_11.out; subst eo48) | (go_at_call 19; (with_reducible refine (lin_At.calls k3 _ _ l0_0 a0_1 _ _ x11_3 t161 t162 _ ?side1 ?side2 ?side3 ?side4 A36.out).mono ?_); (case side1 => repeat (first | exact (Kd.C_below HR0_0.out HB.out) | (with_reducible refine Kd.C_alloc ?_ _) | (with_reducible refine Kd.C_drewN ?_ _) | (with_reducible refine Kd.C_drew ?_))); (case side2 => exact HC0_0.out); (case side3 => repeat (first | exact (Kd.R_reads' HO_11.out).2.2 | (with_reducible refine Kd.C_alloc ?_ _) | (with_reducible refine Kd.C_drewN ?_ _) | (with_reducible refine Kd.C_drew ?_))); (case side4 => exact (Kd.R_reads' HO_11.out).2.1); rintro e w49 ⟨v163, rfl, ho0, hb⟩; have n0_ := mk0 (Kd.R_below (uR HO_10.out) hb); have n1_ := mk0 (Kd.R_below (uR HO_11.out) hb); have n2_ := mk0 (Kd.R_elder' (uR HO160.out) (Kd.R_base ho0) hb); have n3_ := mk0 (Kd.R_lower (Kd.R_new' ho0 (Kd.R_lt (uR HO160.out))) (below_size (by repeat (first | (with_reducible first | exact HB.out | apply bA | apply bN | apply bD | refine bS ?_ (by assumption)) | exact HB.out)))); have n4_ := mk0 (blk_below (g := gb133) (o := .cells #[.slice A0_0 l0_0.length c0_0, .int .i64 a0_1] 24 (0, 0)) (uB BK133.out) hb); have n5_ := mk0 (below_step (by repeat (first | (with_reducible first | exact HB.out | apply bA | apply bN | apply bD | refine bS ?_ (by assumption)) | exact HB.out)) hb); clear HO_10; clear HO_11; clear HO160; clear BK133; clear HB; have HO_10 := n0_; have HO_11 := n1_; have HO160 := n2_; have HO164 := n3_; have BK133 := n4_; have HB := n5_; clear n0_ n1_ n2_ n3_ n4_ n5_; (try clear hb); (try clear hb2); (try clear hk); (try clear hi); (try clear ho0); (first | (have EHO164 := cmpV_no HO164.out (by with_reducible assumption)) | (have EHO164 := cmpV_yes HO164.out (by with_reducible assumption)) | skip)))
            repeat (go_quiet (first | (go_at_call 19; (with_reducible refine (lin_At.calls k3 _ _ l0_0 a0_1 _ _ x10_3 t157 t158 _ ?side1 ?side2 ?side3 ?side4 A34.out).mono ?_); (case side1 => repeat (first | exact (Kd.C_below HR0_0.out HB.out) | (with_reducible refine Kd.C_alloc ?_ _) | (with_reducible refine Kd.C_drewN ?_ _) | (with_reducible refine Kd.C_drew ?_))); (case side2 => exact HC0_0.out); (case side3 => repeat (first | exact (Kd.R_reads' HO_10.out).2.2 | (with_reducible refine Kd.C_alloc ?_ _) | (with_reducible refine Kd.C_drewN ?_ _) | (with_reducible refine Kd.C_drew ?_))); (case side4 => exact (Kd.R_reads' HO_10.out).2.1); rintro e w46 ⟨v159, rfl, ho0, hb⟩; have n0_ := mk0 (Kd.R_below (uR HO_10.out) hb); have n1_ := mk0 (Kd.R_below (uR HO_11.out) hb); have n2_ := mk0 (Kd.R_lower ho0 (below_size (by repeat (first | (with_reducible first | exact HB.out | apply bA | apply bN | apply bD | refine bS ?_ (by assumption)) | exact HB.out)))); have n3_ := mk0 (blk_below (g := gb133) (o := .cells #[.slice A0_0 l0_0.length c0_0, .int .i64 a0_1] 24 (0, 0)) (uB BK133.out) hb); have n4_ := mk0 (below_step (by repeat (first | (with_reducible first | exact HB.out | apply bA | apply bN | apply bD | refine bS ?_ (by assumption)) | exact HB.out)) hb); clear HO_10; clear HO_11; clear BK133; clear HB; have HO_10 := n0_; have HO_11 := n1_; have HO160 := n2_; have BK133 := n3_; have HB := n4_; clear n0_ n1_ n2_ n3_ n4_; (try clear hb); (try clear hb2); (try clear hk); (try clear hi); (try clear ho0); (first | (have EHO160 := cmpV_no HO160.out (by with_reducible assumption)) | (have EHO160 := cmpV_yes HO160.out (by with_reducible assumption)) | skip); have hcz47_0 : w46.cell? ⟨gb133, 0, none⟩ = some (.slice A0_0 l0_0.length c0_0) := (blk_cell BK133.out 0).trans rfl; have hcz47_1 : w46.cell? ⟨gb133, 1, none⟩ = some (.int .i64 a0_1) := (blk_cell BK133.out 1).trans rfl; have hfz47_0 := blk_frozen BK133.out 0; have hfz47_1 := blk_frozen BK133.out 1; obtain ⟨Ao48, co48, eo48⟩ := Kd.R_slice HO_11.out; subst eo48) | (go_at_call 19; (with_reducible refine (lin_At.calls k3 _ _ l0_0 a0_1 _ _ x11_3 t161 t162 _ ?side1 ?side2 ?side3 ?side4 A36.out).mono ?_); (case side1 => repeat (first | exact (Kd.C_below HR0_0.out HB.out) | (with_reducible refine Kd.C_alloc ?_ _) | (with_reducible refine Kd.C_drewN ?_ _) | (with_reducible refine Kd.C_drew ?_))); (case side2 => exact HC0_0.out); (case side3 => repeat (first | exact (Kd.R_reads' HO_11.out).2.2 | (with_reducible refine Kd.C_alloc ?_ _) | (with_reducible refine Kd.C_drewN ?_ _) | (with_reducible refine Kd.C_drew ?_))); (case side4 => exact (Kd.R_reads' HO_11.out).2.1); rintro e w49 ⟨v163, rfl, ho0, hb⟩; have n0_ := mk0 (Kd.R_below (uR HO_10.out) hb); have n1_ := mk0 (Kd.R_below (uR HO_11.out) hb); have n2_ := mk0 (Kd.R_elder' (uR HO160.out) (Kd.R_base ho0) hb); have n3_ := mk0 (Kd.R_lower (Kd.R_new' ho0 (Kd.R_lt (uR HO160.out))) (below_size (by repeat (first | (with_reducible first | exact HB.out | apply bA | apply bN | apply bD | refine bS ?_ (by assumption)) | exact HB.out)))); have n4_ := mk0 (blk_below (g := gb133) (o := .cells #[.slice A0_0 l0_0.length c0_0, .int .i64 a0_1] 24 (0, 0)) (uB BK133.out) hb); have n5_ := mk0 (below_step (by repeat (first | (with_reducible first | exact HB.out | apply bA | apply bN | apply bD | refine bS ?_ (by assumption)) | exact HB.out)) hb); clear HO_10; clear HO_11; clear HO160; clear BK133; clear HB; have HO_10 := n0_; have HO_11 := n1_; have HO160 := n2_; have HO164 := n3_; have BK133 := n4_; have HB := n5_; clear n0_ n1_ n2_ n3_ n4_ n5_; (try clear hb); (try clear hb2); (try clear hk); (try clear hi); (try clear ho0); (first | (have EHO164 := cmpV_no HO164.out (by with_reducible assumption)) | (have EHO164 := cmpV_yes HO164.out (by with_reducible assumption)) | skip))); try go_wp2_with (first | (go_at_call 19; (with_reducible refine (lin_At.calls k3 _ _ l0_0 a0_1 _ _ x10_3 t157 t158 _ ?side1 ?side2 ?side3 ?side4 A34.out).mono ?_); (case side1 => repeat (first | exact (Kd.C_below HR0_0.out HB.out) | (with_reducible refine Kd.C_alloc ?_ _) | (with_reducible refine Kd.C_drewN ?_ _) | (with_reducible refine Kd.C_drew ?_))); (case side2 => exact HC0_0.out); (case side3 => repeat (first | exact (Kd.R_reads' HO_10.out).2.2 | (with_reducible refine Kd.C_alloc ?_ _) | (with_reducible refine Kd.C_drewN ?_ _) | (with_reducible refine Kd.C_drew ?_))); (case side4 => exact (Kd.R_reads' HO_10.out).2.1); rintro e w46 ⟨v159, rfl, ho0, hb⟩; have n0_ := mk0 (Kd.R_below (uR HO_10.out) hb); have n1_ := mk0 (Kd.R_below (uR HO_11.out) hb); have n2_ := mk0 (Kd.R_lower ho0 (below_size (by repeat (first | (with_reducible first | exact HB.out | apply bA | apply bN | apply bD | refine bS ?_ (by assumption)) | exact HB.out)))); have n3_ := mk0 (blk_below (g := gb133) (o := .cells #[.slice A0_0 l0_0.length c0_0, .int .i64 a0_1] 24 (0, 0)) (uB BK133.out) hb); have n4_ := mk0 (below_step (by repeat (first | (with_reducible first | exact HB.out | apply bA | apply bN | apply bD | refine bS ?_ (by assumption)) | exact HB.out)) hb); clear HO_10; clear HO_11; clear BK133; clear HB; have HO_10 := n0_; have HO_11 := n1_; have HO160 := n2_; have BK133 := n3_; have HB := n4_; clear n0_ n1_ n2_ n3_ n4_; (try clear hb); (try clear hb2); (try clear hk); (try clear hi); (try clear ho0); (first | (have EHO160 := cmpV_no HO160.out (by with_reducible assumption)) | (have EHO160 := cmpV_yes HO160.out (by with_reducible assumption)) | skip); have hcz47_0 : w46.cell? ⟨gb133, 0, none⟩ = some (.slice A0_0 l0_0.length c0_0) := (blk_cell BK133.out 0).trans rfl; have hcz47_1 : w46.cell? ⟨gb133, 1, none⟩ = some (.int .i64 a0_1) := (blk_cell BK133.out 1).trans rfl; have hfz47_0 := blk_frozen BK133.out 0; have hfz47_1 := blk_frozen BK133.out 1; obtain ⟨Ao48, co48, eo48⟩ := Kd.R_slice HO_11.out; subst eo48) | (go_at_call 19; (with_reducible refine (lin_At.calls k3 _ _ l0_0 a0_1 _ _ x11_3 t161 t162 _ ?side1 ?side2 ?side3 ?side4 A36.out).mono ?_); (case side1 => repeat (first | exact (Kd.C_below HR0_0.out HB.out) | (with_reducible refine Kd.C_alloc ?_ _) | (with_reducible refine Kd.C_drewN ?_ _) | (with_reducible refine Kd.C_drew ?_))); (case side2 => exact HC0_0.out); (case side3 => repeat (first | exact (Kd.R_reads' HO_11.out).2.2 | (with_reducible refine Kd.C_alloc ?_ _) | (with_reducible refine Kd.C_drewN ?_ _) | (with_reducible refine Kd.C_drew ?_))); (case side4 => exact (Kd.R_reads' HO_11.out).2.1); rintro e w49 ⟨v163, rfl, ho0, hb⟩; have n0_ := mk0 (Kd.R_below (uR HO_10.out) hb); have n1_ := mk0 (Kd.R_below (uR HO_11.out) hb); have n2_ := mk0 (Kd.R_elder' (uR HO160.out) (Kd.R_base ho0) hb); have n3_ := mk0 (Kd.R_lower (Kd.R_new' ho0 (Kd.R_lt (uR HO160.out))) (below_size (by repeat (first | (with_reducible first | exact HB.out | apply bA | apply bN | apply bD | refine bS ?_ (by assumption)) | exact HB.out)))); have n4_ := mk0 (blk_below (g := gb133) (o := .cells #[.slice A0_0 l0_0.length c0_0, .int .i64 a0_1] 24 (0, 0)) (uB BK133.out) hb); have n5_ := mk0 (below_step (by repeat (first | (with_reducible first | exact HB.out | apply bA | apply bN | apply bD | refine bS ?_ (by assumption)) | exact HB.out)) hb); clear HO_10; clear HO_11; clear HO160; clear BK133; clear HB; have HO_10 := n0_; have HO_11 := n1_; have HO160 := n2_; have HO164 := n3_; have BK133 := n4_; have HB := n5_; clear n0_ n1_ n2_ n3_ n4_ n5_; (try clear hb); (try clear hb2); (try clear hk); (try clear hi); (try clear ho0); (first | (have EHO164 := cmpV_no HO164.out (by with_reducible assumption)) | (have EHO164 := cmpV_yes HO164.out (by with_reducible assumption)) | skip))))
            go_ret3
            exact ⟨(v163), by first | rfl | (simp [errW_none, errW_some] <;> rfl) | (simp [*, errW_none, errW_some] <;> rfl), uR (Kd.R_mono HO164.out (fun _ hk => trivial)), by repeat (first | (with_reducible first | exact HB.out | apply bA | apply bN | apply bD | refine bS ?_ (by assumption)) | exact HB.out)⟩
          ·rw [if_neg c35] at H
           have c35b0 : ((t158.length : Int) == 0) = false := beq_eq_false_iff_ne.mpr c35
           have c35b1 : ((t158.length : Int) != 0) = true := bne_iff_ne.mpr c35
           have c35b2 : ¬ (t158 = []) := fun h_ => c35 (by rw [h_]; rfl)
           simp only [Option.some.injEq, Prod.mk.injEq] at H
           obtain ⟨rfl, rfl, rfl⟩ := H
           have hcz50_0 : wr.cell? ⟨gb133, 0, none⟩ = some (.slice A0_0 l0_0.length c0_0) := (blk_cell BK133.out 0).trans rfl
           have hcz50_1 : wr.cell? ⟨gb133, 1, none⟩ = some (.int .i64 a0_1) := (blk_cell BK133.out 1).trans rfl
           have hfz50_0 := blk_frozen BK133.out 0
           have hfz50_1 := blk_frozen BK133.out 1
           obtain ⟨Ao51, co51, eo51⟩ := Kd.R_slice HO_10.out
           subst eo51
           go_wp2_with (first | (go_at_call 19; (with_reducible refine (lin_At.calls k3 _ _ l0_0 a0_1 _ _ x10_3 t157 t158 _ ?side1 ?side2 ?side3 ?side4 A34.out).mono ?_); (case side1 => repeat (first | exact (Kd.C_below HR0_0.out HB.out) | (with_reducible refine Kd.C_alloc ?_ _) | (with_reducible refine Kd.C_drewN ?_ _) | (with_reducible refine Kd.C_drew ?_))); (case side2 => exact HC0_0.out); (case side3 => repeat (first | exact (Kd.R_reads' HO_10.out).2.2 | (with_reducible refine Kd.C_alloc ?_ _) | (with_reducible refine Kd.C_drewN ?_ _) | (with_reducible refine Kd.C_drew ?_))); (case side4 => exact (Kd.R_reads' HO_10.out).2.1); rintro e w52 ⟨v159, rfl, ho0, hb⟩; have n0_ := mk0 (Kd.R_below (uR HO_10.out) hb); have n1_ := mk0 (Kd.R_below (uR HO_11.out) hb); have n2_ := mk0 (Kd.R_lower ho0 (below_size (by repeat (first | (with_reducible first | exact HB.out | apply bA | apply bN | apply bD | refine bS ?_ (by assumption)) | exact HB.out)))); have n3_ := mk0 (blk_below (g := gb133) (o := .cells #[.slice A0_0 l0_0.length c0_0, .int .i64 a0_1] 24 (0, 0)) (uB BK133.out) hb); have n4_ := mk0 (below_step (by repeat (first | (with_reducible first | exact HB.out | apply bA | apply bN | apply bD | refine bS ?_ (by assumption)) | exact HB.out)) hb); clear HO_10; clear HO_11; clear BK133; clear HB; have HO_10 := n0_; have HO_11 := n1_; have HO160 := n2_; have BK133 := n3_; have HB := n4_; clear n0_ n1_ n2_ n3_ n4_; (try clear hb); (try clear hb2); (try clear hk); (try clear hi); (try clear ho0); (first | (have EHO160 := cmpV_no HO160.out (by with_reducible assumption)) | (have EHO160 := cmpV_yes HO160.out (by with_reducible assumption)) | skip)))
           repeat (go_quiet (first | (go_at_call 19; (with_reducible refine (lin_At.calls k3 _ _ l0_0 a0_1 _ _ x10_3 t157 t158 _ ?side1 ?side2 ?side3 ?side4 A34.out).mono ?_); (case side1 => repeat (first | exact (Kd.C_below HR0_0.out HB.out) | (with_reducible refine Kd.C_alloc ?_ _) | (with_reducible refine Kd.C_drewN ?_ _) | (with_reducible refine Kd.C_drew ?_))); (case side2 => exact HC0_0.out); (case side3 => repeat (first | exact (Kd.R_reads' HO_10.out).2.2 | (with_reducible refine Kd.C_alloc ?_ _) | (with_reducible refine Kd.C_drewN ?_ _) | (with_reducible refine Kd.C_drew ?_))); (case side4 => exact (Kd.R_reads' HO_10.out).2.1); rintro e w52 ⟨v159, rfl, ho0, hb⟩; have n0_ := mk0 (Kd.R_below (uR HO_10.out) hb); have n1_ := mk0 (Kd.R_below (uR HO_11.out) hb); have n2_ := mk0 (Kd.R_lower ho0 (below_size (by repeat (first | (with_reducible first | exact HB.out | apply bA | apply bN | apply bD | refine bS ?_ (by assumption)) | exact HB.out)))); have n3_ := mk0 (blk_below (g := gb133) (o := .cells #[.slice A0_0 l0_0.length c0_0, .int .i64 a0_1] 24 (0, 0)) (uB BK133.out) hb); have n4_ := mk0 (below_step (by repeat (first | (with_reducible first | exact HB.out | apply bA | apply bN | apply bD | refine bS ?_ (by assumption)) | exact HB.out)) hb); clear HO_10; clear HO_11; clear BK133; clear HB; have HO_10 := n0_; have HO_11 := n1_; have HO160 := n2_; have BK133 := n3_; have HB := n4_; clear n0_ n1_ n2_ n3_ n4_; (try clear hb); (try clear hb2); (try clear hk); (try clear hi); (try clear ho0); (first | (have EHO160 := cmpV_no HO160.out (by with_reducible assumption)) | (have EHO160 := cmpV_yes HO160.out (by with_reducible assumption)) | skip))); try go_wp2_with (first | (go_at_call 19; (with_reducible refine (lin_At.calls k3 _ _ l0_0 a0_1 _ _ x10_3 t157 t158 _ ?side1 ?side2 ?side3 ?side4 A34.out).mono ?_); (case side1 => repeat (first | exact (Kd.C_below HR0_0.out HB.out) | (with_reducible refine Kd.C_alloc ?_ _) | (with_reducible refine Kd.C_drewN ?_ _) | (with_reducible refine Kd.C_drew ?_))); (case side2 => exact HC0_0.out); (case side3 => repeat (first | exact (Kd.R_reads' HO_10.out).2.2 | (with_reducible refine Kd.C_alloc ?_ _) | (with_reducible refine Kd.C_drewN ?_ _) | (with_reducible refine Kd.C_drew ?_))); (case side4 => exact (Kd.R_reads' HO_10.out).2.1); rintro e w52 ⟨v159, rfl, ho0, hb⟩; have n0_ := mk0 (Kd.R_below (uR HO_10.out) hb); have n1_ := mk0 (Kd.R_below (uR HO_11.out) hb); have n2_ := mk0 (Kd.R_lower ho0 (below_size (by repeat (first | (with_reducible first | exact HB.out | apply bA | apply bN | apply bD | refine bS ?_ (by assumption)) | exact HB.out)))); have n3_ := mk0 (blk_below (g := gb133) (o := .cells #[.slice A0_0 l0_0.length c0_0, .int .i64 a0_1] 24 (0, 0)) (uB BK133.out) hb); have n4_ := mk0 (below_step (by repeat (first | (with_reducible first | exact HB.out | apply bA | apply bN | apply bD | refine bS ?_ (by assumption)) | exact HB.out)) hb); clear HO_10; clear HO_11; clear BK133; clear HB; have HO_10 := n0_; have HO_11 := n1_; have HO160 := n2_; have BK133 := n3_; have HB := n4_; clear n0_ n1_ n2_ n3_ n4_; (try clear hb); (try clear hb2); (try clear hk); (try clear hi); (try clear ho0); (first | (have EHO160 := cmpV_no HO160.out (by with_reducible assumption)) | (have EHO160 := cmpV_yes HO160.out (by with_reducible assumption)) | skip))))
           go_ret3
           exact ⟨(v159), by first | rfl | (simp [errW_none, errW_some] <;> rfl) | (simp [*, errW_none, errW_some] <;> rfl), uR HO160.out, by repeat (first | (with_reducible first | exact HB.out | apply bA | apply bN | apply bD | refine bS ?_ (by assumption)) | exact HB.out)⟩

end Go.Proofs.YtmnifoeodohphaaDoor.X
