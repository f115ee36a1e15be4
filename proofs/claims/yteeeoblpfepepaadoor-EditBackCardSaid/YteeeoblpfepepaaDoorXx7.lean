-- PRINTED by print.py (a twelfth state) out of the translation. Not trusted: Lean checks it.
import Derived.Test.YteeeoblpfepepaaDoorXx0
import Derived.Test.YteeeoblpfepepaaDoorXx6
namespace Go.Proofs.YteeeoblpfepepaaDoor.X
open Go.Proofs.YteeeoblpfepepaaDoor.Flt Go.Proofs.YteeeoblpfepepaaDoor.H Go.RowKit Go.Proofs.YteeeoblpfepepaaDoorW.PrintWords Go.Proofs.YteeeoblpfepepaaDoorW.PrintLast Go.Proofs.YteeeoblpfepepaaDoorW.PrintMore
attribute [local go_sem] max2_int min2_int max_two min_two max_three min_three max_four min_four   -- for this text's walks alone
set_option linter.unusedVariables false
set_option linter.unusedSimpArgs false

/-! ### furrowref4_CheckEdits: function 19 -/
mutual
def furrowref4_CheckEdits.l0 : Nat → Int → List (S60) → Int → Option ((List (S67)) × Int)
 | 0, _, _, _ => none
 | k + 1, x0, x1, x5 => if x5 < (x1.length : Int) then (if 0 ≤ x5 then (if ((rd_T60 x1 x5).f0) < 0 then (furrowref4_CheckEdits.j1 k x0 x1 x5 true) else (if ((rd_T60 x1 x5).f1) < ((rd_T60 x1 x5).f0) then (furrowref4_CheckEdits.j1 k x0 x1 x5 true) else (furrowref4_CheckEdits.j1 k x0 x1 x5 (decide (((rd_T60 x1 x5).f1) > x0))))) else (none)) else (some (([] : List (S67)), 0))
def furrowref4_CheckEdits.j1 : Nat → Int → List (S60) → Int → Bool → Option ((List (S67)) × Int)
 | 0, _, _, _, _ => none
 | k + 1, x0, x1, x5, x42 => if x42 = true then ((furrowref4_At.f (⟨#[101, 100, 105, 116]⟩ : ByteArray) x5 1).bind fun bt321 => (some (bt321.1, bt321.2))) else (if x5 > 0 then (if 0 ≤ x5 then (if x5 < (x1.length : Int) then (if 0 ≤ (wrap64 (x5 - 1)) then (if (wrap64 (x5 - 1)) < (x1.length : Int) then (if ((rd_T60 x1 x5).f0) ≤ ((rd_T60 x1 (wrap64 (x5 - 1))).f1) then ((furrowref4_At.f (⟨#[101, 100, 105, 116]⟩ : ByteArray) x5 7).bind fun bt327 => (some (bt327.1, bt327.2))) else (furrowref4_CheckEdits.l0 k x0 x1 (wrap64 (x5 + 1)))) else (none)) else (none)) else (none)) else (none)) else (furrowref4_CheckEdits.l0 k x0 x1 (wrap64 (x5 + 1))))
end
def furrowref4_CheckEdits.f (k : Nat) (a0 : Int) (l1 : List (S60)) : Option ((List (S67)) × Int) := if a0 < 0 then ((furrowref4_At.f (⟨#[101, 100, 105, 116]⟩ : ByteArray) 0 1).bind fun bt313 => (some (bt313.1, bt313.2))) else (furrowref4_CheckEdits.l0 k a0 l1 0)
theorem furrowref4_CheckEdits.mono_l : ∀ k, (∀ y0 y1 y2, LeO (furrowref4_CheckEdits.l0 k y0 y1 y2) (furrowref4_CheckEdits.l0 (k + 1) y0 y1 y2)) ∧ (∀ y0 y1 y2 y3, LeO (furrowref4_CheckEdits.j1 k y0 y1 y2 y3) (furrowref4_CheckEdits.j1 (k + 1) y0 y1 y2 y3))
 | 0 => ⟨fun _ _ _ r h => by simp [furrowref4_CheckEdits.l0] at h, fun _ _ _ _ r h => by simp [furrowref4_CheckEdits.j1] at h⟩
 | k + 1 => by
  obtain ⟨ih0, ih1⟩ := furrowref4_CheckEdits.mono_l k
  refine ⟨?_, ?_⟩
  ·intro y0 y1 y2
   unfold furrowref4_CheckEdits.l0
   repeat' first
   | (with_reducible exact ih0 _ _ _)
   | (with_reducible exact ih1 _ _ _ _)
   | (with_reducible exact LeO.refl _)
   | (with_reducible exact LeO.none _)
   | (with_reducible refine LeO.ite ?_ ?_)
   | (with_reducible refine LeO.bind ?_ (fun _ => ?_))
   | exact ih0 _ _ _
   | exact ih1 _ _ _ _
   | exact LeO.none _
   | refine LeO.ite ?_ ?_
   | refine LeO.bind ?_ (fun _ => ?_)
  ·intro y0 y1 y2 y3
   unfold furrowref4_CheckEdits.j1
   repeat' first
   | (with_reducible exact ih0 _ _ _)
   | (with_reducible exact ih1 _ _ _ _)
   | (with_reducible exact LeO.refl _)
   | (with_reducible exact LeO.none _)
   | (with_reducible refine LeO.ite ?_ ?_)
   | (with_reducible refine LeO.bind ?_ (fun _ => ?_))
   | exact ih0 _ _ _
   | exact ih1 _ _ _ _
   | exact LeO.none _
   | refine LeO.ite ?_ ?_
   | refine LeO.bind ?_ (fun _ => ?_)
theorem furrowref4_CheckEdits.mono : ∀ a0 a1 k, LeO (furrowref4_CheckEdits.f k a0 a1) (furrowref4_CheckEdits.f (k + 1) a0 a1) := by
 intro a0 a1 k
 obtain ⟨ih0, ih1⟩ := furrowref4_CheckEdits.mono_l k
 unfold furrowref4_CheckEdits.f
 repeat' first
   | (with_reducible exact ih0 _ _ _)
   | (with_reducible exact ih1 _ _ _ _)
   | (with_reducible exact LeO.refl _)
   | (with_reducible exact LeO.none _)
   | (with_reducible refine LeO.ite ?_ ?_)
   | (with_reducible refine LeO.bind ?_ (fun _ => ?_))
   | exact ih0 _ _ _
   | exact ih1 _ _ _ _
   | exact LeO.none _
   | refine LeO.ite ?_ ?_
   | refine LeO.bind ?_ (fun _ => ?_)
set_option maxHeartbeats 8000000 in
set_option maxRecDepth 100000 in
theorem furrowref4_CheckEdits.calls (k : Nat) (a0 : Int) (A1 : Option Addr) (c1 : Nat) (l1 : List (S60)) (r1 : List (S67)) (r2 : Int) (w : World) (hr1 : Kd.C k60 w A1 l1.length l1) (hc1 : l1.length ≤ c1) (h : furrowref4_CheckEdits.f k a0 l1 = some (r1, r2)) :
  Calls Tryd.prog 19 #[.int .i64 a0, .slice A1 l1.length c1] w fun e w' => ∃ v0_ : Value, e = .returned (.agg #[v0_, .int .i64 r2]) ∧ Kd.R k67 67 w' w.heap.size (fun _ => True) v0_ r1 ∧ Below w.heap.size w w' := by
 have hu43 := Tryd.underlying43
 have HR1 := mk0 hr1
 have HC1 := mk0 hc1
 clear hr1 hc1
 have HB := mk0 (Below.refl w.heap.size w)
 have H : (if a0 < 0 then ((furrowref4_At.f (⟨#[101, 100, 105, 116]⟩ : ByteArray) 0 1).bind fun bt313 => (some (bt313.1, bt313.2))) else (furrowref4_CheckEdits.l0 k a0 l1 0)) = some (r1, r2) := h
 clear h
 by_cases c3 : a0 < 0
 ·rw [if_pos c3] at H
  have c3b0 : decide (a0 < 0) = true := decide_eq_true c3
  clear c3
  replace H := Option.bind_eq_some_iff.mp H
  obtain ⟨⟨t313, t316⟩, A40, H⟩ := H
  replace H : (some (t313, t316)) = some (r1, r2) := H
  have A4 := mk0 A40
  clear A40
  simp only [Option.some.injEq, Prod.mk.injEq] at H
  obtain ⟨rfl, rfl⟩ := H
  go_enter Tryd.func19, Tryd.ntmps19
  go_wp2_with (first | ((with_reducible refine gate_dst (N := 4) rfl ?_); refine box_event ?hg (N := 4) ?hd (cs := #[.slice none 0 0, .int .i64 0]) (t := 43) ?hr ?_; (case hd => rfl); (case hg => rfl); (case hr => first | (go_simp; done) | (go_simp; rfl)); intro gb312 hg w5 hbox hb; have n0_ := mk0 (below_step (uL HB.out) hb); have n1_ := mk0 (hbox); have n2_ := mk0 ((by rw [hg]; exact (below_size (uL HB.out)) : w.heap.size ≤ gb312)); have n3_ := mk0 ((by rw [hg]; exact (below_size (uL HB.out)) : w.heap.size ≤ gb312)); clear HB; have HB := n0_; have BK312 := n1_; have GW312 := n2_; have GE312 := n3_; clear n0_ n1_ n2_ n3_; clear hb hbox hg) | (go_at_call 30; (with_reducible refine (furrowref4_At.calls (⟨#[101, 100, 105, 116]⟩ : ByteArray) 0 1 t313 t316 _ A4.out).mono ?_); rintro e w6 ⟨v314, rfl, ho0, hb⟩; have n0_ := mk0 (Kd.R_lower ho0 (below_size (by repeat (first | (with_reducible first | exact HB.out | apply bA | apply bN | apply bD | refine bS ?_ (by assumption)) | exact HB.out)))); have n1_ := mk0 (blk_below (g := gb312) (o := .cells #[.slice none 0 0, .int .i64 0] 43 (0, 0)) (uB BK312.out) hb); have n2_ := mk0 (below_step (by repeat (first | (with_reducible first | exact HB.out | apply bA | apply bN | apply bD | refine bS ?_ (by assumption)) | exact HB.out)) hb); clear BK312; clear HB; have HO315 := n0_; have BK312 := n1_; have HB := n2_; clear n0_ n1_ n2_; (try clear hb); (try clear hb2); (try clear hk); (try clear hi); (try clear ho0); obtain ⟨Ao7, co7, eo7⟩ := Kd.R_slice HO315.out; subst eo7; have hcz8_0 : w6.cell? ⟨gb312, 0, none⟩ = some (.slice none 0 0) := (blk_cell BK312.out 0).trans rfl; have hcz8_1 : w6.cell? ⟨gb312, 1, none⟩ = some (.int .i64 0) := (blk_cell BK312.out 1).trans rfl; have hfz8_0 := blk_frozen BK312.out 0; have hfz8_1 := blk_frozen BK312.out 1))
  repeat (go_quiet (first | ((with_reducible refine gate_dst (N := 4) rfl ?_); refine box_event ?hg (N := 4) ?hd (cs := #[.slice none 0 0, .int .i64 0]) (t := 43) ?hr ?_; (case hd => rfl); (case hg => rfl); (case hr => first | (go_simp; done) | (go_simp; rfl)); intro gb312 hg w5 hbox hb; have n0_ := mk0 (below_step (uL HB.out) hb); have n1_ := mk0 (hbox); have n2_ := mk0 ((by rw [hg]; exact (below_size (uL HB.out)) : w.heap.size ≤ gb312)); have n3_ := mk0 ((by rw [hg]; exact (below_size (uL HB.out)) : w.heap.size ≤ gb312)); clear HB; have HB := n0_; have BK312 := n1_; have GW312 := n2_; have GE312 := n3_; clear n0_ n1_ n2_ n3_; clear hb hbox hg) | (go_at_call 30; (with_reducible refine (furrowref4_At.calls (⟨#[101, 100, 105, 116]⟩ : ByteArray) 0 1 t313 t316 _ A4.out).mono ?_); rintro e w6 ⟨v314, rfl, ho0, hb⟩; have n0_ := mk0 (Kd.R_lower ho0 (below_size (by repeat (first | (with_reducible first | exact HB.out | apply bA | apply bN | apply bD | refine bS ?_ (by assumption)) | exact HB.out)))); have n1_ := mk0 (blk_below (g := gb312) (o := .cells #[.slice none 0 0, .int .i64 0] 43 (0, 0)) (uB BK312.out) hb); have n2_ := mk0 (below_step (by repeat (first | (with_reducible first | exact HB.out | apply bA | apply bN | apply bD | refine bS ?_ (by assumption)) | exact HB.out)) hb); clear BK312; clear HB; have HO315 := n0_; have BK312 := n1_; have HB := n2_; clear n0_ n1_ n2_; (try clear hb); (try clear hb2); (try clear hk); (try clear hi); (try clear ho0); obtain ⟨Ao7, co7, eo7⟩ := Kd.R_slice HO315.out; subst eo7; have hcz8_0 : w6.cell? ⟨gb312, 0, none⟩ = some (.slice none 0 0) := (blk_cell BK312.out 0).trans rfl; have hcz8_1 : w6.cell? ⟨gb312, 1, none⟩ = some (.int .i64 0) := (blk_cell BK312.out 1).trans rfl; have hfz8_0 := blk_frozen BK312.out 0; have hfz8_1 := blk_frozen BK312.out 1)); try go_wp2_with (first | ((with_reducible refine gate_dst (N := 4) rfl ?_); refine box_event ?hg (N := 4) ?hd (cs := #[.slice none 0 0, .int .i64 0]) (t := 43) ?hr ?_; (case hd => rfl); (case hg => rfl); (case hr => first | (go_simp; done) | (go_simp; rfl)); intro gb312 hg w5 hbox hb; have n0_ := mk0 (below_step (uL HB.out) hb); have n1_ := mk0 (hbox); have n2_ := mk0 ((by rw [hg]; exact (below_size (uL HB.out)) : w.heap.size ≤ gb312)); have n3_ := mk0 ((by rw [hg]; exact (below_size (uL HB.out)) : w.heap.size ≤ gb312)); clear HB; have HB := n0_; have BK312 := n1_; have GW312 := n2_; have GE312 := n3_; clear n0_ n1_ n2_ n3_; clear hb hbox hg) | (go_at_call 30; (with_reducible refine (furrowref4_At.calls (⟨#[101, 100, 105, 116]⟩ : ByteArray) 0 1 t313 t316 _ A4.out).mono ?_); rintro e w6 ⟨v314, rfl, ho0, hb⟩; have n0_ := mk0 (Kd.R_lower ho0 (below_size (by repeat (first | (with_reducible first | exact HB.out | apply bA | apply bN | apply bD | refine bS ?_ (by assumption)) | exact HB.out)))); have n1_ := mk0 (blk_below (g := gb312) (o := .cells #[.slice none 0 0, .int .i64 0] 43 (0, 0)) (uB BK312.out) hb); have n2_ := mk0 (below_step (by repeat (first | (with_reducible first | exact HB.out | apply bA | apply bN | apply bD | refine bS ?_ (by assumption)) | exact HB.out)) hb); clear BK312; clear HB; have HO315 := n0_; have BK312 := n1_; have HB := n2_; clear n0_ n1_ n2_; (try clear hb); (try clear hb2); (try clear hk); (try clear hi); (try clear ho0); obtain ⟨Ao7, co7, eo7⟩ := Kd.R_slice HO315.out; subst eo7; have hcz8_0 : w6.cell? ⟨gb312, 0, none⟩ = some (.slice none 0 0) := (blk_cell BK312.out 0).trans rfl; have hcz8_1 : w6.cell? ⟨gb312, 1, none⟩ = some (.int .i64 0) := (blk_cell BK312.out 1).trans rfl; have hfz8_0 := blk_frozen BK312.out 0; have hfz8_1 := blk_frozen BK312.out 1)))
  refine bodyPost_ret (results_cell_row rfl _ _ gb312 43 #[.slice Ao7 t313.length co7, .int .i64 t316] (0, 0) _ rfl (by (with_reducible repeat (first | refine blk_drewN ?_ _ | refine blk_drew ?_ | refine blk_alloc ?_ _)); refine blk_put (cs := #[.slice Ao7 t313.length co7, .int .i64 0]) ?_ 1 _ rfl; (with_reducible repeat (first | refine blk_drewN ?_ _ | refine blk_drew ?_ | refine blk_alloc ?_ _)); refine blk_put (cs := #[.slice none 0 0, .int .i64 0]) ?_ 0 _ rfl; (with_reducible repeat (first | refine blk_drewN ?_ _ | refine blk_drew ?_ | refine blk_alloc ?_ _)); exact BK312.out) Tryd.underlying43 rfl (by kernel_rfl)) rfl ?_
  exact ⟨_, by first | rfl | (simp [errW_none, errW_some] <;> rfl) | (simp [*, errW_none, errW_some] <;> rfl), uR (Kd.R_mono (Kd.R_far (p := ⟨gb312, 1, none⟩) (Kd.R_far (p := ⟨gb312, 0, none⟩) (Kd.R_types HO315.out BK312.out (by decide)) (fun _ hk => hk.2) (.slice Ao7 t313.length co7)) (fun _ hk => hk.2) (.int .i64 t316)) (fun _ hk => trivial)), by repeat (first | (with_reducible first | exact HB.out | apply bA | apply bN | apply bD | refine bS ?_ (by assumption)) | exact HB.out)⟩
 ·rw [if_neg c3] at H
  have c3b0 : decide (a0 < 0) = false := decide_eq_false c3
  clear c3
  have H' := mk0 H
  clear H
  go_enter Tryd.func19, Tryd.ntmps19
  go_wp2_with (first | ((with_reducible refine gate_dst (N := 4) rfl ?_); refine box_event ?hg (N := 4) ?hd (cs := #[.slice none 0 0, .int .i64 0]) (t := 43) ?hr ?_; (case hd => rfl); (case hg => rfl); (case hr => first | (go_simp; done) | (go_simp; rfl)); intro gb312 hg w9 hbox hb; have n0_ := mk0 (below_step (uL HB.out) hb); have n1_ := mk0 (hbox); have n2_ := mk0 ((by rw [hg]; exact (below_size (uL HB.out)) : w.heap.size ≤ gb312)); have n3_ := mk0 ((by rw [hg]; exact (below_size (uL HB.out)) : w.heap.size ≤ gb312)); clear HB; have HB := n0_; have BK312 := n1_; have GW312 := n2_; have GE312 := n3_; clear n0_ n1_ n2_ n3_; clear hb hbox hg))
  repeat (go_quiet (first | ((with_reducible refine gate_dst (N := 4) rfl ?_); refine box_event ?hg (N := 4) ?hd (cs := #[.slice none 0 0, .int .i64 0]) (t := 43) ?hr ?_; (case hd => rfl); (case hg => rfl); (case hr => first | (go_simp; done) | (go_simp; rfl)); intro gb312 hg w9 hbox hb; have n0_ := mk0 (below_step (uL HB.out) hb); have n1_ := mk0 (hbox); have n2_ := mk0 ((by rw [hg]; exact (below_size (uL HB.out)) : w.heap.size ≤ gb312)); have n3_ := mk0 ((by rw [hg]; exact (below_size (uL HB.out)) : w.heap.size ≤ gb312)); clear HB; have HB := n0_; have BK312 := n1_; have GW312 := n2_; have GE312 := n3_; clear n0_ n1_ n2_ n3_; clear hb hbox hg)); try go_wp2_with (first | ((with_reducible refine gate_dst (N := 4) rfl ?_); refine box_event ?hg (N := 4) ?hd (cs := #[.slice none 0 0, .int .i64 0]) (t := 43) ?hr ?_; (case hd => rfl); (case hg => rfl); (case hr => first | (go_simp; done) | (go_simp; rfl)); intro gb312 hg w9 hbox hb; have n0_ := mk0 (below_step (uL HB.out) hb); have n1_ := mk0 (hbox); have n2_ := mk0 ((by rw [hg]; exact (below_size (uL HB.out)) : w.heap.size ≤ gb312)); have n3_ := mk0 ((by rw [hg]; exact (below_size (uL HB.out)) : w.heap.size ≤ gb312)); clear HB; have HB := n0_; have BK312 := n1_; have GW312 := n2_; have GE312 := n3_; clear n0_ n1_ n2_ n3_; clear hb hbox hg)))
  go_loopg [5] k (fun kq v5 w' => ∃ (x5_1 : Int) (x313001_1 : Int), v5 = .int .i64 x5_1 ∧ Aside0 (furrowref4_CheckEdits.l0 kq a0 l1 x5_1 = some (r1, r2)) ∧ Aside0 (kq ≤ k) ∧ Aside0 (w'.heap[gb312]? = some (.cells #[(.slice none 0 0), .int .i64 x313001_1] 43 (0, 0))) ∧ Aside0 (Below w.heap.size w w'))
  case atStart => exact ⟨(0), (0), (by first | rfl | (simp; done) | (simp [*]; done) | (simp [bne_nil_, beq_nil_]; done)), H', ⟨Nat.le_refl _⟩, ⟨uB BK312.out⟩, ⟨by repeat (first | (with_reducible first | exact HB.out | apply bA | apply bN | apply bD | refine bS ?_ (by assumption)) | exact HB.out)⟩⟩
  case round =>
   clear H'
   try clear c1
   try clear p2
   try clear c3
   try clear c3b0
   try clear hcz8_0
   try clear hcz8_1
   try clear hfz8_0
   try clear hfz8_1
   obtain ⟨x5_1, x313001_1, rfl, HA, HK1, BK312, HB⟩ := hrel
   cases gk with
   | zero => exact absurd HA.out (by simp [furrowref4_CheckEdits.l0])
   | succ k1 =>
    have H := HA.out
    clear HA
    simp only [furrowref4_CheckEdits.l0] at H
    by_cases c10 : x5_1 < (l1.length : Int)
    ·rw [if_pos c10] at H
     have c10b0 : decide (x5_1 < (l1.length : Int)) = true := decide_eq_true c10
     clear c10
     have HC11 := mk0 H
     clear H
     go_upto_region 6 with (fail)
     repeat (go_quiet (fail); go_upto_region 6 with (fail))
     go_cut [42] (fun v42 wc => ∃ (kq : Nat) (x42_10 : Bool), v42 = .bool x42_10 ∧ Aside0 (furrowref4_CheckEdits.j1 kq a0 l1 x5_1 x42_10 = some (r1, r2)) ∧ Aside0 (kq ≤ k1) ∧ Aside0 (wc.heap[gb312]? = some (.cells #[(.slice none 0 0), .int .i64 x313001_1] 43 (0, 0))) ∧ Aside0 (Below w.heap.size w wc))
     case first =>
      have H := HC11.out
      clear HC11
      by_cases c12 : 0 ≤ x5_1
      ·rw [if_pos c12] at H
       have c12b0 : decide (0 ≤ x5_1) = true := decide_eq_true c12
       clear c12
       (first | rw [c12b0] | (simp only [i64_w, i32_w]; rw [c12b0]) | skip)
       by_cases c13 : ((rd_T60 l1 x5_1).f0) < 0
       ·rw [if_pos c13] at H
        have c13b0 : decide (((rd_T60 l1 x5_1).f0) < 0) = true := decide_eq_true c13
        clear c13
        have H' := mk0 H
        clear H
        have p317 : 0 ≤ (x5_1 : Int) := of_decide_eq_true (by first | (with_reducible assumption) | assumption)
        have q317 : x5_1 < (l1.length : Int) := of_decide_eq_true (by first | (with_reducible assumption) | assumption)
        obtain ⟨ad317, A317_2, c317_2, e317, hx317_0, hx317_1, hx317_2, hl317_2, hi317_2⟩ := at_T60 HR1.out x5_1 p317 q317
        cases e317
        replace hx317_0 := (HB.out.cell (World.block_lt_of_cell? w _ hx317_0)).trans hx317_0
        replace hx317_1 := (HB.out.cell (World.block_lt_of_cell? w _ hx317_1)).trans hx317_1
        replace hx317_2 := (HB.out.cell (World.block_lt_of_cell? w _ hx317_2)).trans hx317_2
        have HR317_2 := mk0 hi317_2
        have HC317_2 := mk0 hl317_2
        clear hi317_2 hl317_2
        replace p317 := eq_true p317
        replace q317 := eq_true q317
        go_wp2
        repeat (go_quiet (fail); try go_wp2)
        go_meet
        case rel => exact ⟨_, (true), (by first | rfl | (simp; done) | (simp [*]; done) | (simp [bne_nil_, beq_nil_]; done)), H', ⟨by have := HK1.out; first | omega | exact Nat.le_refl _⟩, ⟨uB BK312.out⟩, ⟨by repeat (first | (with_reducible first | exact HB.out | apply bA | apply bN | apply bD | refine bS ?_ (by assumption)) | exact HB.out)⟩⟩
       ·rw [if_neg c13] at H
        have c13b0 : decide (((rd_T60 l1 x5_1).f0) < 0) = false := decide_eq_false c13
        clear c13
        by_cases c14 : ((rd_T60 l1 x5_1).f1) < ((rd_T60 l1 x5_1).f0)
        ·rw [if_pos c14] at H
         have c14b0 : decide (((rd_T60 l1 x5_1).f1) < ((rd_T60 l1 x5_1).f0)) = true := decide_eq_true c14
         clear c14
         have H' := mk0 H
         clear H
         have p317 : 0 ≤ (x5_1 : Int) := of_decide_eq_true (by first | (with_reducible assumption) | assumption)
         have q317 : x5_1 < (l1.length : Int) := of_decide_eq_true (by first | (with_reducible assumption) | assumption)
         obtain ⟨ad317, A317_2, c317_2, e317, hx317_0, hx317_1, hx317_2, hl317_2, hi317_2⟩ := at_T60 HR1.out x5_1 p317 q317
         cases e317
         replace hx317_0 := (HB.out.cell (World.block_lt_of_cell? w _ hx317_0)).trans hx317_0
         replace hx317_1 := (HB.out.cell (World.block_lt_of_cell? w _ hx317_1)).trans hx317_1
         replace hx317_2 := (HB.out.cell (World.block_lt_of_cell? w _ hx317_2)).trans hx317_2
         have HR317_2 := mk0 hi317_2
         have HC317_2 := mk0 hl317_2
         clear hi317_2 hl317_2
         replace p317 := eq_true p317
         replace q317 := eq_true q317
         have p318 : 0 ≤ (x5_1 : Int) := of_decide_eq_true (by first | (with_reducible assumption) | assumption)
         have q318 : x5_1 < (l1.length : Int) := of_decide_eq_true (by first | (with_reducible assumption) | assumption)
         obtain ⟨ad318, A318_2, c318_2, e318, hx318_0, hx318_1, hx318_2, hl318_2, hi318_2⟩ := at_T60 HR1.out x5_1 p318 q318
         obtain rfl : ad317 = ad318 := (by injection e318)
         replace hx318_0 := (HB.out.cell (World.block_lt_of_cell? w _ hx318_0)).trans hx318_0
         replace hx318_1 := (HB.out.cell (World.block_lt_of_cell? w _ hx318_1)).trans hx318_1
         replace hx318_2 := (HB.out.cell (World.block_lt_of_cell? w _ hx318_2)).trans hx318_2
         have HR318_2 := mk0 hi318_2
         have HC318_2 := mk0 hl318_2
         clear hi318_2 hl318_2
         replace p318 := eq_true p318
         replace q318 := eq_true q318
         have ea_ := Option.some.inj (hx317_2.symm.trans hx318_2)
         injection ea_ with ea_ en_ ec_
         subst ea_
         subst ec_
         clear en_
         have p319 : 0 ≤ (x5_1 : Int) := of_decide_eq_true (by first | (with_reducible assumption) | assumption)
         have q319 : x5_1 < (l1.length : Int) := of_decide_eq_true (by first | (with_reducible assumption) | assumption)
         obtain ⟨ad319, A319_2, c319_2, e319, hx319_0, hx319_1, hx319_2, hl319_2, hi319_2⟩ := at_T60 HR1.out x5_1 p319 q319
         obtain rfl : ad317 = ad319 := (by injection e319)
         replace hx319_0 := (HB.out.cell (World.block_lt_of_cell? w _ hx319_0)).trans hx319_0
         replace hx319_1 := (HB.out.cell (World.block_lt_of_cell? w _ hx319_1)).trans hx319_1
         replace hx319_2 := (HB.out.cell (World.block_lt_of_cell? w _ hx319_2)).trans hx319_2
         have HR319_2 := mk0 hi319_2
         have HC319_2 := mk0 hl319_2
         clear hi319_2 hl319_2
         replace p319 := eq_true p319
         replace q319 := eq_true q319
         have ea_ := Option.some.inj (hx317_2.symm.trans hx319_2)
         injection ea_ with ea_ en_ ec_
         subst ea_
         subst ec_
         clear en_
         go_wp2
         repeat (go_quiet (fail); try go_wp2)
         go_meet
         case rel => exact ⟨_, (true), (by first | rfl | (simp; done) | (simp [*]; done) | (simp [bne_nil_, beq_nil_]; done)), H', ⟨by have := HK1.out; first | omega | exact Nat.le_refl _⟩, ⟨uB BK312.out⟩, ⟨by repeat (first | (with_reducible first | exact HB.out | apply bA | apply bN | apply bD | refine bS ?_ (by assumption)) | exact HB.out)⟩⟩
        ·rw [if_neg c14] at H
         have c14b0 : decide (((rd_T60 l1 x5_1).f1) < ((rd_T60 l1 x5_1).f0)) = false := decide_eq_false c14
         clear c14
         have H' := mk0 H
         clear H
         have p317 : 0 ≤ (x5_1 : Int) := of_decide_eq_true (by first | (with_reducible assumption) | assumption)
         have q317 : x5_1 < (l1.length : Int) := of_decide_eq_true (by first | (with_reducible assumption) | assumption)
         obtain ⟨ad317, A317_2, c317_2, e317, hx317_0, hx317_1, hx317_2, hl317_2, hi317_2⟩ := at_T60 HR1.out x5_1 p317 q317
         cases e317
         replace hx317_0 := (HB.out.cell (World.block_lt_of_cell? w _ hx317_0)).trans hx317_0
         replace hx317_1 := (HB.out.cell (World.block_lt_of_cell? w _ hx317_1)).trans hx317_1
         replace hx317_2 := (HB.out.cell (World.block_lt_of_cell? w _ hx317_2)).trans hx317_2
         have HR317_2 := mk0 hi317_2
         have HC317_2 := mk0 hl317_2
         clear hi317_2 hl317_2
         replace p317 := eq_true p317
         replace q317 := eq_true q317
         have p318 : 0 ≤ (x5_1 : Int) := of_decide_eq_true (by first | (with_reducible assumption) | assumption)
         have q318 : x5_1 < (l1.length : Int) := of_decide_eq_true (by first | (with_reducible assumption) | assumption)
         obtain ⟨ad318, A318_2, c318_2, e318, hx318_0, hx318_1, hx318_2, hl318_2, hi318_2⟩ := at_T60 HR1.out x5_1 p318 q318
         obtain rfl : ad317 = ad318 := (by injection e318)
         replace hx318_0 := (HB.out.cell (World.block_lt_of_cell? w _ hx318_0)).trans hx318_0
         replace hx318_1 := (HB.out.cell (World.block_lt_of_cell? w _ hx318_1)).trans hx318_1
         replace hx318_2 := (HB.out.cell (World.block_lt_of_cell? w _ hx318_2)).trans hx318_2
         have HR318_2 := mk0 hi318_2
         have HC318_2 := mk0 hl318_2
         clear hi318_2 hl318_2
         replace p318 := eq_true p318
         replace q318 := eq_true q318
         have ea_ := Option.some.inj (hx317_2.symm.trans hx318_2)
         injection ea_ with ea_ en_ ec_
         subst ea_
         subst ec_
         clear en_
         have p319 : 0 ≤ (x5_1 : Int) := of_decide_eq_true (by first | (with_reducible assumption) | assumption)
         have q319 : x5_1 < (l1.length : Int) := of_decide_eq_true (by first | (with_reducible assumption) | assumption)
         obtain ⟨ad319, A319_2, c319_2, e319, hx319_0, hx319_1, hx319_2, hl319_2, hi319_2⟩ := at_T60 HR1.out x5_1 p319 q319
         obtain rfl : ad317 = ad319 := (by injection e319)
         replace hx319_0 := (HB.out.cell (World.block_lt_of_cell? w _ hx319_0)).trans hx319_0
         replace hx319_1 := (HB.out.cell (World.block_lt_of_cell? w _ hx319_1)).trans hx319_1
         replace hx319_2 := (HB.out.cell (World.block_lt_of_cell? w _ hx319_2)).trans hx319_2
         have HR319_2 := mk0 hi319_2
         have HC319_2 := mk0 hl319_2
         clear hi319_2 hl319_2
         replace p319 := eq_true p319
         replace q319 := eq_true q319
         have ea_ := Option.some.inj (hx317_2.symm.trans hx319_2)
         injection ea_ with ea_ en_ ec_
         subst ea_
         subst ec_
         clear en_
         have p320 : 0 ≤ (x5_1 : Int) := of_decide_eq_true (by first | (with_reducible assumption) | assumption)
         have q320 : x5_1 < (l1.length : Int) := of_decide_eq_true (by first | (with_reducible assumption) | assumption)
         obtain ⟨ad320, A320_2, c320_2, e320, hx320_0, hx320_1, hx320_2, hl320_2, hi320_2⟩ := at_T60 HR1.out x5_1 p320 q320
         obtain rfl : ad317 = ad320 := (by injection e320)
         replace hx320_0 := (HB.out.cell (World.block_lt_of_cell? w _ hx320_0)).trans hx320_0
         replace hx320_1 := (HB.out.cell (World.block_lt_of_cell? w _ hx320_1)).trans hx320_1
         replace hx320_2 := (HB.out.cell (World.block_lt_of_cell? w _ hx320_2)).trans hx320_2
         have HR320_2 := mk0 hi320_2
         have HC320_2 := mk0 hl320_2
         clear hi320_2 hl320_2
         replace p320 := eq_true p320
         replace q320 := eq_true q320
         have ea_ := Option.some.inj (hx317_2.symm.trans hx320_2)
         injection ea_ with ea_ en_ ec_
         subst ea_
         subst ec_
         clear en_
         go_wp2
         repeat (go_quiet (fail); try go_wp2)
         go_meet
         case rel => exact ⟨_, (decide (((rd_T60 l1 x5_1).f1) > a0)), (by first | rfl | (simp; done) | (simp [*]; done) | (simp [bne_nil_, beq_nil_]; done)), H', ⟨by have := HK1.out; first | omega | exact Nat.le_refl _⟩, ⟨uB BK312.out⟩, ⟨by repeat (first | (with_reducible first | exact HB.out | apply bA | apply bN | apply bD | refine bS ?_ (by assumption)) | exact HB.out)⟩⟩
      ·rw [if_neg c12] at H
       exact absurd H (by simp)
     case rest =>
      clear HC11
      try clear c1
      try clear p2
      try clear c3
      try clear c3b0
      try clear p3
      try clear q3
      try clear hx3
      try clear c10
      try clear c10b0
      try clear c12
      try clear c12b0
      try clear c13
      try clear c13b0
      try clear c14
      try clear c14b0
      try clear hcz8_0
      try clear hcz8_1
      try clear hfz8_0
      try clear hfz8_1
      try clear hx317_0
      try clear hx317_1
      try clear hx317_2
      try clear hx318_0
      try clear hx318_1
      try clear hx318_2
      try clear hx319_0
      try clear hx319_1
      try clear hx319_2
      try clear hx320_0
      try clear hx320_1
      try clear hx320_2
      try clear p2
      try clear p317
      try clear p318
      try clear p319
      try clear p320
      try clear q317
      try clear q318
      try clear q319
      try clear q320
      obtain ⟨kq, x42_10, rfl, HA, HJ10, BK312, HB⟩ := hcut
      cases kq with
      | zero => exact absurd HA.out (by simp [furrowref4_CheckEdits.j1])
      | succ kj10 =>
       have H := HA.out
       clear HA
       simp only [furrowref4_CheckEdits.j1] at H
       by_cases c15 : x42_10 = true
       ·subst c15
        have H1 : ((furrowref4_At.f (⟨#[101, 100, 105, 116]⟩ : ByteArray) x5_1 1).bind fun bt321 => (some (bt321.1, bt321.2))) = some (r1, r2) := by rw [if_pos rfl] at H; exact H
        clear H
        have H := H1
        clear H1
        replace H := Option.bind_eq_some_iff.mp H
        obtain ⟨⟨t321, t324⟩, A160, H⟩ := H
        replace H : (some (t321, t324)) = some (r1, r2) := H
        have A16 := mk0 A160
        clear A160
        simp only [Option.some.injEq, Prod.mk.injEq] at H
        obtain ⟨rfl, rfl⟩ := H
        go_wp2_with (first | (go_at_call 30; (with_reducible refine (furrowref4_At.calls (⟨#[101, 100, 105, 116]⟩ : ByteArray) x5_1 1 t321 t324 _ A16.out).mono ?_); rintro e w17 ⟨v322, rfl, ho0, hb⟩; have n0_ := mk0 (Kd.R_lower ho0 (below_size (by repeat (first | (with_reducible first | exact HB.out | apply bA | apply bN | apply bD | refine bS ?_ (by assumption)) | exact HB.out)))); have n1_ := mk0 (blk_below (g := gb312) (o := .cells #[.slice none 0 0, .int .i64 x313001_1] 43 (0, 0)) (uB BK312.out) hb); have n2_ := mk0 (below_step (by repeat (first | (with_reducible first | exact HB.out | apply bA | apply bN | apply bD | refine bS ?_ (by assumption)) | exact HB.out)) hb); clear BK312; clear HB; have HO323 := n0_; have BK312 := n1_; have HB := n2_; clear n0_ n1_ n2_; (try clear hb); (try clear hb2); (try clear hk); (try clear hi); (try clear ho0); obtain ⟨Ao18, co18, eo18⟩ := Kd.R_slice HO323.out; subst eo18; have hcz19_0 : w17.cell? ⟨gb312, 0, none⟩ = some (.slice none 0 0) := (blk_cell BK312.out 0).trans rfl; have hcz19_1 : w17.cell? ⟨gb312, 1, none⟩ = some (.int .i64 x313001_1) := (blk_cell BK312.out 1).trans rfl; have hfz19_0 := blk_frozen BK312.out 0; have hfz19_1 := blk_frozen BK312.out 1))
        repeat (go_quiet (first | (go_at_call 30; (with_reducible refine (furrowref4_At.calls (⟨#[101, 100, 105, 116]⟩ : ByteArray) x5_1 1 t321 t324 _ A16.out).mono ?_); rintro e w17 ⟨v322, rfl, ho0, hb⟩; have n0_ := mk0 (Kd.R_lower ho0 (below_size (by repeat (first | (with_reducible first | exact HB.out | apply bA | apply bN | apply bD | refine bS ?_ (by assumption)) | exact HB.out)))); have n1_ := mk0 (blk_below (g := gb312) (o := .cells #[.slice none 0 0, .int .i64 x313001_1] 43 (0, 0)) (uB BK312.out) hb); have n2_ := mk0 (below_step (by repeat (first | (with_reducible first | exact HB.out | apply bA | apply bN | apply bD | refine bS ?_ (by assumption)) | exact HB.out)) hb); clear BK312; clear HB; have HO323 := n0_; have BK312 := n1_; have HB := n2_; clear n0_ n1_ n2_; (try clear hb); (try clear hb2); (try clear hk); (try clear hi); (try clear ho0); obtain ⟨Ao18, co18, eo18⟩ := Kd.R_slice HO323.out; subst eo18; have hcz19_0 : w17.cell? ⟨gb312, 0, none⟩ = some (.slice none 0 0) := (blk_cell BK312.out 0).trans rfl; have hcz19_1 : w17.cell? ⟨gb312, 1, none⟩ = some (.int .i64 x313001_1) := (blk_cell BK312.out 1).trans rfl; have hfz19_0 := blk_frozen BK312.out 0; have hfz19_1 := blk_frozen BK312.out 1)); try go_wp2_with (first | (go_at_call 30; (with_reducible refine (furrowref4_At.calls (⟨#[101, 100, 105, 116]⟩ : ByteArray) x5_1 1 t321 t324 _ A16.out).mono ?_); rintro e w17 ⟨v322, rfl, ho0, hb⟩; have n0_ := mk0 (Kd.R_lower ho0 (below_size (by repeat (first | (with_reducible first | exact HB.out | apply bA | apply bN | apply bD | refine bS ?_ (by assumption)) | exact HB.out)))); have n1_ := mk0 (blk_below (g := gb312) (o := .cells #[.slice none 0 0, .int .i64 x313001_1] 43 (0, 0)) (uB BK312.out) hb); have n2_ := mk0 (below_step (by repeat (first | (with_reducible first | exact HB.out | apply bA | apply bN | apply bD | refine bS ?_ (by assumption)) | exact HB.out)) hb); clear BK312; clear HB; have HO323 := n0_; have BK312 := n1_; have HB := n2_; clear n0_ n1_ n2_; (try clear hb); (try clear hb2); (try clear hk); (try clear hi); (try clear ho0); obtain ⟨Ao18, co18, eo18⟩ := Kd.R_slice HO323.out; subst eo18; have hcz19_0 : w17.cell? ⟨gb312, 0, none⟩ = some (.slice none 0 0) := (blk_cell BK312.out 0).trans rfl; have hcz19_1 : w17.cell? ⟨gb312, 1, none⟩ = some (.int .i64 x313001_1) := (blk_cell BK312.out 1).trans rfl; have hfz19_0 := blk_frozen BK312.out 0; have hfz19_1 := blk_frozen BK312.out 1)))
        refine bodyPost_ret (results_cell_row rfl _ _ gb312 43 #[.slice Ao18 t321.length co18, .int .i64 t324] (0, 0) _ rfl (by (with_reducible repeat (first | refine blk_drewN ?_ _ | refine blk_drew ?_ | refine blk_alloc ?_ _)); refine blk_put (cs := #[.slice Ao18 t321.length co18, .int .i64 x313001_1]) ?_ 1 _ rfl; (with_reducible repeat (first | refine blk_drewN ?_ _ | refine blk_drew ?_ | refine blk_alloc ?_ _)); refine blk_put (cs := #[.slice none 0 0, .int .i64 x313001_1]) ?_ 0 _ rfl; (with_reducible repeat (first | refine blk_drewN ?_ _ | refine blk_drew ?_ | refine blk_alloc ?_ _)); exact BK312.out) Tryd.underlying43 rfl (by kernel_rfl)) rfl ?_
        exact ⟨_, by first | rfl | (simp [errW_none, errW_some] <;> rfl) | (simp [*, errW_none, errW_some] <;> rfl), uR (Kd.R_mono (Kd.R_far (p := ⟨gb312, 1, none⟩) (Kd.R_far (p := ⟨gb312, 0, none⟩) (Kd.R_types HO323.out BK312.out (by decide)) (fun _ hk => hk.2) (.slice Ao18 t321.length co18)) (fun _ hk => hk.2) (.int .i64 t324)) (fun _ hk => trivial)), by repeat (first | (with_reducible first | exact HB.out | apply bA | apply bN | apply bD | refine bS ?_ (by assumption)) | exact HB.out)⟩
       ·replace c15 := Bool.eq_false_iff.mpr c15
        subst c15
        have H1 : (if x5_1 > 0 then (if 0 ≤ x5_1 then (if x5_1 < (l1.length : Int) then (if 0 ≤ (wrap64 (x5_1 - 1)) then (if (wrap64 (x5_1 - 1)) < (l1.length : Int) then (if ((rd_T60 l1 x5_1).f0) ≤ ((rd_T60 l1 (wrap64 (x5_1 - 1))).f1) then ((furrowref4_At.f (⟨#[101, 100, 105, 116]⟩ : ByteArray) x5_1 7).bind fun bt327 => (some (bt327.1, bt327.2))) else (furrowref4_CheckEdits.l0 kj10 a0 l1 (wrap64 (x5_1 + 1)))) else (none)) else (none)) else (none)) else (none)) else (furrowref4_CheckEdits.l0 kj10 a0 l1 (wrap64 (x5_1 + 1)))) = some (r1, r2) := by rw [if_neg (show ¬ (false = true) by decide)] at H; exact H
        clear H
        have H := H1
        clear H1
        by_cases c20 : x5_1 > 0
        ·rw [if_pos c20] at H
         have c20b0 : decide (0 < x5_1) = true := decide_eq_true c20
         clear c20
         by_cases c21 : 0 ≤ x5_1
         ·rw [if_pos c21] at H
          have c21b0 : decide (0 ≤ x5_1) = true := decide_eq_true c21
          clear c21
          by_cases c22 : x5_1 < (l1.length : Int)
          ·rw [if_pos c22] at H
           have c22b0 : decide (x5_1 < (l1.length : Int)) = true := decide_eq_true c22
           clear c22
           obtain ⟨ji23, hji23⟩ : ∃ j_ : Int, (wrap64 (x5_1 - 1)) = j_ := ⟨_, rfl⟩
           replace H : (if 0 ≤ (ji23) then (if (ji23) < (l1.length : Int) then (if ((rd_T60 l1 x5_1).f0) ≤ ((rd_T60 l1 (ji23)).f1) then ((furrowref4_At.f (⟨#[101, 100, 105, 116]⟩ : ByteArray) x5_1 7).bind fun bt327 => (some (bt327.1, bt327.2))) else (furrowref4_CheckEdits.l0 kj10 a0 l1 (wrap64 (x5_1 + 1)))) else (none)) else (none)) = some (r1, r2) := by first | (rw [hji23] at H; exact H) | (simp only [hji23] at H ⊢; exact H)
           have hji23w : (IntKind.i64.wrap (x5_1 - 1)) = ji23 := (i64_w _).trans hji23
           by_cases c24 : 0 ≤ (ji23)
           ·rw [if_pos c24] at H
            have c24b0 : decide (0 ≤ (ji23)) = true := decide_eq_true c24
            clear c24
            by_cases c25 : (ji23) < (l1.length : Int)
            ·rw [if_pos c25] at H
             have c25b0 : decide ((ji23) < (l1.length : Int)) = true := decide_eq_true c25
             clear c25
             by_cases c26 : ((rd_T60 l1 x5_1).f0) ≤ ((rd_T60 l1 (ji23)).f1)
             ·rw [if_pos c26] at H
              have c26b0 : decide (((rd_T60 l1 x5_1).f0) ≤ ((rd_T60 l1 (ji23)).f1)) = true := decide_eq_true c26
              clear c26
              replace H := Option.bind_eq_some_iff.mp H
              obtain ⟨⟨t327, t330⟩, A270, H⟩ := H
              replace H : (some (t327, t330)) = some (r1, r2) := H
              have A27 := mk0 A270
              clear A270
              simp only [Option.some.injEq, Prod.mk.injEq] at H
              obtain ⟨rfl, rfl⟩ := H
              have p325 : 0 ≤ (x5_1 : Int) := of_decide_eq_true (by first | (with_reducible assumption) | assumption)
              have q325 : x5_1 < (l1.length : Int) := of_decide_eq_true (by first | (with_reducible assumption) | assumption)
              obtain ⟨ad325, A325_2, c325_2, e325, hx325_0, hx325_1, hx325_2, hl325_2, hi325_2⟩ := at_T60 HR1.out x5_1 p325 q325
              cases e325
              replace hx325_0 := (HB.out.cell (World.block_lt_of_cell? w _ hx325_0)).trans hx325_0
              replace hx325_1 := (HB.out.cell (World.block_lt_of_cell? w _ hx325_1)).trans hx325_1
              replace hx325_2 := (HB.out.cell (World.block_lt_of_cell? w _ hx325_2)).trans hx325_2
              have HR325_2 := mk0 hi325_2
              have HC325_2 := mk0 hl325_2
              clear hi325_2 hl325_2
              replace p325 := eq_true p325
              replace q325 := eq_true q325
              have p326 : 0 ≤ ((ji23) : Int) := of_decide_eq_true (by first | (with_reducible assumption) | assumption)
              have q326 : (ji23) < (l1.length : Int) := of_decide_eq_true (by first | (with_reducible assumption) | assumption)
              obtain ⟨ad326, A326_2, c326_2, e326, hx326_0, hx326_1, hx326_2, hl326_2, hi326_2⟩ := at_T60 HR1.out (ji23) p326 q326
              obtain rfl : ad325 = ad326 := (by injection e326)
              replace hx326_0 := (HB.out.cell (World.block_lt_of_cell? w _ hx326_0)).trans hx326_0
              replace hx326_1 := (HB.out.cell (World.block_lt_of_cell? w _ hx326_1)).trans hx326_1
              replace hx326_2 := (HB.out.cell (World.block_lt_of_cell? w _ hx326_2)).trans hx326_2
              have HR326_2 := mk0 hi326_2
              have HC326_2 := mk0 hl326_2
              clear hi326_2 hl326_2
              replace p326 := eq_true p326
              replace q326 := eq_true q326
              go_wp2_with (first | (go_at_call 30; (with_reducible refine (furrowref4_At.calls (⟨#[101, 100, 105, 116]⟩ : ByteArray) x5_1 7 t327 t330 _ A27.out).mono ?_); rintro e w28 ⟨v328, rfl, ho0, hb⟩; have n0_ := mk0 (Kd.R_lower ho0 (below_size (by repeat (first | (with_reducible first | exact HB.out | apply bA | apply bN | apply bD | refine bS ?_ (by assumption)) | exact HB.out)))); have n1_ := mk0 (blk_below (g := gb312) (o := .cells #[.slice none 0 0, .int .i64 x313001_1] 43 (0, 0)) (uB BK312.out) hb); have n2_ := mk0 (below_step (by repeat (first | (with_reducible first | exact HB.out | apply bA | apply bN | apply bD | refine bS ?_ (by assumption)) | exact HB.out)) hb); clear BK312; clear HB; have HO329 := n0_; have BK312 := n1_; have HB := n2_; clear n0_ n1_ n2_; (try clear hb); (try clear hb2); (try clear hk); (try clear hi); (try clear ho0); obtain ⟨Ao29, co29, eo29⟩ := Kd.R_slice HO329.out; subst eo29; have hcz30_0 : w28.cell? ⟨gb312, 0, none⟩ = some (.slice none 0 0) := (blk_cell BK312.out 0).trans rfl; have hcz30_1 : w28.cell? ⟨gb312, 1, none⟩ = some (.int .i64 x313001_1) := (blk_cell BK312.out 1).trans rfl; have hfz30_0 := blk_frozen BK312.out 0; have hfz30_1 := blk_frozen BK312.out 1))
              repeat (go_quiet (first | (go_at_call 30; (with_reducible refine (furrowref4_At.calls (⟨#[101, 100, 105, 116]⟩ : ByteArray) x5_1 7 t327 t330 _ A27.out).mono ?_); rintro e w28 ⟨v328, rfl, ho0, hb⟩; have n0_ := mk0 (Kd.R_lower ho0 (below_size (by repeat (first | (with_reducible first | exact HB.out | apply bA | apply bN | apply bD | refine bS ?_ (by assumption)) | exact HB.out)))); have n1_ := mk0 (blk_below (g := gb312) (o := .cells #[.slice none 0 0, .int .i64 x313001_1] 43 (0, 0)) (uB BK312.out) hb); have n2_ := mk0 (below_step (by repeat (first | (with_reducible first | exact HB.out | apply bA | apply bN | apply bD | refine bS ?_ (by assumption)) | exact HB.out)) hb); clear BK312; clear HB; have HO329 := n0_; have BK312 := n1_; have HB := n2_; clear n0_ n1_ n2_; (try clear hb); (try clear hb2); (try clear hk); (try clear hi); (try clear ho0); obtain ⟨Ao29, co29, eo29⟩ := Kd.R_slice HO329.out; subst eo29; have hcz30_0 : w28.cell? ⟨gb312, 0, none⟩ = some (.slice none 0 0) := (blk_cell BK312.out 0).trans rfl; have hcz30_1 : w28.cell? ⟨gb312, 1, none⟩ = some (.int .i64 x313001_1) := (blk_cell BK312.out 1).trans rfl; have hfz30_0 := blk_frozen BK312.out 0; have hfz30_1 := blk_frozen BK312.out 1)); try go_wp2_with (first | (go_at_call 30; (with_reducible refine (furrowref4_At.calls (⟨#[101, 100, 105, 116]⟩ : ByteArray) x5_1 7 t327 t330 _ A27.out).mono ?_); rintro e w28 ⟨v328, rfl, ho0, hb⟩; have n0_ := mk0 (Kd.R_lower ho0 (below_size (by repeat (first | (with_reducible first | exact HB.out | apply bA | apply bN | apply bD | refine bS ?_ (by assumption)) | exact HB.out)))); have n1_ := mk0 (blk_below (g := gb312) (o := .cells #[.slice none 0 0, .int .i64 x313001_1] 43 (0, 0)) (uB BK312.out) hb); have n2_ := mk0 (below_step (by repeat (first | (with_reducible first | exact HB.out | apply bA | apply bN | apply bD | refine bS ?_ (by assumption)) | exact HB.out)) hb); clear BK312; clear HB; have HO329 := n0_; have BK312 := n1_; have HB := n2_; clear n0_ n1_ n2_; (try clear hb); (try clear hb2); (try clear hk); (try clear hi); (try clear ho0); obtain ⟨Ao29, co29, eo29⟩ := Kd.R_slice HO329.out; subst eo29; have hcz30_0 : w28.cell? ⟨gb312, 0, none⟩ = some (.slice none 0 0) := (blk_cell BK312.out 0).trans rfl; have hcz30_1 : w28.cell? ⟨gb312, 1, none⟩ = some (.int .i64 x313001_1) := (blk_cell BK312.out 1).trans rfl; have hfz30_0 := blk_frozen BK312.out 0; have hfz30_1 := blk_frozen BK312.out 1)))
              refine bodyPost_ret (results_cell_row rfl _ _ gb312 43 #[.slice Ao29 t327.length co29, .int .i64 t330] (0, 0) _ rfl (by (with_reducible repeat (first | refine blk_drewN ?_ _ | refine blk_drew ?_ | refine blk_alloc ?_ _)); refine blk_put (cs := #[.slice Ao29 t327.length co29, .int .i64 x313001_1]) ?_ 1 _ rfl; (with_reducible repeat (first | refine blk_drewN ?_ _ | refine blk_drew ?_ | refine blk_alloc ?_ _)); refine blk_put (cs := #[.slice none 0 0, .int .i64 x313001_1]) ?_ 0 _ rfl; (with_reducible repeat (first | refine blk_drewN ?_ _ | refine blk_drew ?_ | refine blk_alloc ?_ _)); exact BK312.out) Tryd.underlying43 rfl (by kernel_rfl)) rfl ?_
              exact ⟨_, by first | rfl | (simp [errW_none, errW_some] <;> rfl) | (simp only [← hji23]; first | rfl | (simp [errW_none, errW_some] <;> rfl)) | (simp [*, errW_none, errW_some] <;> rfl), uR (Kd.R_mono (Kd.R_far (p := ⟨gb312, 1, none⟩) (Kd.R_far (p := ⟨gb312, 0, none⟩) (Kd.R_types HO329.out BK312.out (by decide)) (fun _ hk => hk.2) (.slice Ao29 t327.length co29)) (fun _ hk => hk.2) (.int .i64 t330)) (fun _ hk => trivial)), by repeat (first | (with_reducible first | exact HB.out | apply bA | apply bN | apply bD | refine bS ?_ (by assumption)) | exact HB.out)⟩
             ·rw [if_neg c26] at H
              have c26b0 : decide (((rd_T60 l1 x5_1).f0) ≤ ((rd_T60 l1 (ji23)).f1)) = false := decide_eq_false c26
              clear c26
              have H' := mk0 H
              clear H
              have p325 : 0 ≤ (x5_1 : Int) := of_decide_eq_true (by first | (with_reducible assumption) | assumption)
              have q325 : x5_1 < (l1.length : Int) := of_decide_eq_true (by first | (with_reducible assumption) | assumption)
              obtain ⟨ad325, A325_2, c325_2, e325, hx325_0, hx325_1, hx325_2, hl325_2, hi325_2⟩ := at_T60 HR1.out x5_1 p325 q325
              cases e325
              replace hx325_0 := (HB.out.cell (World.block_lt_of_cell? w _ hx325_0)).trans hx325_0
              replace hx325_1 := (HB.out.cell (World.block_lt_of_cell? w _ hx325_1)).trans hx325_1
              replace hx325_2 := (HB.out.cell (World.block_lt_of_cell? w _ hx325_2)).trans hx325_2
              have HR325_2 := mk0 hi325_2
              have HC325_2 := mk0 hl325_2
              clear hi325_2 hl325_2
              replace p325 := eq_true p325
              replace q325 := eq_true q325
              have p326 : 0 ≤ ((ji23) : Int) := of_decide_eq_true (by first | (with_reducible assumption) | assumption)
              have q326 : (ji23) < (l1.length : Int) := of_decide_eq_true (by first | (with_reducible assumption) | assumption)
              obtain ⟨ad326, A326_2, c326_2, e326, hx326_0, hx326_1, hx326_2, hl326_2, hi326_2⟩ := at_T60 HR1.out (ji23) p326 q326
              obtain rfl : ad325 = ad326 := (by injection e326)
              replace hx326_0 := (HB.out.cell (World.block_lt_of_cell? w _ hx326_0)).trans hx326_0
              replace hx326_1 := (HB.out.cell (World.block_lt_of_cell? w _ hx326_1)).trans hx326_1
              replace hx326_2 := (HB.out.cell (World.block_lt_of_cell? w _ hx326_2)).trans hx326_2
              have HR326_2 := mk0 hi326_2
              have HC326_2 := mk0 hl326_2
              clear hi326_2 hl326_2
              replace p326 := eq_true p326
              replace q326 := eq_true q326
              go_wp2
              repeat (go_quiet (fail); try go_wp2)
              go_roundg kj10
              case measure => have := HK1.out; have := HJ10.out; omega
              case rel => exact ⟨(wrap64 (x5_1 + 1)), (x313001_1), (by first | rfl | (simp; done) | (simp [*]; done) | (simp [bne_nil_, beq_nil_]; done)), H', ⟨by have := HK1.out; have := HJ10.out; omega⟩, ⟨uB BK312.out⟩, ⟨by repeat (first | (with_reducible first | exact HB.out | apply bA | apply bN | apply bD | refine bS ?_ (by assumption)) | exact HB.out)⟩⟩
            ·rw [if_neg c25] at H
             exact absurd H (by simp)
           ·rw [if_neg c24] at H
            exact absurd H (by simp)
          ·rw [if_neg c22] at H
           exact absurd H (by simp)
         ·rw [if_neg c21] at H
          exact absurd H (by simp)
        ·rw [if_neg c20] at H
         have c20b0 : decide (0 < x5_1) = false := decide_eq_false c20
         clear c20
         have H' := mk0 H
         clear H
         go_wp2
         repeat (go_quiet (fail); try go_wp2)
         go_roundg kj10
         case measure => have := HK1.out; have := HJ10.out; omega
         case rel => exact ⟨(wrap64 (x5_1 + 1)), (x313001_1), (by first | rfl | (simp; done) | (simp [*]; done) | (simp [bne_nil_, beq_nil_]; done)), H', ⟨by have := HK1.out; have := HJ10.out; omega⟩, ⟨uB BK312.out⟩, ⟨by repeat (first | (with_reducible first | exact HB.out | apply bA | apply bN | apply bD | refine bS ?_ (by assumption)) | exact HB.out)⟩⟩
    ·rw [if_neg c10] at H
     have c10b0 : decide (x5_1 < (l1.length : Int)) = false := decide_eq_false c10
     clear c10
     simp only [Option.some.injEq, Prod.mk.injEq] at H
     obtain ⟨rfl, rfl⟩ := H
     have hcz31_0 : wr.cell? ⟨gb312, 0, none⟩ = some (.slice none 0 0) := (blk_cell BK312.out 0).trans rfl
     have hcz31_1 : wr.cell? ⟨gb312, 1, none⟩ = some (.int .i64 x313001_1) := (blk_cell BK312.out 1).trans rfl
     have hfz31_0 := blk_frozen BK312.out 0
     have hfz31_1 := blk_frozen BK312.out 1
     go_wp2
     repeat (go_quiet (fail); try go_wp2)
     refine bodyPost_ret (results_cell_row rfl _ _ gb312 43 #[.slice none 0 0, .int .i64 0] (0, 0) _ rfl (by (with_reducible repeat (first | refine blk_drewN ?_ _ | refine blk_drew ?_ | refine blk_alloc ?_ _)); refine blk_put (cs := #[.slice none 0 0, .int .i64 x313001_1]) ?_ 1 _ rfl; (with_reducible repeat (first | refine blk_drewN ?_ _ | refine blk_drew ?_ | refine blk_alloc ?_ _)); refine blk_put (cs := #[.slice none 0 0, .int .i64 x313001_1]) ?_ 0 _ rfl; (with_reducible repeat (first | refine blk_drewN ?_ _ | refine blk_drew ?_ | refine blk_alloc ?_ _)); exact BK312.out) Tryd.underlying43 rfl (by kernel_rfl)) rfl ?_
     exact ⟨_, by first | rfl | (simp [errW_none, errW_some] <;> rfl) | (simp [*, errW_none, errW_some] <;> rfl), by first | exact Kd.R_nil _ _ _ _ _ | exact Kd.N_nil _ _ _ _ _ | exact Kd.V_nil _ _ _ _ _ | exact Kd.Q_nil _ _ _ _ _ | exact Kd.S_nil _ _ _ _ _, by repeat (first | (with_reducible first | exact HB.out | apply bA | apply bN | apply bD | refine bS ?_ (by assumption)) | exact HB.out)⟩

end Go.Proofs.YteeeoblpfepepaaDoor.X
