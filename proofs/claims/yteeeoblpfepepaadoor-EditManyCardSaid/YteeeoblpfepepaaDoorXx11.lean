-- PRINTED by print.py (a twelfth state) out of the translation. Not trusted: Lean checks it.
import Derived.Test.YteeeoblpfepepaaDoorXx0
import Derived.Test.YteeeoblpfepepaaDoorHandF
namespace Go.Proofs.YteeeoblpfepepaaDoor.X
open Go.Proofs.YteeeoblpfepepaaDoor.Flt Go.Proofs.YteeeoblpfepepaaDoor.H Go.RowKit Go.Proofs.YteeeoblpfepepaaDoorW.PrintWords Go.Proofs.YteeeoblpfepepaaDoorW.PrintLast Go.Proofs.YteeeoblpfepepaaDoorW.PrintMore
attribute [local go_sem] max2_int min2_int max_two min_two max_three min_three max_four min_four   -- for this text's walks alone
set_option linter.unusedVariables false
set_option linter.unusedSimpArgs false

/-! ### edit_Check: function 23 -/
mutual
def edit_Check.l0 : Nat → Int → List (S38) → List (S38) → Int → Int → Option ((List (Flt)))
 | 0, _, _, _, _, _ => none
 | k + 1, x0, x1, x10, x11, x12 => if x12 < x11 then (if 0 ≤ x12 then (if x12 < (x10.length : Int) then (if ((rd_T38 x10 x12).f0) < 0 then (edit_Check.j1 k x0 x1 x12 x10 x11 x12 (decide (((rd_T38 x10 x12).f0) < 0)) ((rd_T38 x10 x12).f0) ((rd_T38 x10 x12).f1) ((rd_T38 x10 x12).f2)) else (if ((rd_T38 x10 x12).f1) < ((rd_T38 x10 x12).f0) then (edit_Check.j1 k x0 x1 x12 x10 x11 x12 (decide (((rd_T38 x10 x12).f1) < ((rd_T38 x10 x12).f0))) ((rd_T38 x10 x12).f0) ((rd_T38 x10 x12).f1) ((rd_T38 x10 x12).f2)) else (edit_Check.j1 k x0 x1 x12 x10 x11 x12 (decide (((rd_T38 x10 x12).f1) > x0)) ((rd_T38 x10 x12).f0) ((rd_T38 x10 x12).f1) ((rd_T38 x10 x12).f2)))) else (none)) else (none)) else (some ([] : List (Flt)))
def edit_Check.j1 : Nat → Int → List (S38) → Int → List (S38) → Int → Int → Bool → Int → Int → List ByteArray → Option ((List (Flt)))
 | 0, _, _, _, _, _, _, _, _, _, _ => none
 | k + 1, x0, x1, x5, x10, x11, x12, x17, x106000, x106001, x106002 => if x17 = true then ((edit_fault.f x5 1).bind fun t106 => (some t106)) else (if x5 > 0 then (if 0 ≤ (wrap64 (x5 - 1)) then (if (wrap64 (x5 - 1)) < (x1.length : Int) then (if x106000 ≤ ((rd_T38 x1 (wrap64 (x5 - 1))).f1) then ((edit_fault.f x5 7).bind fun t110 => (some t110)) else (edit_Check.l0 k x0 x1 x10 x11 (wrap64 (x12 + 1)))) else (none)) else (none)) else (edit_Check.l0 k x0 x1 x10 x11 (wrap64 (x12 + 1))))
end
def edit_Check.f (k : Nat) (a0 : Int) (l1 : List (S38)) : Option ((List (Flt))) := if a0 < 0 then ((edit_fault.f 0 1).bind fun t101 => (some t101)) else (edit_Check.l0 k a0 l1 l1 (l1.length : Int) 0)
theorem edit_Check.mono_l : ∀ k, (∀ y0 y1 y2 y3 y4, LeO (edit_Check.l0 k y0 y1 y2 y3 y4) (edit_Check.l0 (k + 1) y0 y1 y2 y3 y4)) ∧ (∀ y0 y1 y2 y3 y4 y5 y6 y7 y8 y9, LeO (edit_Check.j1 k y0 y1 y2 y3 y4 y5 y6 y7 y8 y9) (edit_Check.j1 (k + 1) y0 y1 y2 y3 y4 y5 y6 y7 y8 y9))
 | 0 => ⟨fun _ _ _ _ _ r h => by simp [edit_Check.l0] at h, fun _ _ _ _ _ _ _ _ _ _ r h => by simp [edit_Check.j1] at h⟩
 | k + 1 => by
  obtain ⟨ih0, ih1⟩ := edit_Check.mono_l k
  refine ⟨?_, ?_⟩
  ·intro y0 y1 y2 y3 y4
   unfold edit_Check.l0
   repeat' first
   | (with_reducible exact ih0 _ _ _ _ _)
   | (with_reducible exact ih1 _ _ _ _ _ _ _ _ _ _)
   | (with_reducible exact LeO.refl _)
   | (with_reducible exact LeO.none _)
   | (with_reducible refine LeO.ite ?_ ?_)
   | (with_reducible refine LeO.bind ?_ (fun _ => ?_))
   | exact ih0 _ _ _ _ _
   | exact ih1 _ _ _ _ _ _ _ _ _ _
   | exact LeO.none _
   | refine LeO.ite ?_ ?_
   | refine LeO.bind ?_ (fun _ => ?_)
  ·intro y0 y1 y2 y3 y4 y5 y6 y7 y8 y9
   unfold edit_Check.j1
   repeat' first
   | (with_reducible exact ih0 _ _ _ _ _)
   | (with_reducible exact ih1 _ _ _ _ _ _ _ _ _ _)
   | (with_reducible exact LeO.refl _)
   | (with_reducible exact LeO.none _)
   | (with_reducible refine LeO.ite ?_ ?_)
   | (with_reducible refine LeO.bind ?_ (fun _ => ?_))
   | exact ih0 _ _ _ _ _
   | exact ih1 _ _ _ _ _ _ _ _ _ _
   | exact LeO.none _
   | refine LeO.ite ?_ ?_
   | refine LeO.bind ?_ (fun _ => ?_)
theorem edit_Check.mono : ∀ a0 a1 k, LeO (edit_Check.f k a0 a1) (edit_Check.f (k + 1) a0 a1) := by
 intro a0 a1 k
 obtain ⟨ih0, ih1⟩ := edit_Check.mono_l k
 unfold edit_Check.f
 repeat' first
   | (with_reducible exact ih0 _ _ _ _ _)
   | (with_reducible exact ih1 _ _ _ _ _ _ _ _ _ _)
   | (with_reducible exact LeO.refl _)
   | (with_reducible exact LeO.none _)
   | (with_reducible refine LeO.ite ?_ ?_)
   | (with_reducible refine LeO.bind ?_ (fun _ => ?_))
   | exact ih0 _ _ _ _ _
   | exact ih1 _ _ _ _ _ _ _ _ _ _
   | exact LeO.none _
   | refine LeO.ite ?_ ?_
   | refine LeO.bind ?_ (fun _ => ?_)
set_option maxHeartbeats 8000000 in
set_option maxRecDepth 100000 in
theorem edit_Check.calls (k : Nat) (a0 : Int) (A1 : Option Addr) (c1 : Nat) (l1 : List (S38)) (r : List (Flt)) (w : World) (hr1 : Kd.C k38 w A1 l1.length l1) (hc1 : l1.length ≤ c1) (h : edit_Check.f k a0 l1 = some r) :
  Calls Tryd.prog 23 #[.int .i64 a0, .slice A1 l1.length c1] w fun e w' => ∃ v0_ : Value, e = .returned (errV v0_) ∧ Kd.R fltK 65 w' w.heap.size (fun _ => True) v0_ r ∧ Below w.heap.size w w' := by
 have hu38 := Tryd.underlying38
 have HR1 := mk0 hr1
 have HC1 := mk0 hc1
 clear hr1 hc1
 have HB := mk0 (Below.refl w.heap.size w)
 have H : (if a0 < 0 then ((edit_fault.f 0 1).bind fun t101 => (some t101)) else (edit_Check.l0 k a0 l1 l1 (l1.length : Int) 0)) = some r := h
 clear h
 by_cases c3 : a0 < 0
 ·rw [if_pos c3] at H
  have c3b0 : decide (a0 < 0) = true := decide_eq_true c3
  clear c3
  replace H := Option.bind_eq_some_iff.mp H
  obtain ⟨t101, A40, H⟩ := H
  replace H : (some t101) = some r := H
  have A4 := mk0 A40
  clear A40
  obtain rfl := Option.some.inj H
  go_enter Tryd.func23, Tryd.ntmps23
  go_wp2_with (first | (go_at_call 32; (with_reducible refine (edit_fault.calls 0 1 t101 _ A4.out).mono ?_); rintro e w5 ⟨v102, rfl, ho0, hb⟩; have n0_ := mk0 (Kd.R_lower ho0 (below_size (uL HB.out))); have n1_ := mk0 (below_step (uL HB.out) hb); clear HB; have HO103 := n0_; have HB := n1_; clear n0_ n1_; (try clear hb); (try clear hb2); (try clear hk); (try clear hi); (try clear ho0); (first | (have EHO103 := cmpV_no HO103.out (by with_reducible assumption)) | (have EHO103 := cmpV_yes HO103.out (by with_reducible assumption)) | skip)))
  repeat (go_quiet (first | (go_at_call 32; (with_reducible refine (edit_fault.calls 0 1 t101 _ A4.out).mono ?_); rintro e w5 ⟨v102, rfl, ho0, hb⟩; have n0_ := mk0 (Kd.R_lower ho0 (below_size (uL HB.out))); have n1_ := mk0 (below_step (uL HB.out) hb); clear HB; have HO103 := n0_; have HB := n1_; clear n0_ n1_; (try clear hb); (try clear hb2); (try clear hk); (try clear hi); (try clear ho0); (first | (have EHO103 := cmpV_no HO103.out (by with_reducible assumption)) | (have EHO103 := cmpV_yes HO103.out (by with_reducible assumption)) | skip))); try go_wp2_with (first | (go_at_call 32; (with_reducible refine (edit_fault.calls 0 1 t101 _ A4.out).mono ?_); rintro e w5 ⟨v102, rfl, ho0, hb⟩; have n0_ := mk0 (Kd.R_lower ho0 (below_size (uL HB.out))); have n1_ := mk0 (below_step (uL HB.out) hb); clear HB; have HO103 := n0_; have HB := n1_; clear n0_ n1_; (try clear hb); (try clear hb2); (try clear hk); (try clear hi); (try clear ho0); (first | (have EHO103 := cmpV_no HO103.out (by with_reducible assumption)) | (have EHO103 := cmpV_yes HO103.out (by with_reducible assumption)) | skip))))
  go_ret
  exact ⟨(v102), by first | rfl | (simp [errW_none, errW_some] <;> rfl) | (simp [*, errW_none, errW_some] <;> rfl), uR HO103.out, uL HB.out⟩
 ·rw [if_neg c3] at H
  have c3b0 : decide (a0 < 0) = false := decide_eq_false c3
  clear c3
  have H' := mk0 H
  clear H
  go_enter Tryd.func23, Tryd.ntmps23
  go_wp2
  repeat (go_quiet (fail); try go_wp2)
  go_loopg [12] k (fun kq v12 w' => ∃ (x12_1 : Int), v12 = .int .i64 x12_1 ∧ Aside0 (edit_Check.l0 kq a0 l1 l1 (l1.length : Int) x12_1 = some r) ∧ Aside0 (kq ≤ k) ∧ Aside0 (Below w.heap.size w w'))
  case atStart => exact ⟨(0), (by first | rfl | (simp; done) | (simp [*]; done) | (simp [bne_nil_, beq_nil_]; done)), H', ⟨Nat.le_refl _⟩, ⟨uL HB.out⟩⟩
  case round =>
   clear H'
   try clear c1
   try clear c2
   try clear p2
   try clear c3
   try clear c3b0
   obtain ⟨x12_1, rfl, HA, HK1, HB⟩ := hrel
   cases gk with
   | zero => exact absurd HA.out (by simp [edit_Check.l0])
   | succ k1 =>
    have H := HA.out
    clear HA
    simp only [edit_Check.l0] at H
    by_cases c6 : x12_1 < (l1.length : Int)
    ·rw [if_pos c6] at H
     have c6b0 : decide (x12_1 < (l1.length : Int)) = true := decide_eq_true c6
     clear c6
     by_cases c7 : 0 ≤ x12_1
     ·rw [if_pos c7] at H
      have c7b0 : decide (0 ≤ x12_1) = true := decide_eq_true c7
      clear c7
      by_cases c8 : x12_1 < (l1.length : Int)
      ·rw [if_pos c8] at H
       have c8b0 : decide (x12_1 < (l1.length : Int)) = true := decide_eq_true c8
       clear c8
       have HC9 := mk0 H
       clear H
       have p104 : 0 ≤ (x12_1 : Int) := of_decide_eq_true (by first | (with_reducible assumption) | assumption)
       have q104 : x12_1 < (l1.length : Int) := of_decide_eq_true (by first | (with_reducible assumption) | assumption)
       obtain ⟨ad104, A104_2, c104_2, e104, hx104_0, hx104_1, hx104_2, hl104_2, hi104_2⟩ := at_T38 HR1.out x12_1 p104 q104
       cases e104
       replace hx104_0 := (HB.out.cell (World.block_lt_of_cell? w _ hx104_0)).trans hx104_0
       replace hx104_1 := (HB.out.cell (World.block_lt_of_cell? w _ hx104_1)).trans hx104_1
       replace hx104_2 := (HB.out.cell (World.block_lt_of_cell? w _ hx104_2)).trans hx104_2
       have HR104_2 := mk0 hi104_2
       have HC104_2 := mk0 hl104_2
       clear hi104_2 hl104_2
       replace p104 := eq_true p104
       replace q104 := eq_true q104
       go_upto_if 17 with (first | ((with_reducible refine gate_dst (N := 6) rfl ?_); refine box_event ?hg (N := 6) ?hd (cs := #[.int .i64 0, .int .i64 0, .slice none 0 0]) (t := 38) ?hr ?_; (case hd => rfl); (case hg => rfl); (case hr => first | (go_simp; done) | (go_simp; rfl)); intro gb105 hg w10 hbox hb; have n0_ := mk0 (below_step (uL HB.out) hb); have n1_ := mk0 (hbox); have n2_ := mk0 ((by rw [hg]; exact (below_size (uL HB.out)) : w.heap.size ≤ gb105)); have n3_ := mk0 ((by rw [hg]; exact (below_size (uL HB.out)) : w.heap.size ≤ gb105)); clear HB; have HB := n0_; have BK105 := n1_; have GW105 := n2_; have GE105 := n3_; clear n0_ n1_ n2_ n3_; clear hb hbox hg; have hcz11_0 : w10.cell? ⟨gb105, 0, none⟩ = some (.int .i64 0) := (blk_cell BK105.out 0).trans rfl; have hcz11_1 : w10.cell? ⟨gb105, 1, none⟩ = some (.int .i64 0) := (blk_cell BK105.out 1).trans rfl; have hcz11_2 : w10.cell? ⟨gb105, 2, none⟩ = some (.slice none 0 0) := (blk_cell BK105.out 2).trans rfl; have hfz11_0 := blk_frozen BK105.out 0; have hfz11_1 := blk_frozen BK105.out 1; have hfz11_2 := blk_frozen BK105.out 2))
       repeat (go_quiet (first | ((with_reducible refine gate_dst (N := 6) rfl ?_); refine box_event ?hg (N := 6) ?hd (cs := #[.int .i64 0, .int .i64 0, .slice none 0 0]) (t := 38) ?hr ?_; (case hd => rfl); (case hg => rfl); (case hr => first | (go_simp; done) | (go_simp; rfl)); intro gb105 hg w10 hbox hb; have n0_ := mk0 (below_step (uL HB.out) hb); have n1_ := mk0 (hbox); have n2_ := mk0 ((by rw [hg]; exact (below_size (uL HB.out)) : w.heap.size ≤ gb105)); have n3_ := mk0 ((by rw [hg]; exact (below_size (uL HB.out)) : w.heap.size ≤ gb105)); clear HB; have HB := n0_; have BK105 := n1_; have GW105 := n2_; have GE105 := n3_; clear n0_ n1_ n2_ n3_; clear hb hbox hg; have hcz11_0 : w10.cell? ⟨gb105, 0, none⟩ = some (.int .i64 0) := (blk_cell BK105.out 0).trans rfl; have hcz11_1 : w10.cell? ⟨gb105, 1, none⟩ = some (.int .i64 0) := (blk_cell BK105.out 1).trans rfl; have hcz11_2 : w10.cell? ⟨gb105, 2, none⟩ = some (.slice none 0 0) := (blk_cell BK105.out 2).trans rfl; have hfz11_0 := blk_frozen BK105.out 0; have hfz11_1 := blk_frozen BK105.out 1; have hfz11_2 := blk_frozen BK105.out 2)); go_upto_if 17 with (first | ((with_reducible refine gate_dst (N := 6) rfl ?_); refine box_event ?hg (N := 6) ?hd (cs := #[.int .i64 0, .int .i64 0, .slice none 0 0]) (t := 38) ?hr ?_; (case hd => rfl); (case hg => rfl); (case hr => first | (go_simp; done) | (go_simp; rfl)); intro gb105 hg w10 hbox hb; have n0_ := mk0 (below_step (uL HB.out) hb); have n1_ := mk0 (hbox); have n2_ := mk0 ((by rw [hg]; exact (below_size (uL HB.out)) : w.heap.size ≤ gb105)); have n3_ := mk0 ((by rw [hg]; exact (below_size (uL HB.out)) : w.heap.size ≤ gb105)); clear HB; have HB := n0_; have BK105 := n1_; have GW105 := n2_; have GE105 := n3_; clear n0_ n1_ n2_ n3_; clear hb hbox hg; have hcz11_0 : w10.cell? ⟨gb105, 0, none⟩ = some (.int .i64 0) := (blk_cell BK105.out 0).trans rfl; have hcz11_1 : w10.cell? ⟨gb105, 1, none⟩ = some (.int .i64 0) := (blk_cell BK105.out 1).trans rfl; have hcz11_2 : w10.cell? ⟨gb105, 2, none⟩ = some (.slice none 0 0) := (blk_cell BK105.out 2).trans rfl; have hfz11_0 := blk_frozen BK105.out 0; have hfz11_1 := blk_frozen BK105.out 1; have hfz11_2 := blk_frozen BK105.out 2)))
       (try simp only [Act.put, List.setIfInBounds_toArray, List.set_cons_zero, List.set_cons_succ])
       go_cut [17] (fun v17 wc => ∃ (kq : Nat) (x17_8 : Bool), v17 = .bool x17_8 ∧ Aside0 (edit_Check.j1 kq a0 l1 x12_1 l1 (l1.length : Int) x12_1 x17_8 ((rd_T38 l1 x12_1).f0) ((rd_T38 l1 x12_1).f1) ((rd_T38 l1 x12_1).f2) = some r) ∧ Aside0 (kq ≤ k1) ∧ Aside0 (wc.heap[gb105]? = some (.cells #[.int .i64 ((rd_T38 l1 x12_1).f0), .int .i64 ((rd_T38 l1 x12_1).f1), (.slice A104_2 ((rd_T38 l1 x12_1).f2).length c104_2)] 38 (0, 0))) ∧ Aside0 (Below w.heap.size w wc))
       case first =>
        have H := HC9.out
        clear HC9
        by_cases c12 : ((rd_T38 l1 x12_1).f0) < 0
        ·rw [if_pos c12] at H
         have c12b0 : decide (((rd_T38 l1 x12_1).f0) < 0) = true := decide_eq_true c12
         clear c12
         (first | rw [c12b0] | (simp only [i64_w, i32_w]; rw [c12b0]) | skip)
         have H' := mk0 H
         clear H
         go_wp2
         repeat (go_quiet (fail); try go_wp2)
         go_meet
         case rel => exact ⟨_, (decide (((rd_T38 l1 x12_1).f0) < 0)), (by first | rfl | (simp; done) | (simp [*]; done) | (simp [bne_nil_, beq_nil_]; done)), H', ⟨by have := HK1.out; first | omega | exact Nat.le_refl _⟩, ⟨by (with_reducible repeat (first | refine blk_drewN ?_ _ | refine blk_drew ?_ | refine blk_alloc ?_ _)); refine blk_put (cs := #[.int .i64 ((rd_T38 l1 x12_1).f0), .int .i64 ((rd_T38 l1 x12_1).f1), .slice none 0 0]) ?_ 2 _ rfl; (with_reducible repeat (first | refine blk_drewN ?_ _ | refine blk_drew ?_ | refine blk_alloc ?_ _)); refine blk_put (cs := #[.int .i64 ((rd_T38 l1 x12_1).f0), .int .i64 0, .slice none 0 0]) ?_ 1 _ rfl; (with_reducible repeat (first | refine blk_drewN ?_ _ | refine blk_drew ?_ | refine blk_alloc ?_ _)); refine blk_put (cs := #[.int .i64 0, .int .i64 0, .slice none 0 0]) ?_ 0 _ rfl; (with_reducible repeat (first | refine blk_drewN ?_ _ | refine blk_drew ?_ | refine blk_alloc ?_ _)); exact BK105.out⟩, ⟨by repeat (first | (with_reducible first | exact HB.out | apply bA | apply bN | apply bD | refine bS ?_ (by assumption)) | exact HB.out)⟩⟩
        ·rw [if_neg c12] at H
         have c12b0 : decide (((rd_T38 l1 x12_1).f0) < 0) = false := decide_eq_false c12
         clear c12
         (first | rw [c12b0] | (simp only [i64_w, i32_w]; rw [c12b0]) | skip)
         by_cases c13 : ((rd_T38 l1 x12_1).f1) < ((rd_T38 l1 x12_1).f0)
         ·rw [if_pos c13] at H
          have c13b0 : decide (((rd_T38 l1 x12_1).f1) < ((rd_T38 l1 x12_1).f0)) = true := decide_eq_true c13
          clear c13
          have H' := mk0 H
          clear H
          have hcz14_0 : w10.cell? ⟨gb105, 0, none⟩ = some (.int .i64 0) := (blk_cell BK105.out 0).trans rfl
          have hcz14_1 : w10.cell? ⟨gb105, 1, none⟩ = some (.int .i64 0) := (blk_cell BK105.out 1).trans rfl
          have hcz14_2 : w10.cell? ⟨gb105, 2, none⟩ = some (.slice none 0 0) := (blk_cell BK105.out 2).trans rfl
          have hfz14_0 := blk_frozen BK105.out 0
          have hfz14_1 := blk_frozen BK105.out 1
          have hfz14_2 := blk_frozen BK105.out 2
          go_wp2
          repeat (go_quiet (fail); try go_wp2)
          go_meet
          case rel => exact ⟨_, (decide (((rd_T38 l1 x12_1).f1) < ((rd_T38 l1 x12_1).f0))), (by first | rfl | (simp; done) | (simp [*]; done) | (simp [bne_nil_, beq_nil_]; done)), H', ⟨by have := HK1.out; first | omega | exact Nat.le_refl _⟩, ⟨by (with_reducible repeat (first | refine blk_drewN ?_ _ | refine blk_drew ?_ | refine blk_alloc ?_ _)); refine blk_put (cs := #[.int .i64 ((rd_T38 l1 x12_1).f0), .int .i64 ((rd_T38 l1 x12_1).f1), .slice none 0 0]) ?_ 2 _ rfl; (with_reducible repeat (first | refine blk_drewN ?_ _ | refine blk_drew ?_ | refine blk_alloc ?_ _)); refine blk_put (cs := #[.int .i64 ((rd_T38 l1 x12_1).f0), .int .i64 0, .slice none 0 0]) ?_ 1 _ rfl; (with_reducible repeat (first | refine blk_drewN ?_ _ | refine blk_drew ?_ | refine blk_alloc ?_ _)); refine blk_put (cs := #[.int .i64 0, .int .i64 0, .slice none 0 0]) ?_ 0 _ rfl; (with_reducible repeat (first | refine blk_drewN ?_ _ | refine blk_drew ?_ | refine blk_alloc ?_ _)); exact BK105.out⟩, ⟨by repeat (first | (with_reducible first | exact HB.out | apply bA | apply bN | apply bD | refine bS ?_ (by assumption)) | exact HB.out)⟩⟩
         ·rw [if_neg c13] at H
          have c13b0 : decide (((rd_T38 l1 x12_1).f1) < ((rd_T38 l1 x12_1).f0)) = false := decide_eq_false c13
          clear c13
          have H' := mk0 H
          clear H
          have hcz15_0 : w10.cell? ⟨gb105, 0, none⟩ = some (.int .i64 0) := (blk_cell BK105.out 0).trans rfl
          have hcz15_1 : w10.cell? ⟨gb105, 1, none⟩ = some (.int .i64 0) := (blk_cell BK105.out 1).trans rfl
          have hcz15_2 : w10.cell? ⟨gb105, 2, none⟩ = some (.slice none 0 0) := (blk_cell BK105.out 2).trans rfl
          have hfz15_0 := blk_frozen BK105.out 0
          have hfz15_1 := blk_frozen BK105.out 1
          have hfz15_2 := blk_frozen BK105.out 2
          go_wp2
          repeat (go_quiet (fail); try go_wp2)
          go_meet
          case rel => exact ⟨_, (decide (((rd_T38 l1 x12_1).f1) > a0)), (by first | rfl | (simp; done) | (simp [*]; done) | (simp [bne_nil_, beq_nil_]; done)), H', ⟨by have := HK1.out; first | omega | exact Nat.le_refl _⟩, ⟨by (with_reducible repeat (first | refine blk_drewN ?_ _ | refine blk_drew ?_ | refine blk_alloc ?_ _)); refine blk_put (cs := #[.int .i64 ((rd_T38 l1 x12_1).f0), .int .i64 ((rd_T38 l1 x12_1).f1), .slice none 0 0]) ?_ 2 _ rfl; (with_reducible repeat (first | refine blk_drewN ?_ _ | refine blk_drew ?_ | refine blk_alloc ?_ _)); refine blk_put (cs := #[.int .i64 ((rd_T38 l1 x12_1).f0), .int .i64 0, .slice none 0 0]) ?_ 1 _ rfl; (with_reducible repeat (first | refine blk_drewN ?_ _ | refine blk_drew ?_ | refine blk_alloc ?_ _)); refine blk_put (cs := #[.int .i64 0, .int .i64 0, .slice none 0 0]) ?_ 0 _ rfl; (with_reducible repeat (first | refine blk_drewN ?_ _ | refine blk_drew ?_ | refine blk_alloc ?_ _)); exact BK105.out⟩, ⟨by repeat (first | (with_reducible first | exact HB.out | apply bA | apply bN | apply bD | refine bS ?_ (by assumption)) | exact HB.out)⟩⟩
       case rest =>
        clear HC9
        try clear c1
        try clear p1
        try clear q1
        try clear hx1
        try clear c2
        try clear p2
        try clear c3
        try clear c3b0
        try clear c6
        try clear c6b0
        try clear c7
        try clear c7b0
        try clear c8
        try clear c8b0
        try clear c10
        try clear p10
        try clear q10
        try clear hx10
        try clear c12
        try clear c12b0
        try clear c13
        try clear c13b0
        try clear hcz11_0
        try clear hcz11_1
        try clear hcz11_2
        try clear hcz14_0
        try clear hcz14_1
        try clear hcz14_2
        try clear hcz15_0
        try clear hcz15_1
        try clear hcz15_2
        try clear hfz11_0
        try clear hfz11_1
        try clear hfz11_2
        try clear hfz14_0
        try clear hfz14_1
        try clear hfz14_2
        try clear hfz15_0
        try clear hfz15_1
        try clear hfz15_2
        try clear hx104_0
        try clear hx104_1
        try clear hx104_2
        try clear p104
        try clear p2
        try clear q104
        obtain ⟨kq, x17_8, rfl, HA, HJ8, BK105, HB⟩ := hcut
        cases kq with
        | zero => exact absurd HA.out (by simp [edit_Check.j1])
        | succ kj8 =>
         have H := HA.out
         clear HA
         simp only [edit_Check.j1] at H
         by_cases c16 : x17_8 = true
         ·subst c16
          have H1 : ((edit_fault.f x12_1 1).bind fun t106 => (some t106)) = some r := by rw [if_pos rfl] at H; exact H
          clear H
          have H := H1
          clear H1
          replace H := Option.bind_eq_some_iff.mp H
          obtain ⟨t106, A170, H⟩ := H
          replace H : (some t106) = some r := H
          have A17 := mk0 A170
          clear A170
          obtain rfl := Option.some.inj H
          go_wp2_with (first | (go_at_call 32; (with_reducible refine (edit_fault.calls x12_1 1 t106 _ A17.out).mono ?_); rintro e w18 ⟨v107, rfl, ho0, hb⟩; have n0_ := mk0 (Kd.R_lower ho0 (below_size (by repeat (first | (with_reducible first | exact HB.out | apply bA | apply bN | apply bD | refine bS ?_ (by assumption)) | exact HB.out)))); have n1_ := mk0 (blk_below (g := gb105) (o := .cells #[.int .i64 ((rd_T38 l1 x12_1).f0), .int .i64 ((rd_T38 l1 x12_1).f1), .slice A104_2 ((rd_T38 l1 x12_1).f2).length c104_2] 38 (0, 0)) (uB BK105.out) hb); have n2_ := mk0 (below_step (by repeat (first | (with_reducible first | exact HB.out | apply bA | apply bN | apply bD | refine bS ?_ (by assumption)) | exact HB.out)) hb); clear BK105; clear HB; have HO108 := n0_; have BK105 := n1_; have HB := n2_; clear n0_ n1_ n2_; (try clear hb); (try clear hb2); (try clear hk); (try clear hi); (try clear ho0); (first | (have EHO108 := cmpV_no HO108.out (by with_reducible assumption)) | (have EHO108 := cmpV_yes HO108.out (by with_reducible assumption)) | skip)))
          repeat (go_quiet (first | (go_at_call 32; (with_reducible refine (edit_fault.calls x12_1 1 t106 _ A17.out).mono ?_); rintro e w18 ⟨v107, rfl, ho0, hb⟩; have n0_ := mk0 (Kd.R_lower ho0 (below_size (by repeat (first | (with_reducible first | exact HB.out | apply bA | apply bN | apply bD | refine bS ?_ (by assumption)) | exact HB.out)))); have n1_ := mk0 (blk_below (g := gb105) (o := .cells #[.int .i64 ((rd_T38 l1 x12_1).f0), .int .i64 ((rd_T38 l1 x12_1).f1), .slice A104_2 ((rd_T38 l1 x12_1).f2).length c104_2] 38 (0, 0)) (uB BK105.out) hb); have n2_ := mk0 (below_step (by repeat (first | (with_reducible first | exact HB.out | apply bA | apply bN | apply bD | refine bS ?_ (by assumption)) | exact HB.out)) hb); clear BK105; clear HB; have HO108 := n0_; have BK105 := n1_; have HB := n2_; clear n0_ n1_ n2_; (try clear hb); (try clear hb2); (try clear hk); (try clear hi); (try clear ho0); (first | (have EHO108 := cmpV_no HO108.out (by with_reducible assumption)) | (have EHO108 := cmpV_yes HO108.out (by with_reducible assumption)) | skip))); try go_wp2_with (first | (go_at_call 32; (with_reducible refine (edit_fault.calls x12_1 1 t106 _ A17.out).mono ?_); rintro e w18 ⟨v107, rfl, ho0, hb⟩; have n0_ := mk0 (Kd.R_lower ho0 (below_size (by repeat (first | (with_reducible first | exact HB.out | apply bA | apply bN | apply bD | refine bS ?_ (by assumption)) | exact HB.out)))); have n1_ := mk0 (blk_below (g := gb105) (o := .cells #[.int .i64 ((rd_T38 l1 x12_1).f0), .int .i64 ((rd_T38 l1 x12_1).f1), .slice A104_2 ((rd_T38 l1 x12_1).f2).length c104_2] 38 (0, 0)) (uB BK105.out) hb); have n2_ := mk0 (below_step (by repeat (first | (with_reducible first | exact HB.out | apply bA | apply bN | apply bD | refine bS ?_ (by assumption)) | exact HB.out)) hb); clear BK105; clear HB; have HO108 := n0_; have BK105 := n1_; have HB := n2_; clear n0_ n1_ n2_; (try clear hb); (try clear hb2); (try clear hk); (try clear hi); (try clear ho0); (first | (have EHO108 := cmpV_no HO108.out (by with_reducible assumption)) | (have EHO108 := cmpV_yes HO108.out (by with_reducible assumption)) | skip))))
          go_ret
          exact ⟨(v107), by first | rfl | (simp [errW_none, errW_some] <;> rfl) | (simp [*, errW_none, errW_some] <;> rfl), uR HO108.out, by repeat (first | (with_reducible first | exact HB.out | apply bA | apply bN | apply bD | refine bS ?_ (by assumption)) | exact HB.out)⟩
         ·replace c16 := Bool.eq_false_iff.mpr c16
          subst c16
          have H1 : (if x12_1 > 0 then (if 0 ≤ (wrap64 (x12_1 - 1)) then (if (wrap64 (x12_1 - 1)) < (l1.length : Int) then (if ((rd_T38 l1 x12_1).f0) ≤ ((rd_T38 l1 (wrap64 (x12_1 - 1))).f1) then ((edit_fault.f x12_1 7).bind fun t110 => (some t110)) else (edit_Check.l0 kj8 a0 l1 l1 (l1.length : Int) (wrap64 (x12_1 + 1)))) else (none)) else (none)) else (edit_Check.l0 kj8 a0 l1 l1 (l1.length : Int) (wrap64 (x12_1 + 1)))) = some r := by rw [if_neg (show ¬ (false = true) by decide)] at H; exact H
          clear H
          have H := H1
          clear H1
          by_cases c19 : x12_1 > 0
          ·rw [if_pos c19] at H
           have c19b0 : decide (0 < x12_1) = true := decide_eq_true c19
           clear c19
           obtain ⟨ji20, hji20⟩ : ∃ j_ : Int, (wrap64 (x12_1 - 1)) = j_ := ⟨_, rfl⟩
           replace H : (if 0 ≤ (ji20) then (if (ji20) < (l1.length : Int) then (if ((rd_T38 l1 x12_1).f0) ≤ ((rd_T38 l1 (ji20)).f1) then ((edit_fault.f x12_1 7).bind fun t110 => (some t110)) else (edit_Check.l0 kj8 a0 l1 l1 (l1.length : Int) (wrap64 (x12_1 + 1)))) else (none)) else (none)) = some r := by first | (rw [hji20] at H; exact H) | (simp only [hji20] at H ⊢; exact H)
           have hji20w : (IntKind.i64.wrap (x12_1 - 1)) = ji20 := (i64_w _).trans hji20
           by_cases c21 : 0 ≤ (ji20)
           ·rw [if_pos c21] at H
            have c21b0 : decide (0 ≤ (ji20)) = true := decide_eq_true c21
            clear c21
            by_cases c22 : (ji20) < (l1.length : Int)
            ·rw [if_pos c22] at H
             have c22b0 : decide ((ji20) < (l1.length : Int)) = true := decide_eq_true c22
             clear c22
             by_cases c23 : ((rd_T38 l1 x12_1).f0) ≤ ((rd_T38 l1 (ji20)).f1)
             ·rw [if_pos c23] at H
              have c23b0 : decide (((rd_T38 l1 x12_1).f0) ≤ ((rd_T38 l1 (ji20)).f1)) = true := decide_eq_true c23
              clear c23
              replace H := Option.bind_eq_some_iff.mp H
              obtain ⟨t110, A240, H⟩ := H
              replace H : (some t110) = some r := H
              have A24 := mk0 A240
              clear A240
              obtain rfl := Option.some.inj H
              have hcz25_0 : wc.cell? ⟨gb105, 0, none⟩ = some (.int .i64 ((rd_T38 l1 x12_1).f0)) := (blk_cell BK105.out 0).trans rfl
              have hcz25_1 : wc.cell? ⟨gb105, 1, none⟩ = some (.int .i64 ((rd_T38 l1 x12_1).f1)) := (blk_cell BK105.out 1).trans rfl
              have hcz25_2 : wc.cell? ⟨gb105, 2, none⟩ = some (.slice A104_2 ((rd_T38 l1 x12_1).f2).length c104_2) := (blk_cell BK105.out 2).trans rfl
              have hfz25_0 := blk_frozen BK105.out 0
              have hfz25_1 := blk_frozen BK105.out 1
              have hfz25_2 := blk_frozen BK105.out 2
              have p109 : 0 ≤ ((ji20) : Int) := of_decide_eq_true (by first | (with_reducible assumption) | assumption)
              have q109 : (ji20) < (l1.length : Int) := of_decide_eq_true (by first | (with_reducible assumption) | assumption)
              obtain ⟨ad109, A109_2, c109_2, e109, hx109_0, hx109_1, hx109_2, hl109_2, hi109_2⟩ := at_T38 HR1.out (ji20) p109 q109
              obtain rfl : ad104 = ad109 := (by injection e109)
              replace hx109_0 := (HB.out.cell (World.block_lt_of_cell? w _ hx109_0)).trans hx109_0
              replace hx109_1 := (HB.out.cell (World.block_lt_of_cell? w _ hx109_1)).trans hx109_1
              replace hx109_2 := (HB.out.cell (World.block_lt_of_cell? w _ hx109_2)).trans hx109_2
              have HR109_2 := mk0 hi109_2
              have HC109_2 := mk0 hl109_2
              clear hi109_2 hl109_2
              replace p109 := eq_true p109
              replace q109 := eq_true q109
              go_wp2_with (first | (go_at_call 32; (with_reducible refine (edit_fault.calls x12_1 7 t110 _ A24.out).mono ?_); rintro e w26 ⟨v111, rfl, ho0, hb⟩; have n0_ := mk0 (Kd.R_lower ho0 (below_size (by repeat (first | (with_reducible first | exact HB.out | apply bA | apply bN | apply bD | refine bS ?_ (by assumption)) | exact HB.out)))); have n1_ := mk0 (blk_below (g := gb105) (o := .cells #[.int .i64 ((rd_T38 l1 x12_1).f0), .int .i64 ((rd_T38 l1 x12_1).f1), .slice A104_2 ((rd_T38 l1 x12_1).f2).length c104_2] 38 (0, 0)) (uB BK105.out) hb); have n2_ := mk0 (below_step (by repeat (first | (with_reducible first | exact HB.out | apply bA | apply bN | apply bD | refine bS ?_ (by assumption)) | exact HB.out)) hb); clear BK105; clear HB; have HO112 := n0_; have BK105 := n1_; have HB := n2_; clear n0_ n1_ n2_; (try clear hb); (try clear hb2); (try clear hk); (try clear hi); (try clear ho0); (first | (have EHO112 := cmpV_no HO112.out (by with_reducible assumption)) | (have EHO112 := cmpV_yes HO112.out (by with_reducible assumption)) | skip)))
              repeat (go_quiet (first | (go_at_call 32; (with_reducible refine (edit_fault.calls x12_1 7 t110 _ A24.out).mono ?_); rintro e w26 ⟨v111, rfl, ho0, hb⟩; have n0_ := mk0 (Kd.R_lower ho0 (below_size (by repeat (first | (with_reducible first | exact HB.out | apply bA | apply bN | apply bD | refine bS ?_ (by assumption)) | exact HB.out)))); have n1_ := mk0 (blk_below (g := gb105) (o := .cells #[.int .i64 ((rd_T38 l1 x12_1).f0), .int .i64 ((rd_T38 l1 x12_1).f1), .slice A104_2 ((rd_T38 l1 x12_1).f2).length c104_2] 38 (0, 0)) (uB BK105.out) hb); have n2_ := mk0 (below_step (by repeat (first | (with_reducible first | exact HB.out | apply bA | apply bN | apply bD | refine bS ?_ (by assumption)) | exact HB.out)) hb); clear BK105; clear HB; have HO112 := n0_; have BK105 := n1_; have HB := n2_; clear n0_ n1_ n2_; (try clear hb); (try clear hb2); (try clear hk); (try clear hi); (try clear ho0); (first | (have EHO112 := cmpV_no HO112.out (by with_reducible assumption)) | (have EHO112 := cmpV_yes HO112.out (by with_reducible assumption)) | skip))); try go_wp2_with (first | (go_at_call 32; (with_reducible refine (edit_fault.calls x12_1 7 t110 _ A24.out).mono ?_); rintro e w26 ⟨v111, rfl, ho0, hb⟩; have n0_ := mk0 (Kd.R_lower ho0 (below_size (by repeat (first | (with_reducible first | exact HB.out | apply bA | apply bN | apply bD | refine bS ?_ (by assumption)) | exact HB.out)))); have n1_ := mk0 (blk_below (g := gb105) (o := .cells #[.int .i64 ((rd_T38 l1 x12_1).f0), .int .i64 ((rd_T38 l1 x12_1).f1), .slice A104_2 ((rd_T38 l1 x12_1).f2).length c104_2] 38 (0, 0)) (uB BK105.out) hb); have n2_ := mk0 (below_step (by repeat (first | (with_reducible first | exact HB.out | apply bA | apply bN | apply bD | refine bS ?_ (by assumption)) | exact HB.out)) hb); clear BK105; clear HB; have HO112 := n0_; have BK105 := n1_; have HB := n2_; clear n0_ n1_ n2_; (try clear hb); (try clear hb2); (try clear hk); (try clear hi); (try clear ho0); (first | (have EHO112 := cmpV_no HO112.out (by with_reducible assumption)) | (have EHO112 := cmpV_yes HO112.out (by with_reducible assumption)) | skip))))
              go_ret
              exact ⟨(v111), by first | rfl | (simp [errW_none, errW_some] <;> rfl) | (simp only [← hji20]; first | rfl | (simp [errW_none, errW_some] <;> rfl)) | (simp [*, errW_none, errW_some] <;> rfl), uR HO112.out, by repeat (first | (with_reducible first | exact HB.out | apply bA | apply bN | apply bD | refine bS ?_ (by assumption)) | exact HB.out)⟩
             ·rw [if_neg c23] at H
              have c23b0 : decide (((rd_T38 l1 x12_1).f0) ≤ ((rd_T38 l1 (ji20)).f1)) = false := decide_eq_false c23
              clear c23
              have H' := mk0 H
              clear H
              have hcz27_0 : wc.cell? ⟨gb105, 0, none⟩ = some (.int .i64 ((rd_T38 l1 x12_1).f0)) := (blk_cell BK105.out 0).trans rfl
              have hcz27_1 : wc.cell? ⟨gb105, 1, none⟩ = some (.int .i64 ((rd_T38 l1 x12_1).f1)) := (blk_cell BK105.out 1).trans rfl
              have hcz27_2 : wc.cell? ⟨gb105, 2, none⟩ = some (.slice A104_2 ((rd_T38 l1 x12_1).f2).length c104_2) := (blk_cell BK105.out 2).trans rfl
              have hfz27_0 := blk_frozen BK105.out 0
              have hfz27_1 := blk_frozen BK105.out 1
              have hfz27_2 := blk_frozen BK105.out 2
              have p109 : 0 ≤ ((ji20) : Int) := of_decide_eq_true (by first | (with_reducible assumption) | assumption)
              have q109 : (ji20) < (l1.length : Int) := of_decide_eq_true (by first | (with_reducible assumption) | assumption)
              obtain ⟨ad109, A109_2, c109_2, e109, hx109_0, hx109_1, hx109_2, hl109_2, hi109_2⟩ := at_T38 HR1.out (ji20) p109 q109
              obtain rfl : ad104 = ad109 := (by injection e109)
              replace hx109_0 := (HB.out.cell (World.block_lt_of_cell? w _ hx109_0)).trans hx109_0
              replace hx109_1 := (HB.out.cell (World.block_lt_of_cell? w _ hx109_1)).trans hx109_1
              replace hx109_2 := (HB.out.cell (World.block_lt_of_cell? w _ hx109_2)).trans hx109_2
              have HR109_2 := mk0 hi109_2
              have HC109_2 := mk0 hl109_2
              clear hi109_2 hl109_2
              replace p109 := eq_true p109
              replace q109 := eq_true q109
              go_wp2
              repeat (go_quiet (fail); try go_wp2)
              go_roundg kj8
              case measure => have := HK1.out; have := HJ8.out; omega
              case rel => exact ⟨(wrap64 (x12_1 + 1)), (by first | rfl | (simp; done) | (simp [*]; done) | (simp [bne_nil_, beq_nil_]; done)), H', ⟨by have := HK1.out; have := HJ8.out; omega⟩, ⟨by repeat (first | (with_reducible first | exact HB.out | apply bA | apply bN | apply bD | refine bS ?_ (by assumption)) | exact HB.out)⟩⟩
            ·rw [if_neg c22] at H
             exact absurd H (by simp)
           ·rw [if_neg c21] at H
            exact absurd H (by simp)
          ·rw [if_neg c19] at H
           have c19b0 : decide (0 < x12_1) = false := decide_eq_false c19
           clear c19
           have H' := mk0 H
           clear H
           go_wp2
           repeat (go_quiet (fail); try go_wp2)
           go_roundg kj8
           case measure => have := HK1.out; have := HJ8.out; omega
           case rel => exact ⟨(wrap64 (x12_1 + 1)), (by first | rfl | (simp; done) | (simp [*]; done) | (simp [bne_nil_, beq_nil_]; done)), H', ⟨by have := HK1.out; have := HJ8.out; omega⟩, ⟨by repeat (first | (with_reducible first | exact HB.out | apply bA | apply bN | apply bD | refine bS ?_ (by assumption)) | exact HB.out)⟩⟩
      ·rw [if_neg c8] at H
       exact absurd H (by simp)
     ·rw [if_neg c7] at H
      exact absurd H (by simp)
    ·rw [if_neg c6] at H
     have c6b0 : decide (x12_1 < (l1.length : Int)) = false := decide_eq_false c6
     clear c6
     obtain rfl := Option.some.inj H
     go_wp2
     repeat (go_quiet (fail); try go_wp2)
     go_ret
     exact ⟨(.slice none 0 0), by first | rfl | (simp [errW_none, errW_some] <;> rfl) | (simp [*, errW_none, errW_some] <;> rfl), by first | exact Kd.R_nil _ _ _ _ _ | exact Kd.N_nil _ _ _ _ _ | exact Kd.V_nil _ _ _ _ _ | exact Kd.Q_nil _ _ _ _ _ | exact Kd.S_nil _ _ _ _ _, uL HB.out⟩

end Go.Proofs.YteeeoblpfepepaaDoor.X
