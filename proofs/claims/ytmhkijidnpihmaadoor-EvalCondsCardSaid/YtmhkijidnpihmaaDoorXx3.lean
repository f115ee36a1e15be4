-- PRINTED by print.py (a twelfth state) out of the translation. Not trusted: Lean checks it.
import Derived.Test.YtmhkijidnpihmaaDoorXx0
namespace Go.Proofs.YtmhkijidnpihmaaDoor.X
open Go.Proofs.YtmhkijidnpihmaaDoor.Flt Go.Proofs.YtmhkijidnpihmaaDoor.H Go.RowKit Go.Proofs.YtmhkijidnpihmaaDoorW.PrintWords Go.Proofs.YtmhkijidnpihmaaDoorW.PrintLast Go.Proofs.YtmhkijidnpihmaaDoorW.PrintMore
attribute [local go_sem] max2_int min2_int max_two min_two max_three min_three max_four min_four   -- for this text's walks alone
set_option linter.unusedVariables false
set_option linter.unusedSimpArgs false

/-! ### furrowlaw8_To: function 15 -/
def furrowlaw8_To.l0 : Nat → Int → List (S71) → Int → List (S64) → Int → Option ((List (S64)) × Int)
 | 0, _, _, _, _, _ => none
 | k + 1, x4, x144000, x144001, x146000, x146001 => if x4 < (x144000.length : Int) then (if 0 ≤ x4 then (if x146000.length < 2513169434916 then (furrowlaw8_To.l0 k (wrap64 (x4 + 1)) x144000 x144001 (x146000 ++ [(⟨(rd_T71 x144000 x4).f0, (rd_T71 x144000 x4).f1, (rd_T71 x144000 x4).f2, (rd_T71 x144000 x4).f3⟩ : S64)]) x146001) else (none)) else (none)) else (some (x146000, x146001))
def furrowlaw8_To.f (k : Nat) (l0_0 : List (S71)) (a0_1 : Int) : Option ((List (S64)) × Int) := furrowlaw8_To.l0 k 0 l0_0 a0_1 ([] : List (S64)) a0_1
theorem furrowlaw8_To.mono_l : ∀ k, (∀ y0 y1 y2 y3 y4, LeO (furrowlaw8_To.l0 k y0 y1 y2 y3 y4) (furrowlaw8_To.l0 (k + 1) y0 y1 y2 y3 y4))
 | 0 => fun _ _ _ _ _ r h => by simp [furrowlaw8_To.l0] at h
 | k + 1 => by
  have ih0 := furrowlaw8_To.mono_l k
  ·intro y0 y1 y2 y3 y4
   unfold furrowlaw8_To.l0
   repeat' first
   | (with_reducible exact ih0 _ _ _ _ _)
   | (with_reducible exact LeO.refl _)
   | (with_reducible exact LeO.none _)
   | (with_reducible refine LeO.ite ?_ ?_)
   | (with_reducible refine LeO.bind ?_ (fun _ => ?_))
   | exact ih0 _ _ _ _ _
   | exact LeO.none _
   | refine LeO.ite ?_ ?_
   | refine LeO.bind ?_ (fun _ => ?_)
theorem furrowlaw8_To.mono : ∀ a0 a1 k, LeO (furrowlaw8_To.f k a0 a1) (furrowlaw8_To.f (k + 1) a0 a1) := by
 intro a0 a1 k
 have ih0 := furrowlaw8_To.mono_l k
 unfold furrowlaw8_To.f
 repeat' first
   | (with_reducible exact ih0 _ _ _ _ _)
   | (with_reducible exact LeO.refl _)
   | (with_reducible exact LeO.none _)
   | (with_reducible refine LeO.ite ?_ ?_)
   | (with_reducible refine LeO.bind ?_ (fun _ => ?_))
   | exact ih0 _ _ _ _ _
   | exact LeO.none _
   | refine LeO.ite ?_ ?_
   | refine LeO.bind ?_ (fun _ => ?_)
def furrowlaw8_To.T5 : Bool × List (List Nat × List Nat) := (true, [([], []), ([0], [0]), ([], []), ([2], [2]), ([], []), ([3, 4], [3, 4]), ([5], [5]), ([6], [6]), ([], []), ([8], [8]), ([], []), ([9, 10], [9, 10]), ([11], [11]), ([12], [12]), ([], []), ([14], [14]), ([], []), ([15, 16], [15, 16]), ([17], [17]), ([18], [18]), ([], []), ([20], [20]), ([], []), ([21, 22], [21, 22]), ([23], [23]), ([24], [24]), ([7, 13, 19, 25], [7, 13, 19, 25]), ([26], [26]), ([1, 27], [1, 27]), ([0, 1, 2, 3, 4, 5, 6, 7, 8, 9, 10, 11, 12, 13, 14, 15, 16, 17, 18, 19, 20, 21, 22, 23, 24, 25, 26, 27, 28], []), ([29, 28, 28, 0, 1, 2, 3, 4, 5, 6, 7, 8, 9, 10, 11, 12, 13, 14, 15, 16, 17, 18, 19, 20, 21, 22, 23, 24, 25, 26, 27, 28], [28, 29])])
def furrowlaw8_To.B5 : List Nat := [0, 1, 0, 4, 0, 28, 60, 124, 0, 256, 0, 1792, 3840, 7936, 0, 16384, 0, 114688, 245760, 507904, 0, 1048576, 0, 7340032, 15728640, 32505856, 67108860, 134217724, 268435455, 536870911, 1073741823]
theorem furrowlaw8_To.tab5 : rtab .any (opsOf Tryd.f15 5) = furrowlaw8_To.T5 := by kernel_rfl
theorem furrowlaw8_To.bits5 : waitsOk furrowlaw8_To.T5.2 furrowlaw8_To.B5 = true := by kernel_rfl
set_option maxHeartbeats 8000000 in
set_option maxRecDepth 100000 in
theorem furrowlaw8_To.calls (k : Nat) (P0_0_ : Nat → Prop) (A0_0 : Option Addr) (c0_0 : Nat) (l0_0 : List (S71)) (a0_1 : Int) (r1 : List (S64)) (r2 : Int) (w : World) (hs0_0 : Kd.V k71 71 w w.heap.size (fun k_ => P0_0_ k_) (.slice A0_0 l0_0.length c0_0) l0_0) (h : furrowlaw8_To.f k l0_0 a0_1 = some (r1, r2)) :
  Calls Tryd.prog 15 #[.agg #[.slice A0_0 l0_0.length c0_0, .int .i64 a0_1]] w fun e w' => ∃ v0_ : Value, e = .returned (.agg #[v0_, .int .i64 r2]) ∧ Kd.N k64 64 w' w.heap.size (fun k_ => (P0_0_ k_ ∨ w.heap.size ≤ k_)) v0_ r1 ∧ Below w.heap.size w w' := by
 have hu29 := Tryd.underlying29
 have hu46 := Tryd.underlying46
 have hu64 := Tryd.underlying64
 have HO0_0 := mk0 (show Kd.V k71 71 w w.heap.size (fun k_ => (P0_0_ k_ ∨ w.heap.size ≤ k_)) (.slice A0_0 l0_0.length c0_0) l0_0 from Kd.V_mono hs0_0 (fun k_ hk => .inl hk))
 have HB := mk0 (Below.refl w.heap.size w)
 have H : (furrowlaw8_To.l0 k 0 l0_0 a0_1 ([] : List (S64)) a0_1) = some (r1, r2) := h
 clear h
 have H' := mk0 H
 clear H
 go_enter Tryd.func15, Tryd.ntmps15
 go_wp2_with (first | ((with_reducible refine gate_dst (N := 1) rfl ?_); refine box_event ?hg (N := 1) ?hd (cs := #[.slice A0_0 l0_0.length c0_0, .int .i64 a0_1]) (t := 29) ?hr ?_; (case hd => rfl); (case hg => rfl); (case hr => first | (go_simp; done) | (go_simp; rfl)); intro gb143 hg w2 hbox hb; have n0_ := mk0 (Kd.V_below (Kd.V_elderB (uV HO0_0.out) gb143 (Nat.le_of_eq hg.symm)) hb); have n1_ := mk0 (below_step (uL HB.out) hb); have n2_ := mk0 (hbox); have n3_ := mk0 ((by rw [hg]; exact (below_size (uL HB.out)) : w.heap.size ≤ gb143)); have n4_ := mk0 ((by rw [hg]; exact (below_size (uL HB.out)) : w.heap.size ≤ gb143)); clear HO0_0; clear HB; have HO0_0 := n0_; have HB := n1_; have BK143 := n2_; have GW143 := n3_; have GE143 := n4_; clear n0_ n1_ n2_ n3_ n4_; clear hb hbox hg) | ((with_reducible refine gate_dst (N := 2) rfl ?_); refine box_event ?hg (N := 2) ?hd (cs := #[.slice none 0 0, .int .i64 0]) (t := 46) ?hr ?_; (case hd => rfl); (case hg => rfl); (case hr => first | (go_simp; done) | (go_simp; rfl)); intro gb144 hg w3 hbox hb; have n0_ := mk0 (Kd.V_below (Kd.V_elderB (uV HO0_0.out) gb144 (Nat.le_of_eq hg.symm)) hb); have n1_ := mk0 (blk_below (g := gb143) (o := .cells #[.slice A0_0 l0_0.length c0_0, .int .i64 a0_1] 29 (0, 0)) (uB BK143.out) hb); have n2_ := mk0 (below_step (by repeat (first | (with_reducible first | exact HB.out | apply bA | apply bN | apply bD | refine bS ?_ (by assumption)) | exact HB.out)) hb); have n3_ := mk0 (hbox); have n4_ := mk0 ((by rw [hg]; exact (below_size (by repeat (first | (with_reducible first | exact HB.out | apply bA | apply bN | apply bD | refine bS ?_ (by assumption)) | exact HB.out))) : w.heap.size ≤ gb144)); have n5_ := mk0 ((by rw [hg]; exact (below_size (by repeat (first | (with_reducible first | exact HB.out | apply bA | apply bN | apply bD | refine bS ?_ (by assumption)) | exact HB.out))) : w.heap.size ≤ gb144)); have n6_ := mk0 ((by rw [hg]; exact Nat.ne_of_lt (blk_lt (g := gb143) (o := .cells #[.slice A0_0 l0_0.length c0_0, .int .i64 a0_1] 29 (0, 0)) (uB BK143.out)) : gb143 ≠ gb144)); have n7_ := mk0 ((by rw [hg]; exact Nat.ne_of_gt (blk_lt (g := gb143) (o := .cells #[.slice A0_0 l0_0.length c0_0, .int .i64 a0_1] 29 (0, 0)) (uB BK143.out)) : gb144 ≠ gb143)); clear HO0_0; clear BK143; clear HB; have HO0_0 := n0_; have BK143 := n1_; have HB := n2_; have BK144 := n3_; have GW144 := n4_; have GE144 := n5_; have NB143_144 := n6_; have NB144_143 := n7_; clear n0_ n1_ n2_ n3_ n4_ n5_ n6_ n7_; clear hb hbox hg; have hnb4 := NB143_144.out; have hnc4 := NB144_143.out; have hcz5_0 : w3.cell? ⟨gb143, 0, none⟩ = some (.slice A0_0 l0_0.length c0_0) := (blk_cell BK143.out 0).trans rfl; have hcz5_1 : w3.cell? ⟨gb143, 1, none⟩ = some (.int .i64 a0_1) := (blk_cell BK143.out 1).trans rfl; have hfz5_0 := blk_frozen BK143.out 0; have hfz5_1 := blk_frozen BK143.out 1) | ((with_reducible refine gate_dst (N := 3) rfl ?_); refine box_event ?hg (N := 3) ?hd (cs := #[.slice none 0 0, .int .i64 0]) (t := 46) ?hr ?_; (case hd => rfl); (case hg => rfl); (case hr => first | (go_simp; done) | (go_simp; rfl)); intro gb145 hg w6 hbox hb; have n0_ := mk0 (Kd.V_below (Kd.V_elderB (uV HO0_0.out) gb145 (Nat.le_of_eq hg.symm)) hb); have n1_ := mk0 (blk_below (g := gb143) (o := .cells #[.slice A0_0 l0_0.length c0_0, .int .i64 a0_1] 29 (0, 0)) (uB BK143.out) hb); have n2_ := mk0 (blk_below (g := gb144) (o := .cells #[.slice none 0 0, .int .i64 0] 46 (0, 0)) (uB BK144.out) hb); have n3_ := mk0 (below_step (by repeat (first | (with_reducible first | exact HB.out | apply bA | apply bN | apply bD | refine bS ?_ (by assumption)) | exact HB.out)) hb); have n4_ := mk0 (hbox); have n5_ := mk0 ((by rw [hg]; exact (below_size (by repeat (first | (with_reducible first | exact HB.out | apply bA | apply bN | apply bD | refine bS ?_ (by assumption)) | exact HB.out))) : w.heap.size ≤ gb145)); have n6_ := mk0 ((by rw [hg]; exact (below_size (by repeat (first | (with_reducible first | exact HB.out | apply bA | apply bN | apply bD | refine bS ?_ (by assumption)) | exact HB.out))) : w.heap.size ≤ gb145)); have n7_ := mk0 ((by rw [hg]; exact Nat.ne_of_lt (blk_lt (g := gb143) (o := .cells #[.slice A0_0 l0_0.length c0_0, .int .i64 a0_1] 29 (0, 0)) (uB BK143.out)) : gb143 ≠ gb145)); have n8_ := mk0 ((by rw [hg]; exact Nat.ne_of_gt (blk_lt (g := gb143) (o := .cells #[.slice A0_0 l0_0.length c0_0, .int .i64 a0_1] 29 (0, 0)) (uB BK143.out)) : gb145 ≠ gb143)); have n9_ := mk0 ((by rw [hg]; exact Nat.ne_of_lt (blk_lt (g := gb144) (o := .cells #[.slice none 0 0, .int .i64 0] 46 (0, 0)) (uB BK144.out)) : gb144 ≠ gb145)); have n10_ := mk0 ((by rw [hg]; exact Nat.ne_of_gt (blk_lt (g := gb144) (o := .cells #[.slice none 0 0, .int .i64 0] 46 (0, 0)) (uB BK144.out)) : gb145 ≠ gb144)); clear HO0_0; clear BK143; clear BK144; clear HB; have HO0_0 := n0_; have BK143 := n1_; have BK144 := n2_; have HB := n3_; have BK145 := n4_; have GW145 := n5_; have GE145 := n6_; have NB143_145 := n7_; have NB145_143 := n8_; have NB144_145 := n9_; have NB145_144 := n10_; clear n0_ n1_ n2_ n3_ n4_ n5_ n6_ n7_ n8_ n9_ n10_; clear hb hbox hg; have hnb7 := NB145_143.out; have hnc7 := NB143_145.out; have hnb8 := NB145_144.out; have hnc8 := NB144_145.out; have hcz9_0 : w6.cell? ⟨gb145, 0, none⟩ = some (.slice none 0 0) := (blk_cell BK145.out 0).trans rfl; have hcz9_1 : w6.cell? ⟨gb145, 1, none⟩ = some (.int .i64 0) := (blk_cell BK145.out 1).trans rfl; have hfz9_0 := blk_frozen BK145.out 0; have hfz9_1 := blk_frozen BK145.out 1))
 go_loopg [4] k (fun kq v4 w' => ∃ (x4_1 : Int) (x146000_1 : List (S64)) (u146000 : Value), v4 = .int .i64 x4_1 ∧ Aside0 (furrowlaw8_To.l0 kq x4_1 l0_0 a0_1 x146000_1 a0_1 = some (r1, r2)) ∧ Aside0 (kq ≤ k) ∧ Aside0 (Kd.V k71 71 w' w.heap.size (fun k_ => (P0_0_ k_ ∨ w.heap.size ≤ k_) ∧ some k_ ≠ (u146000 : Value).ownBlock ∧ k_ ≠ gb143 ∧ k_ ≠ gb144 ∧ k_ ≠ gb145) (.slice A0_0 l0_0.length c0_0) l0_0) ∧ Aside0 (Kd.N k64 64 w' w.heap.size (fun k_ => (P0_0_ k_ ∨ w.heap.size ≤ k_) ∧ k_ ≠ gb143 ∧ k_ ≠ gb144 ∧ k_ ≠ gb145) u146000 x146000_1) ∧ Aside0 (w'.heap[gb143]? = some (.cells #[(.slice A0_0 l0_0.length c0_0), .int .i64 a0_1] 29 (0, 0))) ∧ Aside0 (w'.heap[gb144]? = some (.cells #[(.slice none 0 0), .int .i64 0] 46 (0, 0))) ∧ Aside0 (w'.heap[gb145]? = some (.cells #[u146000, .int .i64 a0_1] 46 (0, 0))) ∧ Aside0 (Below w.heap.size w w'))
 case atStart => exact ⟨(0), (([] : List (S64))), (.slice none 0 0), (by first | rfl | (simp; done) | (simp [*]; done) | (simp [bne_nil_, beq_nil_]; done)), H', ⟨Nat.le_refl _⟩, ⟨uV (Kd.V_mono (Kd.V_far (p := ⟨gb145, 1, none⟩) (Kd.V_far (p := ⟨gb145, 0, none⟩) (Kd.V_mono HO0_0.out (fun k_ hk => (⟨hk, hk.2⟩ : _ ∧ k_ ≠ gb145))) (fun _ hk => hk.2) (.slice none 0 0)) (fun _ hk => hk.2) (.int .i64 a0_1)) (fun _ hk => ⟨hk.1.1.1.1, ⟨(by simp [Value.ownBlock]), ⟨hk.1.1.1.2, ⟨hk.1.1.2, hk.1.2⟩⟩⟩⟩))⟩, ⟨by first | exact Kd.S_nil _ _ _ _ _ | exact Kd.N_nil _ _ _ _ _ | exact Kd.V_nil _ _ _ _ _ | exact Kd.Q_nil _ _ _ _ _ | exact Kd.R_nil _ _ _ _ _⟩, ⟨by (with_reducible repeat (first | refine blk_drewN ?_ _ | refine blk_drew ?_ | refine blk_alloc ?_ _)); refine blk_far ?_ NB143_145.out _; (with_reducible repeat (first | refine blk_drewN ?_ _ | refine blk_drew ?_ | refine blk_alloc ?_ _)); refine blk_far ?_ NB143_145.out _; (with_reducible repeat (first | refine blk_drewN ?_ _ | refine blk_drew ?_ | refine blk_alloc ?_ _)); exact BK143.out⟩, ⟨by (with_reducible repeat (first | refine blk_drewN ?_ _ | refine blk_drew ?_ | refine blk_alloc ?_ _)); refine blk_far ?_ NB144_145.out _; (with_reducible repeat (first | refine blk_drewN ?_ _ | refine blk_drew ?_ | refine blk_alloc ?_ _)); refine blk_far ?_ NB144_145.out _; (with_reducible repeat (first | refine blk_drewN ?_ _ | refine blk_drew ?_ | refine blk_alloc ?_ _)); exact BK144.out⟩, ⟨by (with_reducible repeat (first | refine blk_drewN ?_ _ | refine blk_drew ?_ | refine blk_alloc ?_ _)); refine blk_put (cs := #[.slice none 0 0, .int .i64 0]) ?_ 1 _ rfl; (with_reducible repeat (first | refine blk_drewN ?_ _ | refine blk_drew ?_ | refine blk_alloc ?_ _)); refine blk_put (cs := #[.slice none 0 0, .int .i64 0]) ?_ 0 _ rfl; (with_reducible repeat (first | refine blk_drewN ?_ _ | refine blk_drew ?_ | refine blk_alloc ?_ _)); exact BK145.out⟩, ⟨by repeat (first | (with_reducible first | exact HB.out | apply bA | apply bN | apply bD | refine bS ?_ (by assumption)) | exact HB.out)⟩⟩
 case round =>
  clear H'
  try clear c1
  try clear p2
  try clear c4
  try clear c7
  try clear c8
  try clear hcz5_0
  try clear hcz5_1
  try clear hcz9_0
  try clear hcz9_1
  try clear hfz5_0
  try clear hfz5_1
  try clear hfz9_0
  try clear hfz9_1
  obtain ⟨x4_1, x146000_1, u146000, rfl, HA, HK1, HO_144000, HO_146000, BK143, BK144, BK145, HB⟩ := hrel
  cases gk with
  | zero => exact absurd HA.out (by simp [furrowlaw8_To.l0])
  | succ k1 =>
   have H := HA.out
   clear HA
   simp only [furrowlaw8_To.l0] at H
   by_cases c10 : x4_1 < (l0_0.length : Int)
   ·rw [if_pos c10] at H
    have c10b0 : decide (x4_1 < (l0_0.length : Int)) = true := decide_eq_true c10
    clear c10
    by_cases c11 : 0 ≤ x4_1
    ·rw [if_pos c11] at H
     have c11b0 : decide (0 ≤ x4_1) = true := decide_eq_true c11
     clear c11
     by_cases c12 : x146000_1.length < 2513169434916
     ·rw [if_pos c12] at H
      have LMc12 := mk0 c12
      clear c12
      obtain ⟨y150, hy150⟩ : ∃ y_ : List (S64), y_ = (x146000_1 ++ [(⟨(rd_T71 l0_0 x4_1).f0, (rd_T71 l0_0 x4_1).f1, (rd_T71 l0_0 x4_1).f2, (rd_T71 l0_0 x4_1).f3⟩ : S64)]) := ⟨_, rfl⟩
      replace H : (furrowlaw8_To.l0 k1 (wrap64 (x4_1 + 1)) l0_0 a0_1 y150 a0_1) = some (r1, r2) := by first | (rw [hy150]; with_reducible exact H) | (have H2_ := (Option.bind_some _ _).symm.trans H; rw [hy150]; with_reducible exact H2_) | (have H2_ := (Option.bind_some _ _).symm.trans H; with_reducible exact H2_) | with_reducible exact H | (rw [hy150]; exact H) | exact H
      have Ny150 := mk0 hy150
      clear hy150
      have H' := mk0 H
      clear H
      have hnb13 := NB143_144.out
      have hnc13 := NB144_143.out
      have hnb14 := NB143_145.out
      have hnc14 := NB145_143.out
      have hcz15_0 : wr.cell? ⟨gb143, 0, none⟩ = some (.slice A0_0 l0_0.length c0_0) := (blk_cell BK143.out 0).trans rfl
      have hcz15_1 : wr.cell? ⟨gb143, 1, none⟩ = some (.int .i64 a0_1) := (blk_cell BK143.out 1).trans rfl
      have hfz15_0 := blk_frozen BK143.out 0
      have hfz15_1 := blk_frozen BK143.out 1
      try go_wp2
      have n0_ := mk0 (Kd.V_drew HO_144000.out)
      have n1_ := mk0 (Kd.N_drew HO_146000.out)
      have n2_ := mk0 (blk_drew BK143.out)
      have n3_ := mk0 (blk_drew BK144.out)
      have n4_ := mk0 (blk_drew BK145.out)
      have n5_ := mk0 (below_drew1 HB.out)
      clear HO_144000
      clear HO_146000
      clear BK143
      clear BK144
      clear BK145
      clear HB
      have HO_144000 := n0_
      have HO_146000 := n1_
      have BK143 := n2_
      have BK144 := n3_
      have BK145 := n4_
      have HB := n5_
      clear n0_ n1_ n2_ n3_ n4_ n5_
      have p146 : 0 ≤ (x4_1 : Int) := of_decide_eq_true (by first | (with_reducible assumption) | assumption)
      have q146 : x4_1 < (l0_0.length : Int) := of_decide_eq_true (by first | (with_reducible assumption) | assumption)
      obtain ⟨ad146, A146_1, c146_1, e146, hx146_0, hx146_1, hx146_2, hx146_3, hl146_1, hi146_1⟩ := at_T71 (Kd.V_reads' HO_144000.out).2.2 x4_1 p146 q146
      cases e146
      obtain ⟨ce146, hce146, hMe146, hcc146⟩ := Kd.V_get HO_144000.out z71 x4_1 p146 (by first | exact q146 | exact of_decide_eq_true (by first | (with_reducible assumption) | assumption) | (have e_ := (Kd.V_reads' HO_144000.out).1; omega))
      obtain ⟨ua146_1, uc146_1, rfl, ul146_1, ge146_1⟩ := k71_openF hMe146
      have hv146_1 := hcc146 1 _ rfl
      rw [add_field _ _ 1 (by omega)] at hv146_1
      replace hv146_1 := Option.some.inj (hv146_1.symm.trans hx146_1)
      injection hv146_1 with hva_ hvn_ hvc_
      rw [hva_] at ge146_1
      rw [hvc_] at ul146_1
      have HL146_1 := mk0 (show Kd.V (Kd.int .i64) 2 _ w.heap.size _ _ ((rd_T71 l0_0 x4_1).f1) from Kd.V_mk ul146_1 ge146_1)
      clear hva_ hvn_ hvc_ ge146_1 ul146_1
      clear hcc146 hce146
      have HR146_1 := mk0 hi146_1
      have HC146_1 := mk0 hl146_1
      clear hi146_1 hl146_1
      replace p146 := eq_true p146
      replace q146 := eq_true q146
      have p147 : 0 ≤ (x4_1 : Int) := of_decide_eq_true (by first | (with_reducible assumption) | assumption)
      have q147 : x4_1 < (l0_0.length : Int) := of_decide_eq_true (by first | (with_reducible assumption) | assumption)
      obtain ⟨ad147, A147_1, c147_1, e147, hx147_0, hx147_1, hx147_2, hx147_3, hl147_1, hi147_1⟩ := at_T71 (Kd.V_reads' HO_144000.out).2.2 x4_1 p147 q147
      obtain rfl : ad146 = ad147 := (by injection e147)
      obtain ⟨ce147, hce147, hMe147, hcc147⟩ := Kd.V_get HO_144000.out z71 x4_1 p147 (by first | exact q147 | exact of_decide_eq_true (by first | (with_reducible assumption) | assumption) | (have e_ := (Kd.V_reads' HO_144000.out).1; omega))
      obtain ⟨ua147_1, uc147_1, rfl, ul147_1, ge147_1⟩ := k71_openF hMe147
      have hv147_1 := hcc147 1 _ rfl
      rw [add_field _ _ 1 (by omega)] at hv147_1
      replace hv147_1 := Option.some.inj (hv147_1.symm.trans hx147_1)
      injection hv147_1 with hva_ hvn_ hvc_
      rw [hva_] at ge147_1
      rw [hvc_] at ul147_1
      have HL147_1 := mk0 (show Kd.V (Kd.int .i64) 2 _ w.heap.size _ _ ((rd_T71 l0_0 x4_1).f1) from Kd.V_mk ul147_1 ge147_1)
      clear hva_ hvn_ hvc_ ge147_1 ul147_1
      clear hcc147 hce147
      have HR147_1 := mk0 hi147_1
      have HC147_1 := mk0 hl147_1
      clear hi147_1 hl147_1
      replace p147 := eq_true p147
      replace q147 := eq_true q147
      have ea_ := Option.some.inj (hx146_1.symm.trans hx147_1)
      injection ea_ with ea_ en_ ec_
      subst ea_
      subst ec_
      clear en_
      have p148 : 0 ≤ (x4_1 : Int) := of_decide_eq_true (by first | (with_reducible assumption) | assumption)
      have q148 : x4_1 < (l0_0.length : Int) := of_decide_eq_true (by first | (with_reducible assumption) | assumption)
      obtain ⟨ad148, A148_1, c148_1, e148, hx148_0, hx148_1, hx148_2, hx148_3, hl148_1, hi148_1⟩ := at_T71 (Kd.V_reads' HO_144000.out).2.2 x4_1 p148 q148
      obtain rfl : ad146 = ad148 := (by injection e148)
      obtain ⟨ce148, hce148, hMe148, hcc148⟩ := Kd.V_get HO_144000.out z71 x4_1 p148 (by first | exact q148 | exact of_decide_eq_true (by first | (with_reducible assumption) | assumption) | (have e_ := (Kd.V_reads' HO_144000.out).1; omega))
      obtain ⟨ua148_1, uc148_1, rfl, ul148_1, ge148_1⟩ := k71_openF hMe148
      have hv148_1 := hcc148 1 _ rfl
      rw [add_field _ _ 1 (by omega)] at hv148_1
      replace hv148_1 := Option.some.inj (hv148_1.symm.trans hx148_1)
      injection hv148_1 with hva_ hvn_ hvc_
      rw [hva_] at ge148_1
      rw [hvc_] at ul148_1
      have HL148_1 := mk0 (show Kd.V (Kd.int .i64) 2 _ w.heap.size _ _ ((rd_T71 l0_0 x4_1).f1) from Kd.V_mk ul148_1 ge148_1)
      clear hva_ hvn_ hvc_ ge148_1 ul148_1
      clear hcc148 hce148
      have HR148_1 := mk0 hi148_1
      have HC148_1 := mk0 hl148_1
      clear hi148_1 hl148_1
      replace p148 := eq_true p148
      replace q148 := eq_true q148
      have ea_ := Option.some.inj (hx146_1.symm.trans hx148_1)
      injection ea_ with ea_ en_ ec_
      subst ea_
      subst ec_
      clear en_
      have p149 : 0 ≤ (x4_1 : Int) := of_decide_eq_true (by first | (with_reducible assumption) | assumption)
      have q149 : x4_1 < (l0_0.length : Int) := of_decide_eq_true (by first | (with_reducible assumption) | assumption)
      obtain ⟨ad149, A149_1, c149_1, e149, hx149_0, hx149_1, hx149_2, hx149_3, hl149_1, hi149_1⟩ := at_T71 (Kd.V_reads' HO_144000.out).2.2 x4_1 p149 q149
      obtain rfl : ad146 = ad149 := (by injection e149)
      obtain ⟨ce149, hce149, hMe149, hcc149⟩ := Kd.V_get HO_144000.out z71 x4_1 p149 (by first | exact q149 | exact of_decide_eq_true (by first | (with_reducible assumption) | assumption) | (have e_ := (Kd.V_reads' HO_144000.out).1; omega))
      obtain ⟨ua149_1, uc149_1, rfl, ul149_1, ge149_1⟩ := k71_openF hMe149
      have hv149_1 := hcc149 1 _ rfl
      rw [add_field _ _ 1 (by omega)] at hv149_1
      replace hv149_1 := Option.some.inj (hv149_1.symm.trans hx149_1)
      injection hv149_1 with hva_ hvn_ hvc_
      rw [hva_] at ge149_1
      rw [hvc_] at ul149_1
      have HL149_1 := mk0 (show Kd.V (Kd.int .i64) 2 _ w.heap.size _ _ ((rd_T71 l0_0 x4_1).f1) from Kd.V_mk ul149_1 ge149_1)
      clear hva_ hvn_ hvc_ ge149_1 ul149_1
      clear hcc149 hce149
      have HR149_1 := mk0 hi149_1
      have HC149_1 := mk0 hl149_1
      clear hi149_1 hl149_1
      replace p149 := eq_true p149
      replace q149 := eq_true q149
      have ea_ := Option.some.inj (hx146_1.symm.trans hx149_1)
      injection ea_ with ea_ en_ ec_
      subst ea_
      subst ec_
      clear en_
      refine start_ (n := 31) (S := fun w' => w'.cell? ⟨gb145, 0, none⟩ = some (u146000) ∧ w'.cell? ⟨gb145, 1, none⟩ = some (.int .i64 a0_1) ∧ w'.cell? ⟨gb143, 0, none⟩ = some (.slice (some ad146) l0_0.length c0_0) ∧ w'.cell? ⟨gb143, 1, none⟩ = some (.int .i64 a0_1) ∧ w'.cell? (ad146.add ((x4_1).toNat * 4)) = some (.string ((rd_T71 l0_0 x4_1).f0)) ∧ w'.cell? ⟨(ad146.add ((x4_1).toNat * 4)).block, (ad146.add ((x4_1).toNat * 4)).off + 1, none⟩ = some (.slice A146_1 ((rd_T71 l0_0 x4_1).f1).length c146_1) ∧ w'.cell? ⟨(ad146.add ((x4_1).toNat * 4)).block, (ad146.add ((x4_1).toNat * 4)).off + 2, none⟩ = some (.int .i64 ((rd_T71 l0_0 x4_1).f2)) ∧ w'.cell? ⟨(ad146.add ((x4_1).toNat * 4)).block, (ad146.add ((x4_1).toNat * 4)).off + 3, none⟩ = some (.int .i64 ((rd_T71 l0_0 x4_1).f3)) ∧ w'.cell? (ad146.add ((x4_1).toNat * 4)) = some (.string ((rd_T71 l0_0 x4_1).f0)) ∧ w'.cell? ⟨(ad146.add ((x4_1).toNat * 4)).block, (ad146.add ((x4_1).toNat * 4)).off + 1, none⟩ = some (.slice A146_1 ((rd_T71 l0_0 x4_1).f1).length c146_1) ∧ w'.cell? ⟨(ad146.add ((x4_1).toNat * 4)).block, (ad146.add ((x4_1).toNat * 4)).off + 2, none⟩ = some (.int .i64 ((rd_T71 l0_0 x4_1).f2)) ∧ w'.cell? ⟨(ad146.add ((x4_1).toNat * 4)).block, (ad146.add ((x4_1).toNat * 4)).off + 3, none⟩ = some (.int .i64 ((rd_T71 l0_0 x4_1).f3)) ∧ w'.cell? (ad146.add ((x4_1).toNat * 4)) = some (.string ((rd_T71 l0_0 x4_1).f0)) ∧ w'.cell? ⟨(ad146.add ((x4_1).toNat * 4)).block, (ad146.add ((x4_1).toNat * 4)).off + 1, none⟩ = some (.slice A146_1 ((rd_T71 l0_0 x4_1).f1).length c146_1) ∧ w'.cell? ⟨(ad146.add ((x4_1).toNat * 4)).block, (ad146.add ((x4_1).toNat * 4)).off + 2, none⟩ = some (.int .i64 ((rd_T71 l0_0 x4_1).f2)) ∧ w'.cell? ⟨(ad146.add ((x4_1).toNat * 4)).block, (ad146.add ((x4_1).toNat * 4)).off + 3, none⟩ = some (.int .i64 ((rd_T71 l0_0 x4_1).f3)) ∧ w'.cell? (ad146.add ((x4_1).toNat * 4)) = some (.string ((rd_T71 l0_0 x4_1).f0)) ∧ w'.cell? ⟨(ad146.add ((x4_1).toNat * 4)).block, (ad146.add ((x4_1).toNat * 4)).off + 1, none⟩ = some (.slice A146_1 ((rd_T71 l0_0 x4_1).f1).length c146_1) ∧ w'.cell? ⟨(ad146.add ((x4_1).toNat * 4)).block, (ad146.add ((x4_1).toNat * 4)).off + 2, none⟩ = some (.int .i64 ((rd_T71 l0_0 x4_1).f2)) ∧ w'.cell? ⟨(ad146.add ((x4_1).toNat * 4)).block, (ad146.add ((x4_1).toNat * 4)).off + 3, none⟩ = some (.int .i64 ((rd_T71 l0_0 x4_1).f3))) (ds := [28, 30]) #[false, false, false, false, false, false, false, false, false, false, false, false, false, false, false, false, false, false, false, false, false, false, false, false, false, false, false, false, false, false, false] (by kernel_rfl) rfl rfl ⟨(blk_cell BK145.out 0).trans rfl, (blk_cell BK145.out 1).trans rfl, (blk_cell BK143.out 0).trans rfl, (blk_cell BK143.out 1).trans rfl, hx146_0, hx146_1, hx146_2, hx146_3, hx147_0, hx147_1, hx147_2, hx147_3, hx148_0, hx148_1, hx148_2, hx148_3, hx149_0, hx149_1, hx149_2, hx149_3⟩ (fun hHeld => ?_); refine with_tabW furrowlaw8_To.tab5 furrowlaw8_To.bits5 (fun HT_ HW_ => ?_)
      generalize wr.drew = w16 at HO_144000 HO_146000 BK143 BK144 BK145 HB HL146_1 HL147_1 HL148_1 HL149_1 HR146_1 HR147_1 HR148_1 HR149_1 hx146_0 hx146_1 hx146_2 hx146_3 hx147_0 hx147_1 hx147_2 hx147_3 hx148_0 hx148_1 hx148_2 hx148_3 hx149_0 hx149_1 hx149_2 hx149_3 hHeld ⊢
      refine pure_ (i := 0) (N := some 15) (v := ?_) (a' := ?_) #[true, false, false, false, false, false, false, false, false, false, false, false, false, false, false, false, false, false, false, false, false, false, false, false, false, false, false, false, false, false, false] rfl rfl (any_of HT_.out (by kernel_rfl)) (fun _ _ _ h => h) (Or.inl ⟨by rfl, ?_⟩) ?_ ?_
      rotate_left
      ·intro w'
       go_simp
       with_reducible rfl
      rotate_left
      ·simp only [Act.put, List.setIfInBounds_toArray, List.set_cons_zero, List.set_cons_succ, i64_w, i32_w]
       rfl
      refine pure_ (i := 2) (N := some 17) (v := ?_) (a' := ?_) #[true, false, true, false, false, false, false, false, false, false, false, false, false, false, false, false, false, false, false, false, false, false, false, false, false, false, false, false, false, false, false] rfl rfl (any_of HT_.out (by kernel_rfl)) (fun _ _ _ h => h) (Or.inl ⟨by rfl, ?_⟩) ?_ ?_
      rotate_left
      ·intro w'
       go_simp
       with_reducible rfl
      rotate_left
      ·simp only [Act.put, List.setIfInBounds_toArray, List.set_cons_zero, List.set_cons_succ, i64_w, i32_w]
       rfl
      refine pure_ (i := 4) (N := some 19) (v := ?_) (a' := ?_) #[true, false, true, false, true, false, false, false, false, false, false, false, false, false, false, false, false, false, false, false, false, false, false, false, false, false, false, false, false, false, false] rfl rfl (any_of HT_.out (by kernel_rfl)) (fun _ _ _ h => h) (Or.inl ⟨by rfl, ?_⟩) ?_ ?_
      rotate_left
      ·intro w'
       go_simp
       with_reducible rfl
      rotate_left
      ·simp only [Act.put, List.setIfInBounds_toArray, List.set_cons_zero, List.set_cons_succ, i64_w, i32_w]
       rfl
      refine pure_ (i := 8) (N := some 23) (v := ?_) (a' := ?_) #[true, false, true, false, true, false, false, false, true, false, false, false, false, false, false, false, false, false, false, false, false, false, false, false, false, false, false, false, false, false, false] rfl rfl (any_of HT_.out (by kernel_rfl)) (fun _ _ _ h => h) (Or.inl ⟨by rfl, ?_⟩) ?_ ?_
      rotate_left
      ·intro w'
       go_simp
       with_reducible rfl
      rotate_left
      ·simp only [Act.put, List.setIfInBounds_toArray, List.set_cons_zero, List.set_cons_succ, i64_w, i32_w]
       rfl
      refine pure_ (i := 10) (N := some 25) (v := ?_) (a' := ?_) #[true, false, true, false, true, false, false, false, true, false, true, false, false, false, false, false, false, false, false, false, false, false, false, false, false, false, false, false, false, false, false] rfl rfl (any_of HT_.out (by kernel_rfl)) (fun _ _ _ h => h) (Or.inl ⟨by rfl, ?_⟩) ?_ ?_
      rotate_left
      ·intro w'
       go_simp
       with_reducible rfl
      rotate_left
      ·simp only [Act.put, List.setIfInBounds_toArray, List.set_cons_zero, List.set_cons_succ, i64_w, i32_w]
       rfl
      refine pure_ (i := 14) (N := some 29) (v := ?_) (a' := ?_) #[true, false, true, false, true, false, false, false, true, false, true, false, false, false, true, false, false, false, false, false, false, false, false, false, false, false, false, false, false, false, false] rfl rfl (any_of HT_.out (by kernel_rfl)) (fun _ _ _ h => h) (Or.inl ⟨by rfl, ?_⟩) ?_ ?_
      rotate_left
      ·intro w'
       go_simp
       with_reducible rfl
      rotate_left
      ·simp only [Act.put, List.setIfInBounds_toArray, List.set_cons_zero, List.set_cons_succ, i64_w, i32_w]
       rfl
      refine pure_ (i := 16) (N := some 31) (v := ?_) (a' := ?_) #[true, false, true, false, true, false, false, false, true, false, true, false, false, false, true, false, true, false, false, false, false, false, false, false, false, false, false, false, false, false, false] rfl rfl (any_of HT_.out (by kernel_rfl)) (fun _ _ _ h => h) (Or.inl ⟨by rfl, ?_⟩) ?_ ?_
      rotate_left
      ·intro w'
       go_simp
       with_reducible rfl
      rotate_left
      ·simp only [Act.put, List.setIfInBounds_toArray, List.set_cons_zero, List.set_cons_succ, i64_w, i32_w]
       rfl
      refine pure_ (i := 20) (N := some 35) (v := ?_) (a' := ?_) #[true, false, true, false, true, false, false, false, true, false, true, false, false, false, true, false, true, false, false, false, true, false, false, false, false, false, false, false, false, false, false] rfl rfl (any_of HT_.out (by kernel_rfl)) (fun _ _ _ h => h) (Or.inl ⟨by rfl, ?_⟩) ?_ ?_
      rotate_left
      ·intro w'
       go_simp
       with_reducible rfl
      rotate_left
      ·simp only [Act.put, List.setIfInBounds_toArray, List.set_cons_zero, List.set_cons_succ, i64_w, i32_w]
       rfl
      refine pure_ (i := 22) (N := some 37) (v := ?_) (a' := ?_) #[true, false, true, false, true, false, false, false, true, false, true, false, false, false, true, false, true, false, false, false, true, false, true, false, false, false, false, false, false, false, false] rfl rfl (any_of HT_.out (by kernel_rfl)) (fun _ _ _ h => h) (Or.inl ⟨by rfl, ?_⟩) ?_ ?_
      rotate_left
      ·intro w'
       go_simp
       with_reducible rfl
      rotate_left
      ·simp only [Act.put, List.setIfInBounds_toArray, List.set_cons_zero, List.set_cons_succ, i64_w, i32_w]
       rfl
      refine take_ (i := 1) (N := some 16) (v := ?_) (a' := ?_) #[true, true, true, false, true, false, false, false, true, false, true, false, false, false, true, false, true, false, false, false, true, false, true, false, false, false, false, false, false, false, false] rfl rfl (take_ofW HT_.out HW_.out (by kernel_rfl)) (fun _ _ _ h => h) (Or.inl ⟨by rfl, ?_⟩) hHeld ?_ ?_
      rotate_left
      ·rintro w' ⟨s0, s1, s2, s3, s4, s5, s6, s7, s8, s9, s10, s11, s12, s13, s14, s15, s16, s17, s18, s19⟩
       go_simp
       with_reducible rfl
      rotate_left
      ·simp only [Act.put, List.setIfInBounds_toArray, List.set_cons_zero, List.set_cons_succ, i64_w, i32_w]
       rfl
      refine take_ (i := 3) (N := some 18) (v := ?_) (a' := ?_) #[true, true, true, true, true, false, false, false, true, false, true, false, false, false, true, false, true, false, false, false, true, false, true, false, false, false, false, false, false, false, false] rfl rfl (take_ofW HT_.out HW_.out (by kernel_rfl)) (fun _ _ _ h => h) (Or.inl ⟨by rfl, ?_⟩) hHeld ?_ ?_
      rotate_left
      ·rintro w' ⟨s0, s1, s2, s3, s4, s5, s6, s7, s8, s9, s10, s11, s12, s13, s14, s15, s16, s17, s18, s19⟩
       go_simp
       with_reducible rfl
      rotate_left
      ·simp only [Act.put, List.setIfInBounds_toArray, List.set_cons_zero, List.set_cons_succ, i64_w, i32_w]
       rfl
      refine pure_ (i := 5) (N := some 20) (v := ?_) (a' := ?_) #[true, true, true, true, true, true, false, false, true, false, true, false, false, false, true, false, true, false, false, false, true, false, true, false, false, false, false, false, false, false, false] rfl rfl (any_of HT_.out (by kernel_rfl)) (fun _ _ _ h => h) (Or.inl ⟨by rfl, ?_⟩) ?_ ?_
      rotate_left
      ·intro w'
       go_simp
       with_reducible rfl
      rotate_left
      ·simp only [Act.put, List.setIfInBounds_toArray, List.set_cons_zero, List.set_cons_succ, i64_w, i32_w]
       rfl
      refine pure_ (i := 6) (N := some 21) (v := ?_) (a' := ?_) #[true, true, true, true, true, true, true, false, true, false, true, false, false, false, true, false, true, false, false, false, true, false, true, false, false, false, false, false, false, false, false] rfl rfl (any_of HT_.out (by kernel_rfl)) (fun _ _ _ h => h) (Or.inl ⟨by rfl, ?_⟩) ?_ ?_
      rotate_left
      ·intro w'
       go_simp
       with_reducible rfl
      rotate_left
      ·simp only [Act.put, List.setIfInBounds_toArray, List.set_cons_zero, List.set_cons_succ, i64_w, i32_w]
       rfl
      refine take_ (i := 7) (N := some 22) (v := ?_) (a' := ?_) #[true, true, true, true, true, true, true, true, true, false, true, false, false, false, true, false, true, false, false, false, true, false, true, false, false, false, false, false, false, false, false] rfl rfl (take_ofW HT_.out HW_.out (by kernel_rfl)) (fun _ _ _ h => h) (Or.inl ⟨by rfl, ?_⟩) hHeld ?_ ?_
      rotate_left
      ·rintro w' ⟨s0, s1, s2, s3, s4, s5, s6, s7, s8, s9, s10, s11, s12, s13, s14, s15, s16, s17, s18, s19⟩
       go_simp
       with_reducible rfl
      rotate_left
      ·simp only [Act.put, List.setIfInBounds_toArray, List.set_cons_zero, List.set_cons_succ, i64_w, i32_w]
       rfl
      refine take_ (i := 9) (N := some 24) (v := ?_) (a' := ?_) #[true, true, true, true, true, true, true, true, true, true, true, false, false, false, true, false, true, false, false, false, true, false, true, false, false, false, false, false, false, false, false] rfl rfl (take_ofW HT_.out HW_.out (by kernel_rfl)) (fun _ _ _ h => h) (Or.inl ⟨by rfl, ?_⟩) hHeld ?_ ?_
      rotate_left
      ·rintro w' ⟨s0, s1, s2, s3, s4, s5, s6, s7, s8, s9, s10, s11, s12, s13, s14, s15, s16, s17, s18, s19⟩
       go_simp
       with_reducible rfl
      rotate_left
      ·simp only [Act.put, List.setIfInBounds_toArray, List.set_cons_zero, List.set_cons_succ, i64_w, i32_w]
       rfl
      refine pure_ (i := 11) (N := some 26) (v := ?_) (a' := ?_) #[true, true, true, true, true, true, true, true, true, true, true, true, false, false, true, false, true, false, false, false, true, false, true, false, false, false, false, false, false, false, false] rfl rfl (any_of HT_.out (by kernel_rfl)) (fun _ _ _ h => h) (Or.inl ⟨by rfl, ?_⟩) ?_ ?_
      rotate_left
      ·intro w'
       go_simp
       with_reducible rfl
      rotate_left
      ·simp only [Act.put, List.setIfInBounds_toArray, List.set_cons_zero, List.set_cons_succ, i64_w, i32_w]
       rfl
      refine pure_ (i := 12) (N := some 27) (v := ?_) (a' := ?_) #[true, true, true, true, true, true, true, true, true, true, true, true, true, false, true, false, true, false, false, false, true, false, true, false, false, false, false, false, false, false, false] rfl rfl (any_of HT_.out (by kernel_rfl)) (fun _ _ _ h => h) (Or.inl ⟨by rfl, ?_⟩) ?_ ?_
      rotate_left
      ·intro w'
       go_simp
       with_reducible rfl
      rotate_left
      ·simp only [Act.put, List.setIfInBounds_toArray, List.set_cons_zero, List.set_cons_succ, i64_w, i32_w]
       rfl
      refine take_ (i := 13) (N := some 28) (v := ?_) (a' := ?_) #[true, true, true, true, true, true, true, true, true, true, true, true, true, true, true, false, true, false, false, false, true, false, true, false, false, false, false, false, false, false, false] rfl rfl (take_ofW HT_.out HW_.out (by kernel_rfl)) (fun _ _ _ h => h) (Or.inl ⟨by rfl, ?_⟩) hHeld ?_ ?_
      rotate_left
      ·rintro w' ⟨s0, s1, s2, s3, s4, s5, s6, s7, s8, s9, s10, s11, s12, s13, s14, s15, s16, s17, s18, s19⟩
       go_simp
       with_reducible rfl
      rotate_left
      ·simp only [Act.put, List.setIfInBounds_toArray, List.set_cons_zero, List.set_cons_succ, i64_w, i32_w]
       rfl
      refine take_ (i := 15) (N := some 30) (v := ?_) (a' := ?_) #[true, true, true, true, true, true, true, true, true, true, true, true, true, true, true, true, true, false, false, false, true, false, true, false, false, false, false, false, false, false, false] rfl rfl (take_ofW HT_.out HW_.out (by kernel_rfl)) (fun _ _ _ h => h) (Or.inl ⟨by rfl, ?_⟩) hHeld ?_ ?_
      rotate_left
      ·rintro w' ⟨s0, s1, s2, s3, s4, s5, s6, s7, s8, s9, s10, s11, s12, s13, s14, s15, s16, s17, s18, s19⟩
       go_simp
       with_reducible rfl
      rotate_left
      ·simp only [Act.put, List.setIfInBounds_toArray, List.set_cons_zero, List.set_cons_succ, i64_w, i32_w]
       rfl
      refine pure_ (i := 17) (N := some 32) (v := ?_) (a' := ?_) #[true, true, true, true, true, true, true, true, true, true, true, true, true, true, true, true, true, true, false, false, true, false, true, false, false, false, false, false, false, false, false] rfl rfl (any_of HT_.out (by kernel_rfl)) (fun _ _ _ h => h) (Or.inl ⟨by rfl, ?_⟩) ?_ ?_
      rotate_left
      ·intro w'
       go_simp
       with_reducible rfl
      rotate_left
      ·simp only [Act.put, List.setIfInBounds_toArray, List.set_cons_zero, List.set_cons_succ, i64_w, i32_w]
       rfl
      refine pure_ (i := 18) (N := some 33) (v := ?_) (a' := ?_) #[true, true, true, true, true, true, true, true, true, true, true, true, true, true, true, true, true, true, true, false, true, false, true, false, false, false, false, false, false, false, false] rfl rfl (any_of HT_.out (by kernel_rfl)) (fun _ _ _ h => h) (Or.inl ⟨by rfl, ?_⟩) ?_ ?_
      rotate_left
      ·intro w'
       go_simp
       with_reducible rfl
      rotate_left
      ·simp only [Act.put, List.setIfInBounds_toArray, List.set_cons_zero, List.set_cons_succ, i64_w, i32_w]
       rfl
      refine take_ (i := 19) (N := some 34) (v := ?_) (a' := ?_) #[true, true, true, true, true, true, true, true, true, true, true, true, true, true, true, true, true, true, true, true, true, false, true, false, false, false, false, false, false, false, false] rfl rfl (take_ofW HT_.out HW_.out (by kernel_rfl)) (fun _ _ _ h => h) (Or.inl ⟨by rfl, ?_⟩) hHeld ?_ ?_
      rotate_left
      ·rintro w' ⟨s0, s1, s2, s3, s4, s5, s6, s7, s8, s9, s10, s11, s12, s13, s14, s15, s16, s17, s18, s19⟩
       go_simp
       with_reducible rfl
      rotate_left
      ·simp only [Act.put, List.setIfInBounds_toArray, List.set_cons_zero, List.set_cons_succ, i64_w, i32_w]
       rfl
      refine take_ (i := 21) (N := some 36) (v := ?_) (a' := ?_) #[true, true, true, true, true, true, true, true, true, true, true, true, true, true, true, true, true, true, true, true, true, true, true, false, false, false, false, false, false, false, false] rfl rfl (take_ofW HT_.out HW_.out (by kernel_rfl)) (fun _ _ _ h => h) (Or.inl ⟨by rfl, ?_⟩) hHeld ?_ ?_
      rotate_left
      ·rintro w' ⟨s0, s1, s2, s3, s4, s5, s6, s7, s8, s9, s10, s11, s12, s13, s14, s15, s16, s17, s18, s19⟩
       go_simp
       with_reducible rfl
      rotate_left
      ·simp only [Act.put, List.setIfInBounds_toArray, List.set_cons_zero, List.set_cons_succ, i64_w, i32_w]
       rfl
      refine pure_ (i := 23) (N := some 38) (v := ?_) (a' := ?_) #[true, true, true, true, true, true, true, true, true, true, true, true, true, true, true, true, true, true, true, true, true, true, true, true, false, false, false, false, false, false, false] rfl rfl (any_of HT_.out (by kernel_rfl)) (fun _ _ _ h => h) (Or.inl ⟨by rfl, ?_⟩) ?_ ?_
      rotate_left
      ·intro w'
       go_simp
       with_reducible rfl
      rotate_left
      ·simp only [Act.put, List.setIfInBounds_toArray, List.set_cons_zero, List.set_cons_succ, i64_w, i32_w]
       rfl
      refine pure_ (i := 24) (N := some 39) (v := ?_) (a' := ?_) #[true, true, true, true, true, true, true, true, true, true, true, true, true, true, true, true, true, true, true, true, true, true, true, true, true, false, false, false, false, false, false] rfl rfl (any_of HT_.out (by kernel_rfl)) (fun _ _ _ h => h) (Or.inl ⟨by rfl, ?_⟩) ?_ ?_
      rotate_left
      ·intro w'
       go_simp
       with_reducible rfl
      rotate_left
      ·simp only [Act.put, List.setIfInBounds_toArray, List.set_cons_zero, List.set_cons_succ, i64_w, i32_w]
       rfl
      refine take_ (i := 25) (N := some 40) (v := ?_) (a' := ?_) #[true, true, true, true, true, true, true, true, true, true, true, true, true, true, true, true, true, true, true, true, true, true, true, true, true, true, false, false, false, false, false] rfl rfl (take_ofW HT_.out HW_.out (by kernel_rfl)) (fun _ _ _ h => h) (Or.inl ⟨by rfl, ?_⟩) hHeld ?_ ?_
      rotate_left
      ·rintro w' ⟨s0, s1, s2, s3, s4, s5, s6, s7, s8, s9, s10, s11, s12, s13, s14, s15, s16, s17, s18, s19⟩
       go_simp
       with_reducible rfl
      rotate_left
      ·simp only [Act.put, List.setIfInBounds_toArray, List.set_cons_zero, List.set_cons_succ, i64_w, i32_w]
       rfl
      refine pure_ (i := 26) (N := some 41) (v := ?_) (a' := ?_) #[true, true, true, true, true, true, true, true, true, true, true, true, true, true, true, true, true, true, true, true, true, true, true, true, true, true, true, false, false, false, false] rfl rfl (any_of HT_.out (by kernel_rfl)) (fun _ _ _ h => h) (Or.inl ⟨by rfl, ?_⟩) ?_ ?_
      rotate_left
      ·intro w'
       go_simp
       with_reducible rfl
      rotate_left
      ·simp only [Act.put, List.setIfInBounds_toArray, List.set_cons_zero, List.set_cons_succ, i64_w, i32_w]
       rfl
      refine one_ (i := 27) (N := some 42) #[true, true, true, true, true, true, true, true, true, true, true, true, true, true, true, true, true, true, true, true, true, true, true, true, true, true, true, true, false, false, false] rfl rfl (one_of HT_.out (by kernel_rfl)) (by decide) (fun K hK => ?_)
      refine value_ (w1 := ?_) (v := ?_) (by rfl) rfl ?_ ?_
      rotate_left 2
      ·go_simp
       constructor
       ·rfl
       ·rfl
      refine hK.out _ _ ⟨(blk_cell (blk_alloc BK145.out _) 0).trans rfl, (blk_cell (blk_alloc BK145.out _) 1).trans rfl, (blk_cell (blk_alloc BK143.out _) 0).trans rfl, (blk_cell (blk_alloc BK143.out _) 1).trans rfl, (World.cell?_alloc_lt _ _ _ (World.block_lt_of_cell? _ _ (hHeld.2.2.2.2.1))).trans (hHeld.2.2.2.2.1), (World.cell?_alloc_lt _ _ _ (World.block_lt_of_cell? _ _ (hHeld.2.2.2.2.2.1))).trans (hHeld.2.2.2.2.2.1), (World.cell?_alloc_lt _ _ _ (World.block_lt_of_cell? _ _ (hHeld.2.2.2.2.2.2.1))).trans (hHeld.2.2.2.2.2.2.1), (World.cell?_alloc_lt _ _ _ (World.block_lt_of_cell? _ _ (hHeld.2.2.2.2.2.2.2.1))).trans (hHeld.2.2.2.2.2.2.2.1), (World.cell?_alloc_lt _ _ _ (World.block_lt_of_cell? _ _ (hHeld.2.2.2.2.2.2.2.2.1))).trans (hHeld.2.2.2.2.2.2.2.2.1), (World.cell?_alloc_lt _ _ _ (World.block_lt_of_cell? _ _ (hHeld.2.2.2.2.2.2.2.2.2.1))).trans (hHeld.2.2.2.2.2.2.2.2.2.1), (World.cell?_alloc_lt _ _ _ (World.block_lt_of_cell? _ _ (hHeld.2.2.2.2.2.2.2.2.2.2.1))).trans (hHeld.2.2.2.2.2.2.2.2.2.2.1), (World.cell?_alloc_lt _ _ _ (World.block_lt_of_cell? _ _ (hHeld.2.2.2.2.2.2.2.2.2.2.2.1))).trans (hHeld.2.2.2.2.2.2.2.2.2.2.2.1), (World.cell?_alloc_lt _ _ _ (World.block_lt_of_cell? _ _ (hHeld.2.2.2.2.2.2.2.2.2.2.2.2.1))).trans (hHeld.2.2.2.2.2.2.2.2.2.2.2.2.1), (World.cell?_alloc_lt _ _ _ (World.block_lt_of_cell? _ _ (hHeld.2.2.2.2.2.2.2.2.2.2.2.2.2.1))).trans (hHeld.2.2.2.2.2.2.2.2.2.2.2.2.2.1), (World.cell?_alloc_lt _ _ _ (World.block_lt_of_cell? _ _ (hHeld.2.2.2.2.2.2.2.2.2.2.2.2.2.2.1))).trans (hHeld.2.2.2.2.2.2.2.2.2.2.2.2.2.2.1), (World.cell?_alloc_lt _ _ _ (World.block_lt_of_cell? _ _ (hHeld.2.2.2.2.2.2.2.2.2.2.2.2.2.2.2.1))).trans (hHeld.2.2.2.2.2.2.2.2.2.2.2.2.2.2.2.1), (World.cell?_alloc_lt _ _ _ (World.block_lt_of_cell? _ _ (hHeld.2.2.2.2.2.2.2.2.2.2.2.2.2.2.2.2.1))).trans (hHeld.2.2.2.2.2.2.2.2.2.2.2.2.2.2.2.2.1), (World.cell?_alloc_lt _ _ _ (World.block_lt_of_cell? _ _ (hHeld.2.2.2.2.2.2.2.2.2.2.2.2.2.2.2.2.2.1))).trans (hHeld.2.2.2.2.2.2.2.2.2.2.2.2.2.2.2.2.2.1), (World.cell?_alloc_lt _ _ _ (World.block_lt_of_cell? _ _ (hHeld.2.2.2.2.2.2.2.2.2.2.2.2.2.2.2.2.2.2.1))).trans (hHeld.2.2.2.2.2.2.2.2.2.2.2.2.2.2.2.2.2.2.1), (World.cell?_alloc_lt _ _ _ (World.block_lt_of_cell? _ _ (hHeld.2.2.2.2.2.2.2.2.2.2.2.2.2.2.2.2.2.2.2))).trans (hHeld.2.2.2.2.2.2.2.2.2.2.2.2.2.2.2.2.2.2.2)⟩ (fun hHeld => ?_)
      clear hK K
      refine norm_ (a' := ?_) ?_ ?_
      rotate_left
      ·show Act.put _ (some 42) _ = _
       simp only [Act.put, List.setIfInBounds_toArray, List.set_cons_zero, List.set_cons_succ, i64_w, i32_w]
       rfl
      refine last_ (i := 28) (N := some 43) #[true, true, true, true, true, true, true, true, true, true, true, true, true, true, true, true, true, true, true, true, true, true, true, true, true, true, true, true, true, false, false] rfl rfl (one_of HT_.out (by kernel_rfl)) (by decide) (fun K hK => ?_)
      refine Kd.N_append_step k64 (w0 := w) w.heap.size (by rfl) (.tmp 16) (.tmp 42) 44 64 (.agg #[(.string ⟨#[]⟩), (.slice none 0 0), (.int .i64 0), (.int .i64 0)]) 56 rfl Tryd.underlying44 info64 rfl (by decide) (by omega) u146000 x146000_1 (⟨(rd_T71 l0_0 x4_1).f0, (rd_T71 l0_0 x4_1).f1, (rd_T71 l0_0 x4_1).f2, (rd_T71 l0_0 x4_1).f3⟩ : S64) [.string ((rd_T71 l0_0 x4_1).f0), .slice A146_1 ((rd_T71 l0_0 x4_1).f1).length c146_1, .int .i64 ((rd_T71 l0_0 x4_1).f2), .int .i64 ((rd_T71 l0_0 x4_1).f3)] (fun k_ => (P0_0_ k_ ∨ w.heap.size ≤ k_) ∧ k_ ≠ gb143 ∧ k_ ≠ gb144 ∧ k_ ≠ gb145) (fun k_ => ((fun k_ => (P0_0_ k_ ∨ w.heap.size ≤ k_) ∧ k_ ≠ gb143 ∧ k_ ≠ gb144 ∧ k_ ≠ gb145)) k_ ∧ some k_ ≠ (u146000 : Value).ownBlock) rfl rfl ?aP (fun _ hk => hk) ?aF ?aO ?aB ?aS ?aL ?_
      (case aP => exact (k64_mkF _ _ (⟨(rd_T71 l0_0 x4_1).f0, (rd_T71 l0_0 x4_1).f1, (rd_T71 l0_0 x4_1).f2, (rd_T71 l0_0 x4_1).f3⟩ : S64) (Kd.V_reads' (Kd.V_mono (ok' := (fun k_ => ((fun k_ => (P0_0_ k_ ∨ w.heap.size ≤ k_) ∧ k_ ≠ gb143 ∧ k_ ≠ gb144 ∧ k_ ≠ gb145)) k_ ∧ some k_ ≠ (u146000 : Value).ownBlock)) (HL147_1.out) (fun k_ hk => ⟨⟨hk.1, ⟨hk.2.2.1, ⟨hk.2.2.2.1, hk.2.2.2.2⟩⟩⟩, hk.2.1⟩))).2.1 (Kd.V_F (Kd.V_mono (ok' := (fun k_ => ((fun k_ => (P0_0_ k_ ∨ w.heap.size ≤ k_) ∧ k_ ≠ gb143 ∧ k_ ≠ gb144 ∧ k_ ≠ gb145)) k_ ∧ some k_ ≠ (u146000 : Value).ownBlock)) (HL147_1.out) (fun k_ hk => ⟨⟨hk.1, ⟨hk.2.2.1, ⟨hk.2.2.2.1, hk.2.2.2.2⟩⟩⟩, hk.2.1⟩)))))
      (case aB => exact (by repeat (first | (with_reducible first | exact HB.out | apply bA | apply bN | apply bD | refine bS ?_ (by assumption)) | exact HB.out)))
      (case aF => exact (fun k_ hk => ⟨(.inr (Nat.le_trans (below_size (by repeat (first | (with_reducible first | exact HB.out | apply bA | apply bN | apply bD | refine bS ?_ (by assumption)) | exact HB.out))) hk)), Kd.freshB (g := gb143) (o := .cells #[.slice (some ad146) l0_0.length c0_0, .int .i64 a0_1] 29 (0, 0)) (uB BK143.out) k_ hk, Kd.freshB (g := gb144) (o := .cells #[.slice none 0 0, .int .i64 0] 46 (0, 0)) (uB BK144.out) k_ hk, Kd.freshB (g := gb145) (o := .cells #[u146000, .int .i64 a0_1] 46 (0, 0)) (uB BK145.out) k_ hk⟩))
      (case aO => exact (uN HO_146000.out))
      (case aS => exact (below_size (by repeat (first | (with_reducible first | exact HB.out | apply bA | apply bN | apply bD | refine bS ?_ (by assumption)) | exact HB.out))))
      (case aL => have := LMc12.out; omega)
      intro v151 w17 ho hb hg hat
      rw [← Ny150.out] at ho
      have n0_ := mk0 (Kd.V_afterv (ok := (fun k_ => (P0_0_ k_ ∨ w.heap.size ≤ k_) ∧ k_ ≠ gb143 ∧ k_ ≠ gb144 ∧ k_ ≠ gb145)) (uV (Kd.V_mono HO_144000.out (fun _ hk => ⟨⟨hk.1, ⟨hk.2.2.1, ⟨hk.2.2.2.1, hk.2.2.2.2⟩⟩⟩, hk.2.1⟩))) hg hat)
      have n1_ := mk0 (blk_grown (g := gb143) (o := .cells #[.slice (some ad146) l0_0.length c0_0, .int .i64 a0_1] 29 (0, 0)) (uB BK143.out) hg (Kd.N_ne HO_146000.out BK143.out (by decide)))
      have n2_ := mk0 (blk_grown (g := gb144) (o := .cells #[.slice none 0 0, .int .i64 0] 46 (0, 0)) (uB BK144.out) hg (Kd.N_ne HO_146000.out BK144.out (by decide)))
      have n3_ := mk0 (blk_grown (g := gb145) (o := .cells #[u146000, .int .i64 a0_1] 46 (0, 0)) (uB BK145.out) hg (Kd.N_ne HO_146000.out BK145.out (by decide)))
      have n4_ := mk0 (Kd.V_afterv (ok := (fun k_ => (P0_0_ k_ ∨ w.heap.size ≤ k_) ∧ k_ ≠ gb143 ∧ k_ ≠ gb144 ∧ k_ ≠ gb145)) (uV (Kd.V_mono HL146_1.out (fun _ hk => ⟨⟨hk.1, ⟨hk.2.2.1, ⟨hk.2.2.2.1, hk.2.2.2.2⟩⟩⟩, hk.2.1⟩))) hg hat)
      have n5_ := mk0 (Kd.V_afterv (ok := (fun k_ => (P0_0_ k_ ∨ w.heap.size ≤ k_) ∧ k_ ≠ gb143 ∧ k_ ≠ gb144 ∧ k_ ≠ gb145)) (uV (Kd.V_mono HL147_1.out (fun _ hk => ⟨⟨hk.1, ⟨hk.2.2.1, ⟨hk.2.2.2.1, hk.2.2.2.2⟩⟩⟩, hk.2.1⟩))) hg hat)
      have n6_ := mk0 (Kd.V_afterv (ok := (fun k_ => (P0_0_ k_ ∨ w.heap.size ≤ k_) ∧ k_ ≠ gb143 ∧ k_ ≠ gb144 ∧ k_ ≠ gb145)) (uV (Kd.V_mono HL148_1.out (fun _ hk => ⟨⟨hk.1, ⟨hk.2.2.1, ⟨hk.2.2.2.1, hk.2.2.2.2⟩⟩⟩, hk.2.1⟩))) hg hat)
      have n7_ := mk0 (Kd.V_afterv (ok := (fun k_ => (P0_0_ k_ ∨ w.heap.size ≤ k_) ∧ k_ ≠ gb143 ∧ k_ ≠ gb144 ∧ k_ ≠ gb145)) (uV (Kd.V_mono HL149_1.out (fun _ hk => ⟨⟨hk.1, ⟨hk.2.2.1, ⟨hk.2.2.2.1, hk.2.2.2.2⟩⟩⟩, hk.2.1⟩))) hg hat)
      have n8_ := mk0 (hb)
      have n9_ := mk0 (ho)
      clear HO_144000
      clear BK143
      clear BK144
      clear BK145
      clear HL146_1
      clear HL147_1
      clear HL148_1
      clear HL149_1
      clear HB
      clear HO_146000
      have HO_144000 := n0_
      have BK143 := n1_
      have BK144 := n2_
      have BK145 := n3_
      have HL146_1 := n4_
      have HL147_1 := n5_
      have HL148_1 := n6_
      have HL149_1 := n7_
      have HB := n8_
      have HO152 := n9_
      clear n0_ n1_ n2_ n3_ n4_ n5_ n6_ n7_ n8_ n9_
      clear ho hb hg hat
      obtain ⟨Ao18, co18, eo18⟩ := Kd.N_slice HO152.out
      (first | subst eo18 | (injection eo18 with f1_ f2_ f3_; have f4_ := f1_.symm; have f5_ := f3_.symm; clear f1_ f2_ f3_; subst f4_; subst f5_))
      refine hK.out _ _ ?_
      clear hK K
      refine norm_ (a' := ?_) ?_ ?_
      rotate_left
      ·show Act.put _ (some 43) _ = _
       simp only [Act.put, List.setIfInBounds_toArray, List.set_cons_zero, List.set_cons_succ, i64_w, i32_w]
       rfl
      refine pure_ (i := 29) (N := some 44) (v := ?_) (a' := ?_) #[true, true, true, true, true, true, true, true, true, true, true, true, true, true, true, true, true, true, true, true, true, true, true, true, true, true, true, true, true, true, false] rfl rfl (any_of HT_.out (by kernel_rfl)) (fun _ _ _ h => h) (Or.inl ⟨by rfl, ?_⟩) ?_ ?_
      rotate_left
      ·intro w'
       go_simp
       with_reducible rfl
      rotate_left
      ·simp only [Act.put, List.setIfInBounds_toArray, List.set_cons_zero, List.set_cons_succ, i64_w, i32_w]
       rfl
      refine last_ (i := 30) (N := none) #[true, true, true, true, true, true, true, true, true, true, true, true, true, true, true, true, true, true, true, true, true, true, true, true, true, true, true, true, true, true, true] rfl rfl (one_of HT_.out (by kernel_rfl)) (by decide) (fun K hK => ?_)
      have hs19 : w17.cell? ⟨gb145, 0, none⟩ = some (u146000) := (blk_cell BK145.out 0).trans rfl
      have hfs19 := blk_frozen BK145.out 0
      have hns19_0 := NB143_145.out
      have hns19_1 := NB144_145.out
      have hms19_0 := NB145_143.out
      have hms19_1 := NB145_144.out
      refine skip_ (w1 := ?_) (by rfl) rfl ?_ ?_
      rotate_left
      ·go_simp
       rfl
      refine hK.out _ _ ?_
      clear hK K
      refine done_ (done_of HT_.out (by kernel_rfl)) ?_
      try go_wp2
      go_roundg k1
      case measure => have := HK1.out; omega
      case rel => exact ⟨(wrap64 (x4_1 + 1)), (y150), (.slice Ao18 y150.length co18), (by first | rfl | (simp; done) | (simp [*]; done) | (simp [bne_nil_, beq_nil_]; done)), H', ⟨by have := HK1.out; omega⟩, ⟨uV (Kd.V_mono (Kd.V_far (p := ⟨gb145, 0, none⟩) (Kd.V_mono HO_144000.out (fun k_ hk => (⟨hk, hk.1.2.2.2⟩ : _ ∧ k_ ≠ gb145))) (fun _ hk => hk.2) (.slice Ao18 y150.length co18)) (fun _ hk => ⟨hk.1.1.1, ⟨hk.1.2, ⟨hk.1.1.2.1, ⟨hk.1.1.2.2.1, hk.1.1.2.2.2⟩⟩⟩⟩))⟩, ⟨uN (Kd.N_mono (Kd.N_far (p := ⟨gb145, 0, none⟩) (Kd.N_mono HO152.out (fun k_ hk => (⟨hk, hk.2.2.2⟩ : _ ∧ k_ ≠ gb145))) (fun _ hk => hk.2) (.slice Ao18 y150.length co18)) (fun _ hk => ⟨hk.1.1, ⟨hk.1.2.1, ⟨hk.1.2.2.1, hk.1.2.2.2⟩⟩⟩))⟩, ⟨by (with_reducible repeat (first | refine blk_drewN ?_ _ | refine blk_drew ?_ | refine blk_alloc ?_ _)); refine blk_far ?_ NB143_145.out _; (with_reducible repeat (first | refine blk_drewN ?_ _ | refine blk_drew ?_ | refine blk_alloc ?_ _)); exact BK143.out⟩, ⟨by (with_reducible repeat (first | refine blk_drewN ?_ _ | refine blk_drew ?_ | refine blk_alloc ?_ _)); refine blk_far ?_ NB144_145.out _; (with_reducible repeat (first | refine blk_drewN ?_ _ | refine blk_drew ?_ | refine blk_alloc ?_ _)); exact BK144.out⟩, ⟨by (with_reducible repeat (first | refine blk_drewN ?_ _ | refine blk_drew ?_ | refine blk_alloc ?_ _)); refine blk_put (cs := #[u146000, .int .i64 a0_1]) ?_ 0 _ rfl; (with_reducible repeat (first | refine blk_drewN ?_ _ | refine blk_drew ?_ | refine blk_alloc ?_ _)); exact BK145.out⟩, ⟨by repeat (first | (with_reducible first | exact HB.out | apply bA | apply bN | apply bD | refine bS ?_ (by assumption)) | exact HB.out)⟩⟩
     ·rw [if_neg c12] at H
      exact absurd H (by simp)
    ·rw [if_neg c11] at H
     exact absurd H (by simp)
   ·rw [if_neg c10] at H
    have c10b0 : decide (x4_1 < (l0_0.length : Int)) = false := decide_eq_false c10
    clear c10
    simp only [Option.some.injEq, Prod.mk.injEq] at H
    obtain ⟨rfl, rfl⟩ := H
    have hnb20 := NB143_144.out
    have hnc20 := NB144_143.out
    have hnb21 := NB143_145.out
    have hnc21 := NB145_143.out
    have hcz22_0 : wr.cell? ⟨gb143, 0, none⟩ = some (.slice A0_0 l0_0.length c0_0) := (blk_cell BK143.out 0).trans rfl
    have hcz22_1 : wr.cell? ⟨gb143, 1, none⟩ = some (.int .i64 a0_1) := (blk_cell BK143.out 1).trans rfl
    have hfz22_0 := blk_frozen BK143.out 0
    have hfz22_1 := blk_frozen BK143.out 1
    have hnb23 := NB145_144.out
    have hnc23 := NB144_145.out
    have hcz24_0 : wr.cell? ⟨gb145, 0, none⟩ = some (u146000) := (blk_cell BK145.out 0).trans rfl
    have hcz24_1 : wr.cell? ⟨gb145, 1, none⟩ = some (.int .i64 a0_1) := (blk_cell BK145.out 1).trans rfl
    have hfz24_0 := blk_frozen BK145.out 0
    have hfz24_1 := blk_frozen BK145.out 1
    obtain ⟨Ao25, co25, eo25⟩ := Kd.N_slice HO_146000.out
    subst eo25
    have hcz26_0 : wr.cell? ⟨gb144, 0, none⟩ = some (.slice none 0 0) := (blk_cell BK144.out 0).trans rfl
    have hcz26_1 : wr.cell? ⟨gb144, 1, none⟩ = some (.int .i64 0) := (blk_cell BK144.out 1).trans rfl
    have hfz26_0 := blk_frozen BK144.out 0
    have hfz26_1 := blk_frozen BK144.out 1
    go_wp2
    refine bodyPost_ret (results_cell_row rfl _ _ gb144 46 #[.slice Ao25 x146000_1.length co25, .int .i64 a0_1] (0, 0) _ rfl (by (with_reducible repeat (first | refine blk_drewN ?_ _ | refine blk_drew ?_ | refine blk_alloc ?_ _)); refine blk_put (cs := #[.slice Ao25 x146000_1.length co25, .int .i64 0]) ?_ 1 _ rfl; (with_reducible repeat (first | refine blk_drewN ?_ _ | refine blk_drew ?_ | refine blk_alloc ?_ _)); refine blk_put (cs := #[.slice none 0 0, .int .i64 0]) ?_ 0 _ rfl; (with_reducible repeat (first | refine blk_drewN ?_ _ | refine blk_drew ?_ | refine blk_alloc ?_ _)); exact BK144.out) Tryd.underlying46 rfl (by kernel_rfl)) rfl ?_
    exact ⟨_, by first | rfl | (simp [errW_none, errW_some] <;> rfl) | (simp [*, errW_none, errW_some] <;> rfl), uN (Kd.N_mono (Kd.N_far (p := ⟨gb144, 1, none⟩) (Kd.N_far (p := ⟨gb144, 0, none⟩) (Kd.N_mono HO_146000.out (fun k_ hk => (⟨hk, hk.2.2.1⟩ : _ ∧ k_ ≠ gb144))) (fun _ hk => hk.2) (.slice Ao25 x146000_1.length co25)) (fun _ hk => hk.2) (.int .i64 a0_1)) (fun _ hk => hk.1.1)), by repeat (first | (with_reducible first | exact HB.out | apply bA | apply bN | apply bD | refine bS ?_ (by assumption)) | exact HB.out)⟩

end Go.Proofs.YtmhkijidnpihmaaDoor.X
