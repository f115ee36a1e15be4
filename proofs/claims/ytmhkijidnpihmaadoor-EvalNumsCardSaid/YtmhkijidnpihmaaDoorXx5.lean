-- PRINTED by print.py (a twelfth state) out of the translation. Not trusted: Lean checks it.
import Derived.Test.YtmhkijidnpihmaaDoorXx0
namespace Go.Proofs.YtmhkijidnpihmaaDoor.X
open Go.Proofs.YtmhkijidnpihmaaDoor.Flt Go.Proofs.YtmhkijidnpihmaaDoor.H Go.RowKit Go.Proofs.YtmhkijidnpihmaaDoorW.PrintWords Go.Proofs.YtmhkijidnpihmaaDoorW.PrintLast Go.Proofs.YtmhkijidnpihmaaDoorW.PrintMore
attribute [local go_sem] max2_int min2_int max_two min_two max_three min_three max_four min_four   -- for this text's walks alone
set_option linter.unusedVariables false
set_option linter.unusedSimpArgs false

/-! ### furrowlaw5_Of: function 9 -/
mutual
def furrowlaw5_Of.l0 : Nat → Int → Int → Int → ByteArray → List (S24) → Int → Int → ByteArray → List (S33) → Option (Int × Int × ByteArray × (List (S33)))
 | 0, _, _, _, _, _, _, _, _, _ => none
 | k + 1, x4, x281000, x281001, x281002, x281003, x283000, x283001, x283002, x283003 => if x4 < (x281003.length : Int) then (if 0 ≤ x4 then ((furrowlaw5_Of.f k ((rd_T24 x281003 x4).f0) ((rd_T24 x281003 x4).f1) ((rd_T24 x281003 x4).f2) ((rd_T24 x281003 x4).f3)).bind fun bt284 => (if x283003.length < 2513169434916 then (furrowlaw5_Of.l0 k (wrap64 (x4 + 1)) x281000 x281001 x281002 x281003 x283000 x283001 x283002 (x283003 ++ [(⟨bt284.1, bt284.2.1, bt284.2.2.1, bt284.2.2.2⟩ : S33)])) else (none))) else (none)) else (some (x283000, x283001, x283002, x283003))
def furrowlaw5_Of.f : Nat → Int → Int → ByteArray → List (S24) → Option (Int × Int × ByteArray × (List (S33)))
 | 0, _, _, _, _ => none
 | k + 1, a0_0, a0_1, a0_2, l0_3 => furrowlaw5_Of.l0 k 0 a0_0 a0_1 a0_2 l0_3 a0_0 a0_1 a0_2 ([] : List (S33))
end
theorem furrowlaw5_Of.mono_l : ∀ k, (∀ y0 y1 y2 y3, LeO (furrowlaw5_Of.f k y0 y1 y2 y3) (furrowlaw5_Of.f (k + 1) y0 y1 y2 y3)) ∧ (∀ y0 y1 y2 y3 y4 y5 y6 y7 y8, LeO (furrowlaw5_Of.l0 k y0 y1 y2 y3 y4 y5 y6 y7 y8) (furrowlaw5_Of.l0 (k + 1) y0 y1 y2 y3 y4 y5 y6 y7 y8))
 | 0 => ⟨fun _ _ _ _ r h => by simp [furrowlaw5_Of.f] at h, fun _ _ _ _ _ _ _ _ _ r h => by simp [furrowlaw5_Of.l0] at h⟩
 | k + 1 => by
  obtain ⟨ih0, ih1⟩ := furrowlaw5_Of.mono_l k
  refine ⟨?_, ?_⟩
  ·intro y0 y1 y2 y3
   unfold furrowlaw5_Of.f
   repeat' first
   | (with_reducible exact ih0 _ _ _ _)
   | (with_reducible exact ih1 _ _ _ _ _ _ _ _ _)
   | (with_reducible exact LeO.refl _)
   | (with_reducible exact LeO.none _)
   | (with_reducible refine LeO.ite ?_ ?_)
   | (with_reducible refine LeO.bind ?_ (fun _ => ?_))
   | exact ih0 _ _ _ _
   | exact ih1 _ _ _ _ _ _ _ _ _
   | exact LeO.none _
   | refine LeO.ite ?_ ?_
   | refine LeO.bind ?_ (fun _ => ?_)
  ·intro y0 y1 y2 y3 y4 y5 y6 y7 y8
   unfold furrowlaw5_Of.l0
   repeat' first
   | (with_reducible exact ih0 _ _ _ _)
   | (with_reducible exact ih1 _ _ _ _ _ _ _ _ _)
   | (with_reducible exact LeO.refl _)
   | (with_reducible exact LeO.none _)
   | (with_reducible refine LeO.ite ?_ ?_)
   | (with_reducible refine LeO.bind ?_ (fun _ => ?_))
   | exact ih0 _ _ _ _
   | exact ih1 _ _ _ _ _ _ _ _ _
   | exact LeO.none _
   | refine LeO.ite ?_ ?_
   | refine LeO.bind ?_ (fun _ => ?_)
theorem furrowlaw5_Of.mono : ∀ a0 a1 a2 a3 k, LeO (furrowlaw5_Of.f k a0 a1 a2 a3) (furrowlaw5_Of.f (k + 1) a0 a1 a2 a3) := by
 intro a0 a1 a2 a3 k
 obtain ⟨ih0, ih1⟩ := furrowlaw5_Of.mono_l k
 exact ih0 a0 a1 a2 a3
def furrowlaw5_Of.T5 : Bool × List (List Nat × List Nat) := (true, [([], []), ([0], [0]), ([], []), ([2], [2]), ([], []), ([3, 4], [3, 4]), ([5], [5]), ([6], [6]), ([7], [7]), ([1, 8, 7], [1, 8]), ([0, 1, 2, 3, 4, 5, 6, 7, 8, 9], []), ([10, 9, 9, 0, 1, 2, 3, 4, 5, 6, 7, 8, 9], [9, 10])])
def furrowlaw5_Of.B5 : List Nat := [0, 1, 0, 4, 0, 28, 60, 124, 252, 511, 1023, 2047]
theorem furrowlaw5_Of.tab5 : rtab .any (opsOf Tryd.f9 5) = furrowlaw5_Of.T5 := by kernel_rfl
theorem furrowlaw5_Of.bits5 : waitsOk furrowlaw5_Of.T5.2 furrowlaw5_Of.B5 = true := by kernel_rfl
set_option maxHeartbeats 8000000 in
set_option maxRecDepth 100000 in
theorem furrowlaw5_Of.calls (k : Nat) : ∀ (a0_0 : Int) (a0_1 : Int) (a0_2 : ByteArray) (A0_3 : Option Addr) (c0_3 : Nat) (l0_3 : List (S24)) (r1 : Int) (r2 : Int) (r3 : ByteArray) (r4 : List (S33)) (w : World) (hr0_3 : Kd.C k24 w A0_3 l0_3.length l0_3) (hc0_3 : l0_3.length ≤ c0_3) (h : furrowlaw5_Of.f k a0_0 a0_1 a0_2 l0_3 = some (r1, r2, r3, r4)),
  Calls Tryd.prog 9 #[.agg #[.int .i64 a0_0, .int .i64 a0_1, .string a0_2, .slice A0_3 l0_3.length c0_3]] w fun e w' => ∃ v3_ : Value, e = .returned (.agg #[.int .i64 r1, .int .i64 r2, .string r3, v3_]) ∧ Kd.R k33 33 w' w.heap.size (fun _ => True) v3_ r4 ∧ Below w.heap.size w w' := by
 induction k using Nat.strongRecOn with
 | _ k ih =>
 intro a0_0 a0_1 a0_2 A0_3 c0_3 l0_3 r1 r2 r3 r4 w hr0_3 hc0_3 h
 cases k with
 | zero => exact absurd h (by simp [furrowlaw5_Of.f])
 | succ k =>
 simp only [furrowlaw5_Of.f] at h
 have hu24 := Tryd.underlying24
 have hu33 := Tryd.underlying33
 have HR0_3 := mk0 hr0_3
 have HC0_3 := mk0 hc0_3
 clear hr0_3 hc0_3
 have HB := mk0 (Below.refl w.heap.size w)
 have H : (furrowlaw5_Of.l0 k 0 a0_0 a0_1 a0_2 l0_3 a0_0 a0_1 a0_2 ([] : List (S33))) = some (r1, r2, r3, r4) := h
 clear h
 have H' := mk0 H
 clear H
 go_enter Tryd.func9, Tryd.ntmps9
 go_wp2_with (first | ((with_reducible refine gate_dst (N := 1) rfl ?_); refine box_event ?hg (N := 1) ?hd (cs := #[.int .i64 a0_0, .int .i64 a0_1, .string a0_2, .slice A0_3 l0_3.length c0_3]) (t := 24) ?hr ?_; (case hd => rfl); (case hg => rfl); (case hr => first | (go_simp; done) | (go_simp; rfl)); intro gb280 hg w2 hbox hb; have n0_ := mk0 (below_step (uL HB.out) hb); have n1_ := mk0 (hbox); have n2_ := mk0 ((by rw [hg]; exact (below_size (uL HB.out)) : w.heap.size ≤ gb280)); have n3_ := mk0 ((by rw [hg]; exact (below_size (uL HB.out)) : w.heap.size ≤ gb280)); clear HB; have HB := n0_; have BK280 := n1_; have GW280 := n2_; have GE280 := n3_; clear n0_ n1_ n2_ n3_; clear hb hbox hg) | ((with_reducible refine gate_dst (N := 2) rfl ?_); refine box_event ?hg (N := 2) ?hd (cs := #[.int .i64 0, .int .i64 0, .string (⟨#[]⟩ : ByteArray), .slice none 0 0]) (t := 33) ?hr ?_; (case hd => rfl); (case hg => rfl); (case hr => first | (go_simp; done) | (go_simp; rfl)); intro gb281 hg w3 hbox hb; have n0_ := mk0 (blk_below (g := gb280) (o := .cells #[.int .i64 a0_0, .int .i64 a0_1, .string a0_2, .slice A0_3 l0_3.length c0_3] 24 (0, 0)) (uB BK280.out) hb); have n1_ := mk0 (below_step (by repeat (first | (with_reducible first | exact HB.out | apply bA | apply bN | apply bD | refine bS ?_ (by assumption)) | exact HB.out)) hb); have n2_ := mk0 (hbox); have n3_ := mk0 ((by rw [hg]; exact (below_size (by repeat (first | (with_reducible first | exact HB.out | apply bA | apply bN | apply bD | refine bS ?_ (by assumption)) | exact HB.out))) : w.heap.size ≤ gb281)); have n4_ := mk0 ((by rw [hg]; exact (below_size (by repeat (first | (with_reducible first | exact HB.out | apply bA | apply bN | apply bD | refine bS ?_ (by assumption)) | exact HB.out))) : w.heap.size ≤ gb281)); have n5_ := mk0 ((by rw [hg]; exact Nat.ne_of_lt (blk_lt (g := gb280) (o := .cells #[.int .i64 a0_0, .int .i64 a0_1, .string a0_2, .slice A0_3 l0_3.length c0_3] 24 (0, 0)) (uB BK280.out)) : gb280 ≠ gb281)); have n6_ := mk0 ((by rw [hg]; exact Nat.ne_of_gt (blk_lt (g := gb280) (o := .cells #[.int .i64 a0_0, .int .i64 a0_1, .string a0_2, .slice A0_3 l0_3.length c0_3] 24 (0, 0)) (uB BK280.out)) : gb281 ≠ gb280)); clear BK280; clear HB; have BK280 := n0_; have HB := n1_; have BK281 := n2_; have GW281 := n3_; have GE281 := n4_; have NB280_281 := n5_; have NB281_280 := n6_; clear n0_ n1_ n2_ n3_ n4_ n5_ n6_; clear hb hbox hg; have hnb4 := NB280_281.out; have hnc4 := NB281_280.out; have hcz5_0 : w3.cell? ⟨gb280, 0, none⟩ = some (.int .i64 a0_0) := (blk_cell BK280.out 0).trans rfl; have hcz5_1 : w3.cell? ⟨gb280, 1, none⟩ = some (.int .i64 a0_1) := (blk_cell BK280.out 1).trans rfl; have hcz5_2 : w3.cell? ⟨gb280, 2, none⟩ = some (.string a0_2) := (blk_cell BK280.out 2).trans rfl; have hcz5_3 : w3.cell? ⟨gb280, 3, none⟩ = some (.slice A0_3 l0_3.length c0_3) := (blk_cell BK280.out 3).trans rfl; have hfz5_0 := blk_frozen BK280.out 0; have hfz5_1 := blk_frozen BK280.out 1; have hfz5_2 := blk_frozen BK280.out 2; have hfz5_3 := blk_frozen BK280.out 3) | ((with_reducible refine gate_dst (N := 3) rfl ?_); refine box_event ?hg (N := 3) ?hd (cs := #[.int .i64 0, .int .i64 0, .string (⟨#[]⟩ : ByteArray), .slice none 0 0]) (t := 33) ?hr ?_; (case hd => rfl); (case hg => rfl); (case hr => first | (go_simp; done) | (go_simp; rfl)); intro gb282 hg w6 hbox hb; have n0_ := mk0 (blk_below (g := gb280) (o := .cells #[.int .i64 a0_0, .int .i64 a0_1, .string a0_2, .slice A0_3 l0_3.length c0_3] 24 (0, 0)) (uB BK280.out) hb); have n1_ := mk0 (blk_below (g := gb281) (o := .cells #[.int .i64 0, .int .i64 0, .string (⟨#[]⟩ : ByteArray), .slice none 0 0] 33 (0, 0)) (uB BK281.out) hb); have n2_ := mk0 (below_step (by repeat (first | (with_reducible first | exact HB.out | apply bA | apply bN | apply bD | refine bS ?_ (by assumption)) | exact HB.out)) hb); have n3_ := mk0 (hbox); have n4_ := mk0 ((by rw [hg]; exact (below_size (by repeat (first | (with_reducible first | exact HB.out | apply bA | apply bN | apply bD | refine bS ?_ (by assumption)) | exact HB.out))) : w.heap.size ≤ gb282)); have n5_ := mk0 ((by rw [hg]; exact (below_size (by repeat (first | (with_reducible first | exact HB.out | apply bA | apply bN | apply bD | refine bS ?_ (by assumption)) | exact HB.out))) : w.heap.size ≤ gb282)); have n6_ := mk0 ((by rw [hg]; exact Nat.ne_of_lt (blk_lt (g := gb280) (o := .cells #[.int .i64 a0_0, .int .i64 a0_1, .string a0_2, .slice A0_3 l0_3.length c0_3] 24 (0, 0)) (uB BK280.out)) : gb280 ≠ gb282)); have n7_ := mk0 ((by rw [hg]; exact Nat.ne_of_gt (blk_lt (g := gb280) (o := .cells #[.int .i64 a0_0, .int .i64 a0_1, .string a0_2, .slice A0_3 l0_3.length c0_3] 24 (0, 0)) (uB BK280.out)) : gb282 ≠ gb280)); have n8_ := mk0 ((by rw [hg]; exact Nat.ne_of_lt (blk_lt (g := gb281) (o := .cells #[.int .i64 0, .int .i64 0, .string (⟨#[]⟩ : ByteArray), .slice none 0 0] 33 (0, 0)) (uB BK281.out)) : gb281 ≠ gb282)); have n9_ := mk0 ((by rw [hg]; exact Nat.ne_of_gt (blk_lt (g := gb281) (o := .cells #[.int .i64 0, .int .i64 0, .string (⟨#[]⟩ : ByteArray), .slice none 0 0] 33 (0, 0)) (uB BK281.out)) : gb282 ≠ gb281)); clear BK280; clear BK281; clear HB; have BK280 := n0_; have BK281 := n1_; have HB := n2_; have BK282 := n3_; have GW282 := n4_; have GE282 := n5_; have NB280_282 := n6_; have NB282_280 := n7_; have NB281_282 := n8_; have NB282_281 := n9_; clear n0_ n1_ n2_ n3_ n4_ n5_ n6_ n7_ n8_ n9_; clear hb hbox hg; have hnb7 := NB282_280.out; have hnc7 := NB280_282.out; have hnb8 := NB282_281.out; have hnc8 := NB281_282.out; have hcz9_0 : w6.cell? ⟨gb282, 0, none⟩ = some (.int .i64 0) := (blk_cell BK282.out 0).trans rfl; have hcz9_1 : w6.cell? ⟨gb282, 1, none⟩ = some (.int .i64 0) := (blk_cell BK282.out 1).trans rfl; have hcz9_2 : w6.cell? ⟨gb282, 2, none⟩ = some (.string (⟨#[]⟩ : ByteArray)) := (blk_cell BK282.out 2).trans rfl; have hcz9_3 : w6.cell? ⟨gb282, 3, none⟩ = some (.slice none 0 0) := (blk_cell BK282.out 3).trans rfl; have hfz9_0 := blk_frozen BK282.out 0; have hfz9_1 := blk_frozen BK282.out 1; have hfz9_2 := blk_frozen BK282.out 2; have hfz9_3 := blk_frozen BK282.out 3))
 go_loopg [4] k (fun kq v4 w' => ∃ (x4_1 : Int) (x283003_1 : List (S33)) (u283003 : Value), v4 = .int .i64 x4_1 ∧ Aside0 (furrowlaw5_Of.l0 kq x4_1 a0_0 a0_1 a0_2 l0_3 a0_0 a0_1 a0_2 x283003_1 = some (r1, r2, r3, r4)) ∧ Aside0 (kq ≤ k) ∧ Aside0 (Kd.R k33 33 w' w.heap.size (fun k_ => k_ ≠ gb281 ∧ k_ ≠ gb282) u283003 x283003_1) ∧ Aside0 (w'.heap[gb280]? = some (.cells #[.int .i64 a0_0, .int .i64 a0_1, .string a0_2, (.slice A0_3 l0_3.length c0_3)] 24 (0, 0))) ∧ Aside0 (w'.heap[gb281]? = some (.cells #[.int .i64 0, .int .i64 0, .string (⟨#[]⟩ : ByteArray), (.slice none 0 0)] 33 (0, 0))) ∧ Aside0 (w'.heap[gb282]? = some (.cells #[.int .i64 a0_0, .int .i64 a0_1, .string a0_2, u283003] 33 (0, 0))) ∧ Aside0 (Below w.heap.size w w'))
 case atStart => exact ⟨(0), (([] : List (S33))), (.slice none 0 0), (by first | rfl | (simp; done) | (simp [*]; done) | (simp [bne_nil_, beq_nil_]; done)), H', ⟨Nat.le_refl _⟩, ⟨by first | exact Kd.R_nil _ _ _ _ _ | exact Kd.N_nil _ _ _ _ _ | exact Kd.V_nil _ _ _ _ _ | exact Kd.Q_nil _ _ _ _ _ | exact Kd.S_nil _ _ _ _ _⟩, ⟨by (with_reducible repeat (first | refine blk_drewN ?_ _ | refine blk_drew ?_ | refine blk_alloc ?_ _)); refine blk_far ?_ NB280_282.out _; (with_reducible repeat (first | refine blk_drewN ?_ _ | refine blk_drew ?_ | refine blk_alloc ?_ _)); refine blk_far ?_ NB280_282.out _; (with_reducible repeat (first | refine blk_drewN ?_ _ | refine blk_drew ?_ | refine blk_alloc ?_ _)); refine blk_far ?_ NB280_282.out _; (with_reducible repeat (first | refine blk_drewN ?_ _ | refine blk_drew ?_ | refine blk_alloc ?_ _)); refine blk_far ?_ NB280_282.out _; (with_reducible repeat (first | refine blk_drewN ?_ _ | refine blk_drew ?_ | refine blk_alloc ?_ _)); exact BK280.out⟩, ⟨by (with_reducible repeat (first | refine blk_drewN ?_ _ | refine blk_drew ?_ | refine blk_alloc ?_ _)); refine blk_far ?_ NB281_282.out _; (with_reducible repeat (first | refine blk_drewN ?_ _ | refine blk_drew ?_ | refine blk_alloc ?_ _)); refine blk_far ?_ NB281_282.out _; (with_reducible repeat (first | refine blk_drewN ?_ _ | refine blk_drew ?_ | refine blk_alloc ?_ _)); refine blk_far ?_ NB281_282.out _; (with_reducible repeat (first | refine blk_drewN ?_ _ | refine blk_drew ?_ | refine blk_alloc ?_ _)); refine blk_far ?_ NB281_282.out _; (with_reducible repeat (first | refine blk_drewN ?_ _ | refine blk_drew ?_ | refine blk_alloc ?_ _)); exact BK281.out⟩, ⟨by (with_reducible repeat (first | refine blk_drewN ?_ _ | refine blk_drew ?_ | refine blk_alloc ?_ _)); refine blk_put (cs := #[.int .i64 a0_0, .int .i64 a0_1, .string a0_2, .slice none 0 0]) ?_ 3 _ rfl; (with_reducible repeat (first | refine blk_drewN ?_ _ | refine blk_drew ?_ | refine blk_alloc ?_ _)); refine blk_put (cs := #[.int .i64 a0_0, .int .i64 a0_1, .string (⟨#[]⟩ : ByteArray), .slice none 0 0]) ?_ 2 _ rfl; (with_reducible repeat (first | refine blk_drewN ?_ _ | refine blk_drew ?_ | refine blk_alloc ?_ _)); refine blk_put (cs := #[.int .i64 a0_0, .int .i64 0, .string (⟨#[]⟩ : ByteArray), .slice none 0 0]) ?_ 1 _ rfl; (with_reducible repeat (first | refine blk_drewN ?_ _ | refine blk_drew ?_ | refine blk_alloc ?_ _)); refine blk_put (cs := #[.int .i64 0, .int .i64 0, .string (⟨#[]⟩ : ByteArray), .slice none 0 0]) ?_ 0 _ rfl; (with_reducible repeat (first | refine blk_drewN ?_ _ | refine blk_drew ?_ | refine blk_alloc ?_ _)); exact BK282.out⟩, ⟨by repeat (first | (with_reducible first | exact HB.out | apply bA | apply bN | apply bD | refine bS ?_ (by assumption)) | exact HB.out)⟩⟩
 case round =>
  clear H'
  try clear p2
  try clear c4
  try clear c7
  try clear c8
  try clear c9
  try clear hcz5_0
  try clear hcz5_1
  try clear hcz5_2
  try clear hcz5_3
  try clear hcz9_0
  try clear hcz9_1
  try clear hcz9_2
  try clear hcz9_3
  try clear hfz5_0
  try clear hfz5_1
  try clear hfz5_2
  try clear hfz5_3
  try clear hfz9_0
  try clear hfz9_1
  try clear hfz9_2
  try clear hfz9_3
  obtain ⟨x4_1, x283003_1, u283003, rfl, HA, HK1, HO_283003, BK280, BK281, BK282, HB⟩ := hrel
  cases gk with
  | zero => exact absurd HA.out (by simp [furrowlaw5_Of.l0])
  | succ k1 =>
   have H := HA.out
   clear HA
   simp only [furrowlaw5_Of.l0] at H
   by_cases c10 : x4_1 < (l0_3.length : Int)
   ·rw [if_pos c10] at H
    have c10b0 : decide (x4_1 < (l0_3.length : Int)) = true := decide_eq_true c10
    clear c10
    by_cases c11 : 0 ≤ x4_1
    ·rw [if_pos c11] at H
     have c11b0 : decide (0 ≤ x4_1) = true := decide_eq_true c11
     clear c11
     replace H := Option.bind_eq_some_iff.mp H
     obtain ⟨⟨t284, t285, t286, t287⟩, A120, H⟩ := H
     replace H : (if x283003_1.length < 2513169434916 then (furrowlaw5_Of.l0 k1 (wrap64 (x4_1 + 1)) a0_0 a0_1 a0_2 l0_3 a0_0 a0_1 a0_2 (x283003_1 ++ [(⟨t284, t285, t286, t287⟩ : S33)])) else (none)) = some (r1, r2, r3, r4) := H
     have A12 := mk0 A120
     clear A120
     by_cases c13 : x283003_1.length < 2513169434916
     ·rw [if_pos c13] at H
      have LMc13 := mk0 c13
      clear c13
      obtain ⟨y290, hy290⟩ : ∃ y_ : List (S33), y_ = (x283003_1 ++ [(⟨t284, t285, t286, t287⟩ : S33)]) := ⟨_, rfl⟩
      replace H : (furrowlaw5_Of.l0 k1 (wrap64 (x4_1 + 1)) a0_0 a0_1 a0_2 l0_3 a0_0 a0_1 a0_2 y290) = some (r1, r2, r3, r4) := by first | (rw [hy290]; with_reducible exact H) | (have H2_ := (Option.bind_some _ _).symm.trans H; rw [hy290]; with_reducible exact H2_) | (have H2_ := (Option.bind_some _ _).symm.trans H; with_reducible exact H2_) | with_reducible exact H | (rw [hy290]; exact H) | exact H
      have Ny290 := mk0 hy290
      clear hy290
      have H' := mk0 H
      clear H
      have hnb14 := NB280_281.out
      have hnc14 := NB281_280.out
      have hnb15 := NB280_282.out
      have hnc15 := NB282_280.out
      have hcz16_0 : wr.cell? ⟨gb280, 0, none⟩ = some (.int .i64 a0_0) := (blk_cell BK280.out 0).trans rfl
      have hcz16_1 : wr.cell? ⟨gb280, 1, none⟩ = some (.int .i64 a0_1) := (blk_cell BK280.out 1).trans rfl
      have hcz16_2 : wr.cell? ⟨gb280, 2, none⟩ = some (.string a0_2) := (blk_cell BK280.out 2).trans rfl
      have hcz16_3 : wr.cell? ⟨gb280, 3, none⟩ = some (.slice A0_3 l0_3.length c0_3) := (blk_cell BK280.out 3).trans rfl
      have hfz16_0 := blk_frozen BK280.out 0
      have hfz16_1 := blk_frozen BK280.out 1
      have hfz16_2 := blk_frozen BK280.out 2
      have hfz16_3 := blk_frozen BK280.out 3
      try go_wp2
      have n0_ := mk0 (Kd.R_drew HO_283003.out)
      have n1_ := mk0 (blk_drew BK280.out)
      have n2_ := mk0 (blk_drew BK281.out)
      have n3_ := mk0 (blk_drew BK282.out)
      have n4_ := mk0 (below_drew1 HB.out)
      clear HO_283003
      clear BK280
      clear BK281
      clear BK282
      clear HB
      have HO_283003 := n0_
      have BK280 := n1_
      have BK281 := n2_
      have BK282 := n3_
      have HB := n4_
      clear n0_ n1_ n2_ n3_ n4_
      have p283 : 0 ≤ (x4_1 : Int) := of_decide_eq_true (by first | (with_reducible assumption) | assumption)
      have q283 : x4_1 < (l0_3.length : Int) := of_decide_eq_true (by first | (with_reducible assumption) | assumption)
      obtain ⟨ad283, A283_3, c283_3, e283, hx283_0, hx283_1, hx283_2, hx283_3, hl283_3, hi283_3⟩ := at_T24 HR0_3.out x4_1 p283 q283
      have hw283_3 := hx283_3
      have hw283_2 := hx283_2
      have hw283_1 := hx283_1
      have hw283_0 := hx283_0
      cases e283
      replace hx283_0 := (HB.out.cell (World.block_lt_of_cell? w _ hx283_0)).trans hx283_0
      replace hx283_1 := (HB.out.cell (World.block_lt_of_cell? w _ hx283_1)).trans hx283_1
      replace hx283_2 := (HB.out.cell (World.block_lt_of_cell? w _ hx283_2)).trans hx283_2
      replace hx283_3 := (HB.out.cell (World.block_lt_of_cell? w _ hx283_3)).trans hx283_3
      have HR283_3 := mk0 hi283_3
      have HC283_3 := mk0 hl283_3
      clear hi283_3 hl283_3
      replace p283 := eq_true p283
      replace q283 := eq_true q283
      refine start_ (n := 12) (S := fun w' => w'.cell? ⟨gb282, 0, none⟩ = some (.int .i64 a0_0) ∧ w'.cell? ⟨gb282, 1, none⟩ = some (.int .i64 a0_1) ∧ w'.cell? ⟨gb282, 2, none⟩ = some (.string a0_2) ∧ w'.cell? ⟨gb282, 3, none⟩ = some (u283003) ∧ w'.cell? ⟨gb280, 0, none⟩ = some (.int .i64 a0_0) ∧ w'.cell? ⟨gb280, 1, none⟩ = some (.int .i64 a0_1) ∧ w'.cell? ⟨gb280, 2, none⟩ = some (.string a0_2) ∧ w'.cell? ⟨gb280, 3, none⟩ = some (.slice (some ad283) l0_3.length c0_3) ∧ w'.cell? (ad283.add ((x4_1).toNat * 4)) = some (.int .i64 ((rd_T24 l0_3 x4_1).f0)) ∧ w'.cell? ⟨(ad283.add ((x4_1).toNat * 4)).block, (ad283.add ((x4_1).toNat * 4)).off + 1, none⟩ = some (.int .i64 ((rd_T24 l0_3 x4_1).f1)) ∧ w'.cell? ⟨(ad283.add ((x4_1).toNat * 4)).block, (ad283.add ((x4_1).toNat * 4)).off + 2, none⟩ = some (.string ((rd_T24 l0_3 x4_1).f2)) ∧ w'.cell? ⟨(ad283.add ((x4_1).toNat * 4)).block, (ad283.add ((x4_1).toNat * 4)).off + 3, none⟩ = some (.slice A283_3 ((rd_T24 l0_3 x4_1).f3).length c283_3)) (ds := [11]) #[false, false, false, false, false, false, false, false, false, false, false, false] (by kernel_rfl) rfl rfl ⟨(blk_cell BK282.out 0).trans rfl, (blk_cell BK282.out 1).trans rfl, (blk_cell BK282.out 2).trans rfl, (blk_cell BK282.out 3).trans rfl, (blk_cell BK280.out 0).trans rfl, (blk_cell BK280.out 1).trans rfl, (blk_cell BK280.out 2).trans rfl, (blk_cell BK280.out 3).trans rfl, ((HB.out.cell (World.block_lt_of_cell? w _ hw283_0)).trans hw283_0), ((HB.out.cell (World.block_lt_of_cell? w _ hw283_1)).trans hw283_1), ((HB.out.cell (World.block_lt_of_cell? w _ hw283_2)).trans hw283_2), ((HB.out.cell (World.block_lt_of_cell? w _ hw283_3)).trans hw283_3)⟩ (fun hHeld => ?_); refine with_tabW furrowlaw5_Of.tab5 furrowlaw5_Of.bits5 (fun HT_ HW_ => ?_)
      generalize wr.drew = w17 at HO_283003 BK280 BK281 BK282 HB HR283_3 hx283_0 hx283_1 hx283_2 hx283_3 hHeld ⊢
      refine pure_ (i := 0) (N := some 19) (v := ?_) (a' := ?_) #[true, false, false, false, false, false, false, false, false, false, false, false] rfl rfl (any_of HT_.out (by kernel_rfl)) (fun _ _ _ h => h) (Or.inl ⟨by rfl, ?_⟩) ?_ ?_
      rotate_left
      ·intro w'
       go_simp
       with_reducible rfl
      rotate_left
      ·simp only [Act.put, List.setIfInBounds_toArray, List.set_cons_zero, List.set_cons_succ, i64_w, i32_w]
       rfl
      refine pure_ (i := 2) (N := some 21) (v := ?_) (a' := ?_) #[true, false, true, false, false, false, false, false, false, false, false, false] rfl rfl (any_of HT_.out (by kernel_rfl)) (fun _ _ _ h => h) (Or.inl ⟨by rfl, ?_⟩) ?_ ?_
      rotate_left
      ·intro w'
       go_simp
       with_reducible rfl
      rotate_left
      ·simp only [Act.put, List.setIfInBounds_toArray, List.set_cons_zero, List.set_cons_succ, i64_w, i32_w]
       rfl
      refine pure_ (i := 4) (N := some 23) (v := ?_) (a' := ?_) #[true, false, true, false, true, false, false, false, false, false, false, false] rfl rfl (any_of HT_.out (by kernel_rfl)) (fun _ _ _ h => h) (Or.inl ⟨by rfl, ?_⟩) ?_ ?_
      rotate_left
      ·intro w'
       go_simp
       with_reducible rfl
      rotate_left
      ·simp only [Act.put, List.setIfInBounds_toArray, List.set_cons_zero, List.set_cons_succ, i64_w, i32_w]
       rfl
      refine take_ (i := 1) (N := some 20) (v := ?_) (a' := ?_) #[true, true, true, false, true, false, false, false, false, false, false, false] rfl rfl (take_ofW HT_.out HW_.out (by kernel_rfl)) (fun _ _ _ h => h) (Or.inl ⟨by rfl, ?_⟩) hHeld ?_ ?_
      rotate_left
      ·rintro w' ⟨s0, s1, s2, s3, s4, s5, s6, s7, s8, s9, s10, s11⟩
       go_simp
       with_reducible rfl
      rotate_left
      ·simp only [Act.put, List.setIfInBounds_toArray, List.set_cons_zero, List.set_cons_succ, i64_w, i32_w]
       rfl
      refine take_ (i := 3) (N := some 22) (v := ?_) (a' := ?_) #[true, true, true, true, true, false, false, false, false, false, false, false] rfl rfl (take_ofW HT_.out HW_.out (by kernel_rfl)) (fun _ _ _ h => h) (Or.inl ⟨by rfl, ?_⟩) hHeld ?_ ?_
      rotate_left
      ·rintro w' ⟨s0, s1, s2, s3, s4, s5, s6, s7, s8, s9, s10, s11⟩
       go_simp
       with_reducible rfl
      rotate_left
      ·simp only [Act.put, List.setIfInBounds_toArray, List.set_cons_zero, List.set_cons_succ, i64_w, i32_w]
       rfl
      refine pure_ (i := 5) (N := some 24) (v := ?_) (a' := ?_) #[true, true, true, true, true, true, false, false, false, false, false, false] rfl rfl (any_of HT_.out (by kernel_rfl)) (fun _ _ _ h => h) (Or.inl ⟨by rfl, ?_⟩) ?_ ?_
      rotate_left
      ·intro w'
       go_simp
       with_reducible rfl
      rotate_left
      ·simp only [Act.put, List.setIfInBounds_toArray, List.set_cons_zero, List.set_cons_succ, i64_w, i32_w]
       rfl
      refine take_ (i := 6) (N := some 25) (v := ?_) (a' := ?_) #[true, true, true, true, true, true, true, false, false, false, false, false] rfl rfl (take_ofW HT_.out HW_.out (by kernel_rfl)) (fun _ _ _ h => h) (Or.inl ⟨by rfl, ?_⟩) hHeld ?_ ?_
      rotate_left
      ·rintro w' ⟨s0, s1, s2, s3, s4, s5, s6, s7, s8, s9, s10, s11⟩
       go_simp
       with_reducible rfl
      rotate_left
      ·simp only [Act.put, List.setIfInBounds_toArray, List.set_cons_zero, List.set_cons_succ, i64_w, i32_w]
       rfl
      refine one_ (i := 7) (N := some 26) #[true, true, true, true, true, true, true, true, false, false, false, false] rfl rfl (one_of HT_.out (by kernel_rfl)) (by decide) (fun K hK => ?_)
      refine goes_ Tryd.func9 (by kernel_rfl) rfl #[.agg #[.int .i64 ((rd_T24 l0_3 x4_1).f0), .int .i64 ((rd_T24 l0_3 x4_1).f1), .string ((rd_T24 l0_3 x4_1).f2), .slice A283_3 ((rd_T24 l0_3 x4_1).f3).length c283_3]] (by rfl) rfl rfl (by (try simp only [List.map_toArray, List.map_cons, List.map_nil]); first | done | rfl | (simp only [List.length_drop, List.length_take]; rfl)) ?_
      with_reducible refine (ih k1 (by have := HK1.out; omega) ((rd_T24 l0_3 x4_1).f0) ((rd_T24 l0_3 x4_1).f1) ((rd_T24 l0_3 x4_1).f2) _ _ ((rd_T24 l0_3 x4_1).f3) t284 t285 t286 t287 _ ?side1 ?side2 A12.out).mono ?_
      (case side1 => repeat (first | exact (Kd.C_below HR283_3.out HB.out) | (with_reducible refine Kd.C_alloc ?_ _) | (with_reducible refine Kd.C_drewN ?_ _) | (with_reducible refine Kd.C_drew ?_)))
      (case side2 => exact HC283_3.out)
      rintro e w18 ⟨v288, rfl, ho0, hb⟩
      refine ⟨_, rfl, ?_⟩
      have n0_ := mk0 (Kd.R_elder' (uR HO_283003.out) (Kd.R_base ho0) hb)
      have n1_ := mk0 (Kd.R_lower (Kd.R_newB (Kd.R_newB (Kd.R_new' ho0 (Kd.R_lt (uR HO_283003.out))) (g := gb281) (o := .cells #[.int .i64 0, .int .i64 0, .string (⟨#[]⟩ : ByteArray), .slice none 0 0] 33 (0, 0)) (uB BK281.out)) (g := gb282) (o := .cells #[.int .i64 a0_0, .int .i64 a0_1, .string a0_2, u283003] 33 (0, 0)) (uB BK282.out)) (below_size (by repeat (first | (with_reducible first | exact HB.out | apply bA | apply bN | apply bD | refine bS ?_ (by assumption)) | exact HB.out))))
      have n2_ := mk0 (blk_below (g := gb280) (o := .cells #[.int .i64 a0_0, .int .i64 a0_1, .string a0_2, .slice (some ad283) l0_3.length c0_3] 24 (0, 0)) (uB BK280.out) hb)
      have n3_ := mk0 (blk_below (g := gb281) (o := .cells #[.int .i64 0, .int .i64 0, .string (⟨#[]⟩ : ByteArray), .slice none 0 0] 33 (0, 0)) (uB BK281.out) hb)
      have n4_ := mk0 (blk_below (g := gb282) (o := .cells #[.int .i64 a0_0, .int .i64 a0_1, .string a0_2, u283003] 33 (0, 0)) (uB BK282.out) hb)
      have n5_ := mk0 (below_step (by repeat (first | (with_reducible first | exact HB.out | apply bA | apply bN | apply bD | refine bS ?_ (by assumption)) | exact HB.out)) hb)
      clear HO_283003
      clear BK280
      clear BK281
      clear BK282
      clear HB
      have HO_283003 := n0_
      have HO289 := n1_
      have BK280 := n2_
      have BK281 := n3_
      have BK282 := n4_
      have HB := n5_
      clear n0_ n1_ n2_ n3_ n4_ n5_
      (try clear hb)
      (try clear hb2)
      (try clear hk)
      (try clear hi)
      (try clear ho0)
      obtain ⟨Ao20, co20, eo20⟩ := Kd.R_slice HO289.out
      (first | subst eo20 | (injection eo20 with f1_ f2_ f3_; have f4_ := f1_.symm; have f5_ := f3_.symm; clear f1_ f2_ f3_; subst f4_; subst f5_))
      refine hK.out _ _ ⟨(blk_cell BK282.out 0).trans rfl, (blk_cell BK282.out 1).trans rfl, (blk_cell BK282.out 2).trans rfl, (blk_cell BK282.out 3).trans rfl, (blk_cell BK280.out 0).trans rfl, (blk_cell BK280.out 1).trans rfl, (blk_cell BK280.out 2).trans rfl, (blk_cell BK280.out 3).trans rfl, ((HB.out.cell (World.block_lt_of_cell? w _ hw283_0)).trans hw283_0), ((HB.out.cell (World.block_lt_of_cell? w _ hw283_1)).trans hw283_1), ((HB.out.cell (World.block_lt_of_cell? w _ hw283_2)).trans hw283_2), ((HB.out.cell (World.block_lt_of_cell? w _ hw283_3)).trans hw283_3)⟩ (fun hHeld => ?_)
      clear hK K
      refine norm_ (a' := ?_) ?_ ?_
      rotate_left
      ·show Act.put _ (some 26) _ = _
       simp only [Act.put, List.setIfInBounds_toArray, List.set_cons_zero, List.set_cons_succ, i64_w, i32_w]
       rfl
      refine one_ (i := 8) (N := some 27) #[true, true, true, true, true, true, true, true, true, false, false, false] rfl rfl (one_of HT_.out (by kernel_rfl)) (by decide) (fun K hK => ?_)
      refine value_ (w1 := ?_) (v := ?_) (by rfl) rfl ?_ ?_
      rotate_left 2
      ·go_simp
       constructor
       ·rfl
       ·rfl
      refine hK.out _ _ ⟨(blk_cell (blk_alloc BK282.out _) 0).trans rfl, (blk_cell (blk_alloc BK282.out _) 1).trans rfl, (blk_cell (blk_alloc BK282.out _) 2).trans rfl, (blk_cell (blk_alloc BK282.out _) 3).trans rfl, (blk_cell (blk_alloc BK280.out _) 0).trans rfl, (blk_cell (blk_alloc BK280.out _) 1).trans rfl, (blk_cell (blk_alloc BK280.out _) 2).trans rfl, (blk_cell (blk_alloc BK280.out _) 3).trans rfl, (World.cell?_alloc_lt _ _ _ (World.block_lt_of_cell? _ _ (((HB.out.cell (World.block_lt_of_cell? w _ hw283_0)).trans hw283_0)))).trans (((HB.out.cell (World.block_lt_of_cell? w _ hw283_0)).trans hw283_0)), (World.cell?_alloc_lt _ _ _ (World.block_lt_of_cell? _ _ (((HB.out.cell (World.block_lt_of_cell? w _ hw283_1)).trans hw283_1)))).trans (((HB.out.cell (World.block_lt_of_cell? w _ hw283_1)).trans hw283_1)), (World.cell?_alloc_lt _ _ _ (World.block_lt_of_cell? _ _ (((HB.out.cell (World.block_lt_of_cell? w _ hw283_2)).trans hw283_2)))).trans (((HB.out.cell (World.block_lt_of_cell? w _ hw283_2)).trans hw283_2)), (World.cell?_alloc_lt _ _ _ (World.block_lt_of_cell? _ _ (((HB.out.cell (World.block_lt_of_cell? w _ hw283_3)).trans hw283_3)))).trans (((HB.out.cell (World.block_lt_of_cell? w _ hw283_3)).trans hw283_3))⟩ (fun hHeld => ?_)
      clear hK K
      refine norm_ (a' := ?_) ?_ ?_
      rotate_left
      ·show Act.put _ (some 27) _ = _
       simp only [Act.put, List.setIfInBounds_toArray, List.set_cons_zero, List.set_cons_succ, i64_w, i32_w]
       rfl
      refine one_ (i := 9) (N := some 28) #[true, true, true, true, true, true, true, true, true, true, false, false] rfl rfl (one_of HT_.out (by kernel_rfl)) (by decide) (fun K hK => ?_)
      refine Kd.R_append_step k33 (w0 := w) w.heap.size (by rfl) (.tmp 20) (.tmp 27) 31 33 (.agg #[(.int .i64 0), (.int .i64 0), (.string ⟨#[]⟩), (.slice none 0 0)]) 56 rfl Tryd.underlying31 info33 rfl (by decide) (by omega) u283003 x283003_1 (⟨t284, t285, t286, t287⟩ : S33) [.int .i64 t284, .int .i64 t285, .string t286, .slice Ao20 t287.length co20] (fun k_ => k_ ≠ gb281 ∧ k_ ≠ gb282) (fun k_ => ((fun k_ => k_ ≠ gb281 ∧ k_ ≠ gb282)) k_ ∧ some k_ ≠ (u283003 : Value).ownBlock) rfl rfl ?aP (fun _ hk => hk) ?aF ?aO ?aB ?aS ?aL ?_
      (case aP => exact k33_mkM _ _ _ (⟨t284, t285, t286, t287⟩ : S33) (Kd.R_mono (HO289.out) (fun k_ hk => ⟨⟨hk.1.2, hk.2⟩, hk.1.1.2⟩)))
      (case aB => exact (by repeat (first | (with_reducible first | exact HB.out | apply bA | apply bN | apply bD | refine bS ?_ (by assumption)) | exact HB.out)))
      (case aF => exact (fun k_ hk => ⟨Kd.freshB (g := gb281) (o := .cells #[.int .i64 0, .int .i64 0, .string (⟨#[]⟩ : ByteArray), .slice none 0 0] 33 (0, 0)) (uB BK281.out) k_ hk, Kd.freshB (g := gb282) (o := .cells #[.int .i64 a0_0, .int .i64 a0_1, .string a0_2, u283003] 33 (0, 0)) (uB BK282.out) k_ hk⟩))
      (case aO => exact (uR (Kd.R_mono HO_283003.out (fun _ hk => ⟨hk.1.1, hk.1.2⟩))))
      (case aS => exact (below_size (by repeat (first | (with_reducible first | exact HB.out | apply bA | apply bN | apply bD | refine bS ?_ (by assumption)) | exact HB.out))))
      (case aL => have := LMc13.out; omega)
      intro v291 w19 ho hb hg hat
      rw [← Ny290.out] at ho
      have n0_ := mk0 (blk_grown (g := gb280) (o := .cells #[.int .i64 a0_0, .int .i64 a0_1, .string a0_2, .slice (some ad283) l0_3.length c0_3] 24 (0, 0)) (uB BK280.out) hg (Kd.R_ne HO_283003.out BK280.out (by decide)))
      have n1_ := mk0 (blk_grown (g := gb281) (o := .cells #[.int .i64 0, .int .i64 0, .string (⟨#[]⟩ : ByteArray), .slice none 0 0] 33 (0, 0)) (uB BK281.out) hg (Kd.R_away HO_283003.out (fun _ hk => hk.1.1)))
      have n2_ := mk0 (blk_grown (g := gb282) (o := .cells #[.int .i64 a0_0, .int .i64 a0_1, .string a0_2, u283003] 33 (0, 0)) (uB BK282.out) hg (Kd.R_away HO_283003.out (fun _ hk => hk.1.2)))
      have n3_ := mk0 (hb)
      have n4_ := mk0 (ho)
      clear BK280
      clear BK281
      clear BK282
      clear HB
      clear HO_283003
      clear HO289
      have BK280 := n0_
      have BK281 := n1_
      have BK282 := n2_
      have HB := n3_
      have HO292 := n4_
      clear n0_ n1_ n2_ n3_ n4_
      clear ho hb hg hat
      obtain ⟨Ao21, co21, eo21⟩ := Kd.R_slice HO292.out
      (first | subst eo21 | (injection eo21 with f1_ f2_ f3_; have f4_ := f1_.symm; have f5_ := f3_.symm; clear f1_ f2_ f3_; subst f4_; subst f5_))
      refine hK.out _ _ ⟨(blk_cell BK282.out 0).trans rfl, (blk_cell BK282.out 1).trans rfl, (blk_cell BK282.out 2).trans rfl, (blk_cell BK282.out 3).trans rfl, (blk_cell BK280.out 0).trans rfl, (blk_cell BK280.out 1).trans rfl, (blk_cell BK280.out 2).trans rfl, (blk_cell BK280.out 3).trans rfl, ((HB.out.cell (World.block_lt_of_cell? w _ hw283_0)).trans hw283_0), ((HB.out.cell (World.block_lt_of_cell? w _ hw283_1)).trans hw283_1), ((HB.out.cell (World.block_lt_of_cell? w _ hw283_2)).trans hw283_2), ((HB.out.cell (World.block_lt_of_cell? w _ hw283_3)).trans hw283_3)⟩ (fun hHeld => ?_)
      clear hK K
      refine norm_ (a' := ?_) ?_ ?_
      rotate_left
      ·show Act.put _ (some 28) _ = _
       simp only [Act.put, List.setIfInBounds_toArray, List.set_cons_zero, List.set_cons_succ, i64_w, i32_w]
       rfl
      refine pure_ (i := 10) (N := some 29) (v := ?_) (a' := ?_) #[true, true, true, true, true, true, true, true, true, true, true, false] rfl rfl (any_of HT_.out (by kernel_rfl)) (fun _ _ _ h => h) (Or.inl ⟨by rfl, ?_⟩) ?_ ?_
      rotate_left
      ·intro w'
       go_simp
       with_reducible rfl
      rotate_left
      ·simp only [Act.put, List.setIfInBounds_toArray, List.set_cons_zero, List.set_cons_succ, i64_w, i32_w]
       rfl
      refine last_ (i := 11) (N := none) #[true, true, true, true, true, true, true, true, true, true, true, true] rfl rfl (one_of HT_.out (by kernel_rfl)) (by decide) (fun K hK => ?_)
      have hs22 : w19.cell? ⟨gb282, 3, none⟩ = some (u283003) := (blk_cell BK282.out 3).trans rfl
      have hfs22 := blk_frozen BK282.out 3
      have hns22_0 := NB280_282.out
      have hns22_1 := NB281_282.out
      have hms22_0 := NB282_280.out
      have hms22_1 := NB282_281.out
      refine skip_ (w1 := ?_) (by rfl) rfl ?_ ?_
      rotate_left
      ·go_simp
       rfl
      refine hK.out _ _ ?_
      clear hK K
      refine done_ (done_of HT_.out (by kernel_rfl)) ?_
      try go_wp2
      go_roundg k1
      case measure => have := HK1.out; omega
      case rel => exact ⟨(wrap64 (x4_1 + 1)), (y290), (.slice Ao21 y290.length co21), (by first | rfl | (simp; done) | (simp [*]; done) | (simp [bne_nil_, beq_nil_]; done)), H', ⟨by have := HK1.out; omega⟩, ⟨uR (Kd.R_mono (Kd.R_far (p := ⟨gb282, 3, none⟩) (Kd.R_mono HO292.out (fun k_ hk => (⟨hk, hk.2⟩ : _ ∧ k_ ≠ gb282))) (fun _ hk => hk.2) (.slice Ao21 y290.length co21)) (fun _ hk => ⟨hk.1.1, hk.1.2⟩))⟩, ⟨by (with_reducible repeat (first | refine blk_drewN ?_ _ | refine blk_drew ?_ | refine blk_alloc ?_ _)); refine blk_far ?_ NB280_282.out _; (with_reducible repeat (first | refine blk_drewN ?_ _ | refine blk_drew ?_ | refine blk_alloc ?_ _)); exact BK280.out⟩, ⟨by (with_reducible repeat (first | refine blk_drewN ?_ _ | refine blk_drew ?_ | refine blk_alloc ?_ _)); refine blk_far ?_ NB281_282.out _; (with_reducible repeat (first | refine blk_drewN ?_ _ | refine blk_drew ?_ | refine blk_alloc ?_ _)); exact BK281.out⟩, ⟨by (with_reducible repeat (first | refine blk_drewN ?_ _ | refine blk_drew ?_ | refine blk_alloc ?_ _)); refine blk_put (cs := #[.int .i64 a0_0, .int .i64 a0_1, .string a0_2, u283003]) ?_ 3 _ rfl; (with_reducible repeat (first | refine blk_drewN ?_ _ | refine blk_drew ?_ | refine blk_alloc ?_ _)); exact BK282.out⟩, ⟨by repeat (first | (with_reducible first | exact HB.out | apply bA | apply bN | apply bD | refine bS ?_ (by assumption)) | exact HB.out)⟩⟩
     ·rw [if_neg c13] at H
      exact absurd H (by simp)
    ·rw [if_neg c11] at H
     exact absurd H (by simp)
   ·rw [if_neg c10] at H
    have c10b0 : decide (x4_1 < (l0_3.length : Int)) = false := decide_eq_false c10
    clear c10
    simp only [Option.some.injEq, Prod.mk.injEq] at H
    obtain ⟨rfl, rfl, rfl, rfl⟩ := H
    have hnb23 := NB280_281.out
    have hnc23 := NB281_280.out
    have hnb24 := NB280_282.out
    have hnc24 := NB282_280.out
    have hcz25_0 : wr.cell? ⟨gb280, 0, none⟩ = some (.int .i64 a0_0) := (blk_cell BK280.out 0).trans rfl
    have hcz25_1 : wr.cell? ⟨gb280, 1, none⟩ = some (.int .i64 a0_1) := (blk_cell BK280.out 1).trans rfl
    have hcz25_2 : wr.cell? ⟨gb280, 2, none⟩ = some (.string a0_2) := (blk_cell BK280.out 2).trans rfl
    have hcz25_3 : wr.cell? ⟨gb280, 3, none⟩ = some (.slice A0_3 l0_3.length c0_3) := (blk_cell BK280.out 3).trans rfl
    have hfz25_0 := blk_frozen BK280.out 0
    have hfz25_1 := blk_frozen BK280.out 1
    have hfz25_2 := blk_frozen BK280.out 2
    have hfz25_3 := blk_frozen BK280.out 3
    have hnb26 := NB282_281.out
    have hnc26 := NB281_282.out
    have hcz27_0 : wr.cell? ⟨gb282, 0, none⟩ = some (.int .i64 a0_0) := (blk_cell BK282.out 0).trans rfl
    have hcz27_1 : wr.cell? ⟨gb282, 1, none⟩ = some (.int .i64 a0_1) := (blk_cell BK282.out 1).trans rfl
    have hcz27_2 : wr.cell? ⟨gb282, 2, none⟩ = some (.string a0_2) := (blk_cell BK282.out 2).trans rfl
    have hcz27_3 : wr.cell? ⟨gb282, 3, none⟩ = some (u283003) := (blk_cell BK282.out 3).trans rfl
    have hfz27_0 := blk_frozen BK282.out 0
    have hfz27_1 := blk_frozen BK282.out 1
    have hfz27_2 := blk_frozen BK282.out 2
    have hfz27_3 := blk_frozen BK282.out 3
    have hcz28_0 : wr.cell? ⟨gb281, 0, none⟩ = some (.int .i64 0) := (blk_cell BK281.out 0).trans rfl
    have hcz28_1 : wr.cell? ⟨gb281, 1, none⟩ = some (.int .i64 0) := (blk_cell BK281.out 1).trans rfl
    have hcz28_2 : wr.cell? ⟨gb281, 2, none⟩ = some (.string (⟨#[]⟩ : ByteArray)) := (blk_cell BK281.out 2).trans rfl
    have hcz28_3 : wr.cell? ⟨gb281, 3, none⟩ = some (.slice none 0 0) := (blk_cell BK281.out 3).trans rfl
    have hfz28_0 := blk_frozen BK281.out 0
    have hfz28_1 := blk_frozen BK281.out 1
    have hfz28_2 := blk_frozen BK281.out 2
    have hfz28_3 := blk_frozen BK281.out 3
    obtain ⟨Ao29, co29, eo29⟩ := Kd.R_slice HO_283003.out
    subst eo29
    go_wp2
    refine bodyPost_ret (results_cell_row rfl _ _ gb281 33 #[.int .i64 a0_0, .int .i64 a0_1, .string a0_2, .slice Ao29 x283003_1.length co29] (0, 0) _ rfl (by (with_reducible repeat (first | refine blk_drewN ?_ _ | refine blk_drew ?_ | refine blk_alloc ?_ _)); refine blk_put (cs := #[.int .i64 a0_0, .int .i64 a0_1, .string a0_2, .slice none 0 0]) ?_ 3 _ rfl; (with_reducible repeat (first | refine blk_drewN ?_ _ | refine blk_drew ?_ | refine blk_alloc ?_ _)); refine blk_put (cs := #[.int .i64 a0_0, .int .i64 a0_1, .string (⟨#[]⟩ : ByteArray), .slice none 0 0]) ?_ 2 _ rfl; (with_reducible repeat (first | refine blk_drewN ?_ _ | refine blk_drew ?_ | refine blk_alloc ?_ _)); refine blk_put (cs := #[.int .i64 a0_0, .int .i64 0, .string (⟨#[]⟩ : ByteArray), .slice none 0 0]) ?_ 1 _ rfl; (with_reducible repeat (first | refine blk_drewN ?_ _ | refine blk_drew ?_ | refine blk_alloc ?_ _)); refine blk_put (cs := #[.int .i64 0, .int .i64 0, .string (⟨#[]⟩ : ByteArray), .slice none 0 0]) ?_ 0 _ rfl; (with_reducible repeat (first | refine blk_drewN ?_ _ | refine blk_drew ?_ | refine blk_alloc ?_ _)); exact BK281.out) Tryd.underlying33 rfl (by kernel_rfl)) rfl ?_
    exact ⟨_, by first | rfl | (simp [errW_none, errW_some] <;> rfl) | (simp [*, errW_none, errW_some] <;> rfl), uR (Kd.R_mono (Kd.R_far (p := ⟨gb281, 3, none⟩) (Kd.R_far (p := ⟨gb281, 2, none⟩) (Kd.R_far (p := ⟨gb281, 1, none⟩) (Kd.R_far (p := ⟨gb281, 0, none⟩) (Kd.R_mono HO_283003.out (fun k_ hk => (⟨hk, hk.1⟩ : _ ∧ k_ ≠ gb281))) (fun _ hk => hk.2) (.int .i64 a0_0)) (fun _ hk => hk.2) (.int .i64 a0_1)) (fun _ hk => hk.2) (.string a0_2)) (fun _ hk => hk.2) (.slice Ao29 x283003_1.length co29)) (fun _ hk => trivial)), by repeat (first | (with_reducible first | exact HB.out | apply bA | apply bN | apply bD | refine bS ?_ (by assumption)) | exact HB.out)⟩

end Go.Proofs.YtmhkijidnpihmaaDoor.X
