-- PRINTED by print.py (a twelfth state) out of the translation. Not trusted: Lean checks it.
import Derived.Test.YtkkpgjkjkcmcbaaDoorXx0
import Derived.Test.YtkkpgjkjkcmcbaaDoorXx8
namespace Go.Proofs.YtkkpgjkjkcmcbaaDoor.X
open Go.Proofs.YtkkpgjkjkcmcbaaDoor.Flt Go.Proofs.YtkkpgjkjkcmcbaaDoor.H Go.RowKit Go.Proofs.YtkkpgjkjkcmcbaaDoorW.PrintWords Go.Proofs.YtkkpgjkjkcmcbaaDoorW.PrintLast Go.Proofs.YtkkpgjkjkcmcbaaDoorW.PrintMore
attribute [local go_sem] max2_int min2_int max_two min_two max_three min_three max_four min_four   -- for this text's walks alone
set_option linter.unusedVariables false
set_option linter.unusedSimpArgs false

/-! ### furrowlaw15_Of: function 9 -/
mutual
def furrowlaw15_Of.l0 : Nat → Int → Int → List (S59) → List (S59) → Int → List (S65) → Option (Int × (List (S65)) × (List (S65)))
 | 0, _, _, _, _, _, _ => none
 | k + 1, x4, x348000, x348001, x348002, x350000, x350001 => if x4 < (x348001.length : Int) then (if 0 ≤ x4 then ((furrowlaw11_Of.f ((rd_T59 x348001 x4).f0) ((rd_T59 x348001 x4).f1)).bind fun bt351 => (if x350001.length < 4398046511104 then (furrowlaw15_Of.l0 k (wrap64 (x4 + 1)) x348000 x348001 x348002 x350000 (x350001 ++ [(⟨bt351.1, bt351.2⟩ : S65)])) else (none))) else (none)) else (furrowlaw15_Of.l1 k 0 x348000 x348001 x348002 x350000 x350001 ([] : List (S65)))
def furrowlaw15_Of.l1 : Nat → Int → Int → List (S59) → List (S59) → Int → List (S65) → List (S65) → Option (Int × (List (S65)) × (List (S65)))
 | 0, _, _, _, _, _, _, _ => none
 | k + 1, x5, x348000, x348001, x348002, x350000, x350001, x350002 => if x5 < (x348002.length : Int) then (if 0 ≤ x5 then ((furrowlaw11_Of.f ((rd_T59 x348002 x5).f0) ((rd_T59 x348002 x5).f1)).bind fun bt359 => (if x350002.length < 4398046511104 then (furrowlaw15_Of.l1 k (wrap64 (x5 + 1)) x348000 x348001 x348002 x350000 x350001 (x350002 ++ [(⟨bt359.1, bt359.2⟩ : S65)])) else (none))) else (none)) else (some (x350000, x350001, x350002))
end
def furrowlaw15_Of.f (k : Nat) (a0_0 : Int) (l0_1 : List (S59)) (l0_2 : List (S59)) : Option (Int × (List (S65)) × (List (S65))) := furrowlaw15_Of.l0 k 0 a0_0 l0_1 l0_2 a0_0 ([] : List (S65))
theorem furrowlaw15_Of.mono_l : ∀ k, (∀ y0 y1 y2 y3 y4 y5, LeO (furrowlaw15_Of.l0 k y0 y1 y2 y3 y4 y5) (furrowlaw15_Of.l0 (k + 1) y0 y1 y2 y3 y4 y5)) ∧ (∀ y0 y1 y2 y3 y4 y5 y6, LeO (furrowlaw15_Of.l1 k y0 y1 y2 y3 y4 y5 y6) (furrowlaw15_Of.l1 (k + 1) y0 y1 y2 y3 y4 y5 y6))
 | 0 => ⟨fun _ _ _ _ _ _ r h => by simp [furrowlaw15_Of.l0] at h, fun _ _ _ _ _ _ _ r h => by simp [furrowlaw15_Of.l1] at h⟩
 | k + 1 => by
  obtain ⟨ih0, ih1⟩ := furrowlaw15_Of.mono_l k
  refine ⟨?_, ?_⟩
  ·intro y0 y1 y2 y3 y4 y5
   unfold furrowlaw15_Of.l0
   repeat' first
   | (with_reducible exact ih0 _ _ _ _ _ _)
   | (with_reducible exact ih1 _ _ _ _ _ _ _)
   | (with_reducible exact LeO.refl _)
   | (with_reducible exact LeO.none _)
   | (with_reducible refine LeO.ite ?_ ?_)
   | (with_reducible refine LeO.bind ?_ (fun _ => ?_))
   | exact ih0 _ _ _ _ _ _
   | exact ih1 _ _ _ _ _ _ _
   | exact LeO.none _
   | refine LeO.ite ?_ ?_
   | refine LeO.bind ?_ (fun _ => ?_)
  ·intro y0 y1 y2 y3 y4 y5 y6
   unfold furrowlaw15_Of.l1
   repeat' first
   | (with_reducible exact ih0 _ _ _ _ _ _)
   | (with_reducible exact ih1 _ _ _ _ _ _ _)
   | (with_reducible exact LeO.refl _)
   | (with_reducible exact LeO.none _)
   | (with_reducible refine LeO.ite ?_ ?_)
   | (with_reducible refine LeO.bind ?_ (fun _ => ?_))
   | exact ih0 _ _ _ _ _ _
   | exact ih1 _ _ _ _ _ _ _
   | exact LeO.none _
   | refine LeO.ite ?_ ?_
   | refine LeO.bind ?_ (fun _ => ?_)
theorem furrowlaw15_Of.mono : ∀ a0 a1 a2 k, LeO (furrowlaw15_Of.f k a0 a1 a2) (furrowlaw15_Of.f (k + 1) a0 a1 a2) := by
 intro a0 a1 a2 k
 obtain ⟨ih0, ih1⟩ := furrowlaw15_Of.mono_l k
 unfold furrowlaw15_Of.f
 repeat' first
   | (with_reducible exact ih0 _ _ _ _ _ _)
   | (with_reducible exact ih1 _ _ _ _ _ _ _)
   | (with_reducible exact LeO.refl _)
   | (with_reducible exact LeO.none _)
   | (with_reducible refine LeO.ite ?_ ?_)
   | (with_reducible refine LeO.bind ?_ (fun _ => ?_))
   | exact ih0 _ _ _ _ _ _
   | exact ih1 _ _ _ _ _ _ _
   | exact LeO.none _
   | refine LeO.ite ?_ ?_
   | refine LeO.bind ?_ (fun _ => ?_)
def furrowlaw15_Of.T5 : Bool × List (List Nat × List Nat) := (true, [([], []), ([0], [0]), ([], []), ([2], [2]), ([], []), ([3, 4], [3, 4]), ([5], [5]), ([6], [6]), ([7], [7]), ([1, 8, 7], [1, 8]), ([0, 1, 2, 3, 4, 5, 6, 7, 8, 9], []), ([10, 9, 9, 0, 1, 2, 3, 4, 5, 6, 7, 8, 9], [9, 10])])
def furrowlaw15_Of.B5 : List Nat := [0, 1, 0, 4, 0, 28, 60, 124, 252, 511, 1023, 2047]
theorem furrowlaw15_Of.tab5 : rtab .any (opsOf Tryd.f9 5) = furrowlaw15_Of.T5 := by kernel_rfl
theorem furrowlaw15_Of.bits5 : waitsOk furrowlaw15_Of.T5.2 furrowlaw15_Of.B5 = true := by kernel_rfl
def furrowlaw15_Of.T9 : Bool × List (List Nat × List Nat) := (true, [([], []), ([0], [0]), ([], []), ([2], [2]), ([], []), ([3, 4], [3, 4]), ([5], [5]), ([6], [6]), ([7], [7]), ([1, 8, 7], [1, 8]), ([0, 1, 2, 3, 4, 5, 6, 7, 8, 9], []), ([10, 9, 9, 0, 1, 2, 3, 4, 5, 6, 7, 8, 9], [9, 10])])
def furrowlaw15_Of.B9 : List Nat := [0, 1, 0, 4, 0, 28, 60, 124, 252, 511, 1023, 2047]
theorem furrowlaw15_Of.tab9 : rtab .any (opsOf Tryd.f9 9) = furrowlaw15_Of.T9 := by kernel_rfl
theorem furrowlaw15_Of.bits9 : waitsOk furrowlaw15_Of.T9.2 furrowlaw15_Of.B9 = true := by kernel_rfl
set_option maxHeartbeats 8000000 in
set_option maxRecDepth 100000 in
theorem furrowlaw15_Of.calls (k : Nat) (a0_0 : Int) (P0_1_ : Nat → Prop) (A0_1 : Option Addr) (c0_1 : Nat) (l0_1 : List (S59)) (P0_2_ : Nat → Prop) (A0_2 : Option Addr) (c0_2 : Nat) (l0_2 : List (S59)) (r1 : Int) (r2 : List (S65)) (r3 : List (S65)) (w : World) (hs0_1 : Kd.V k59 59 w w.heap.size (fun k_ => P0_1_ k_) (.slice A0_1 l0_1.length c0_1) l0_1) (hs0_2 : Kd.V k59 59 w w.heap.size (fun k_ => P0_2_ k_) (.slice A0_2 l0_2.length c0_2) l0_2) (h : furrowlaw15_Of.f k a0_0 l0_1 l0_2 = some (r1, r2, r3)) :
  Calls Tryd.prog 9 #[.agg #[.int .i64 a0_0, .slice A0_1 l0_1.length c0_1, .slice A0_2 l0_2.length c0_2]] w fun e w' => ∃ v1_ v2_ : Value, e = .returned (.agg #[.int .i64 r1, v1_, v2_]) ∧ Kd.N k65 65 w' w.heap.size (fun k_ => ((P0_1_ k_ ∨ P0_2_ k_) ∨ w.heap.size ≤ k_) ∧ some k_ ≠ (v2_ : Value).ownBlock) v1_ r2 ∧ Kd.N k65 65 w' w.heap.size (fun k_ => ((P0_1_ k_ ∨ P0_2_ k_) ∨ w.heap.size ≤ k_) ∧ some k_ ≠ (v1_ : Value).ownBlock) v2_ r3 ∧ Below w.heap.size w w' := by
 have hu24 := Tryd.underlying24
 have hu34 := Tryd.underlying34
 have hu59 := Tryd.underlying59
 have HO0_1 := mk0 (show Kd.V k59 59 w w.heap.size (fun k_ => ((P0_1_ k_ ∨ P0_2_ k_) ∨ w.heap.size ≤ k_)) (.slice A0_1 l0_1.length c0_1) l0_1 from Kd.V_mono hs0_1 (fun k_ hk => .inl (.inl hk)))
 have HO0_2 := mk0 (show Kd.V k59 59 w w.heap.size (fun k_ => ((P0_1_ k_ ∨ P0_2_ k_) ∨ w.heap.size ≤ k_)) (.slice A0_2 l0_2.length c0_2) l0_2 from Kd.V_mono hs0_2 (fun k_ hk => .inl (.inr hk)))
 have HB := mk0 (Below.refl w.heap.size w)
 have H : (furrowlaw15_Of.l0 k 0 a0_0 l0_1 l0_2 a0_0 ([] : List (S65))) = some (r1, r2, r3) := h
 clear h
 have H' := mk0 H
 clear H
 go_enter Tryd.func9, Tryd.ntmps9
 go_wp2_with (first | ((with_reducible refine gate_dst (N := 1) rfl ?_); refine bxE 1 #[.int .i64 a0_0, .slice A0_1 l0_1.length c0_1, .slice A0_2 l0_2.length c0_2] 24 ?_; intro gb347 hg w2 hbox hb; replace HO0_1 := mk0 (Kd.V_below (Kd.V_elderB (uV HO0_1.out) gb347 (Nat.le_of_eq hg.symm)) hb); replace HO0_2 := mk0 (Kd.V_below (Kd.V_elderB (uV HO0_2.out) gb347 (Nat.le_of_eq hg.symm)) hb); have BK347 := mk0 (hbox); have GW347 := mk0 ((by rw [hg]; exact (below_size (uL HB.out)) : w.heap.size ≤ gb347)); have GE347 := mk0 ((by rw [hg]; exact (below_size (uL HB.out)) : w.heap.size ≤ gb347)); replace HB := hbB (uL HB.out) hb; clear hb hbox hg) | ((with_reducible refine gate_dst (N := 2) rfl ?_); refine bxE 2 #[.int .i64 0, .slice none 0 0, .slice none 0 0] 34 ?_; intro gb348 hg w3 hbox hb; replace HO0_1 := mk0 (Kd.V_below (Kd.V_elderB (uV HO0_1.out) gb348 (Nat.le_of_eq hg.symm)) hb); replace HO0_2 := mk0 (Kd.V_below (Kd.V_elderB (uV HO0_2.out) gb348 (Nat.le_of_eq hg.symm)) hb); have BK348 := mk0 (hbox); have GW348 := mk0 ((by rw [hg]; exact (below_size bH) : w.heap.size ≤ gb348)); have GE348 := mk0 ((by rw [hg]; exact (below_size bH) : w.heap.size ≤ gb348)); replace HB := hbB bH hb; have NB347_348 := mk0 ((by rw [hg]; exact Nat.ne_of_lt (blk_lt (g := gb347) (o := .cells #[.int .i64 a0_0, .slice A0_1 l0_1.length c0_1, .slice A0_2 l0_2.length c0_2] 24 (0, 0)) (uB BK347.out)) : gb347 ≠ gb348)); have NB348_347 := mk0 ((by rw [hg]; exact Nat.ne_of_gt (blk_lt (g := gb347) (o := .cells #[.int .i64 a0_0, .slice A0_1 l0_1.length c0_1, .slice A0_2 l0_2.length c0_2] 24 (0, 0)) (uB BK347.out)) : gb348 ≠ gb347)); replace BK347 := bB BK347 hb; clear hb hbox hg; have hnb4 := NB347_348.out; have hnc4 := NB348_347.out; obtain ⟨hcz5_0, hcz5_1, hcz5_2, hfz5_0, hfz5_1, hfz5_2⟩ := cL3 BK347) | ((with_reducible refine gate_dst (N := 3) rfl ?_); refine bxE 3 #[.int .i64 0, .slice none 0 0, .slice none 0 0] 34 ?_; intro gb349 hg w6 hbox hb; replace HO0_1 := mk0 (Kd.V_below (Kd.V_elderB (uV HO0_1.out) gb349 (Nat.le_of_eq hg.symm)) hb); replace HO0_2 := mk0 (Kd.V_below (Kd.V_elderB (uV HO0_2.out) gb349 (Nat.le_of_eq hg.symm)) hb); have BK349 := mk0 (hbox); have GW349 := mk0 ((by rw [hg]; exact (below_size bH) : w.heap.size ≤ gb349)); have GE349 := mk0 ((by rw [hg]; exact (below_size bH) : w.heap.size ≤ gb349)); replace HB := hbB bH hb; have NB347_349 := mk0 ((by rw [hg]; exact Nat.ne_of_lt (blk_lt (g := gb347) (o := .cells #[.int .i64 a0_0, .slice A0_1 l0_1.length c0_1, .slice A0_2 l0_2.length c0_2] 24 (0, 0)) (uB BK347.out)) : gb347 ≠ gb349)); have NB349_347 := mk0 ((by rw [hg]; exact Nat.ne_of_gt (blk_lt (g := gb347) (o := .cells #[.int .i64 a0_0, .slice A0_1 l0_1.length c0_1, .slice A0_2 l0_2.length c0_2] 24 (0, 0)) (uB BK347.out)) : gb349 ≠ gb347)); replace BK347 := bB BK347 hb; have NB348_349 := mk0 ((by rw [hg]; exact Nat.ne_of_lt (blk_lt (g := gb348) (o := .cells #[.int .i64 0, .slice none 0 0, .slice none 0 0] 34 (0, 0)) (uB BK348.out)) : gb348 ≠ gb349)); have NB349_348 := mk0 ((by rw [hg]; exact Nat.ne_of_gt (blk_lt (g := gb348) (o := .cells #[.int .i64 0, .slice none 0 0, .slice none 0 0] 34 (0, 0)) (uB BK348.out)) : gb349 ≠ gb348)); replace BK348 := bB BK348 hb; clear hb hbox hg; have hnb7 := NB349_347.out; have hnc7 := NB347_349.out; have hnb8 := NB349_348.out; have hnc8 := NB348_349.out; obtain ⟨hcz9_0, hcz9_1, hcz9_2, hfz9_0, hfz9_1, hfz9_2⟩ := cL3 BK349))
 go_loopg [4] k (fun kq v4 w' => ∃ (x4_1 : Int) (x350001_1 : List (S65)) (u350001 : Value), v4 = .int .i64 x4_1 ∧ Aside0 (furrowlaw15_Of.l0 kq x4_1 a0_0 l0_1 l0_2 a0_0 x350001_1 = some (r1, r2, r3)) ∧ Aside0 (kq ≤ k) ∧ Aside0 (Kd.V k59 59 w' w.heap.size (fun k_ => ((P0_1_ k_ ∨ P0_2_ k_) ∨ w.heap.size ≤ k_) ∧ some k_ ≠ (u350001 : Value).ownBlock ∧ k_ ≠ gb347 ∧ k_ ≠ gb348 ∧ k_ ≠ gb349) (.slice A0_1 l0_1.length c0_1) l0_1) ∧ Aside0 (Kd.V k59 59 w' w.heap.size (fun k_ => ((P0_1_ k_ ∨ P0_2_ k_) ∨ w.heap.size ≤ k_) ∧ some k_ ≠ (u350001 : Value).ownBlock ∧ k_ ≠ gb347 ∧ k_ ≠ gb348 ∧ k_ ≠ gb349) (.slice A0_2 l0_2.length c0_2) l0_2) ∧ Aside0 (Kd.N k65 65 w' w.heap.size (fun k_ => ((P0_1_ k_ ∨ P0_2_ k_) ∨ w.heap.size ≤ k_) ∧ k_ ≠ gb347 ∧ k_ ≠ gb348 ∧ k_ ≠ gb349) u350001 x350001_1) ∧ Aside0 (w'.heap[gb347]? = some (.cells #[.int .i64 a0_0, (.slice A0_1 l0_1.length c0_1), (.slice A0_2 l0_2.length c0_2)] 24 (0, 0))) ∧ Aside0 (w'.heap[gb348]? = some (.cells #[.int .i64 0, (.slice none 0 0), (.slice none 0 0)] 34 (0, 0))) ∧ Aside0 (w'.heap[gb349]? = some (.cells #[.int .i64 a0_0, u350001, (.slice none 0 0)] 34 (0, 0))) ∧ Aside0 (Below w.heap.size w w'))
 case atStart => exact ⟨(0), (([] : List (S65))), (.slice none 0 0), (by first | rfl | (simp; done) | (simp [*]; done) | (simp [bne_nil_, beq_nil_]; done)), H', ⟨Nat.le_refl _⟩, ⟨uV (Kd.V_mono (Kd.V_far (p := ⟨gb349, 2, none⟩) (Kd.V_far (p := ⟨gb349, 1, none⟩) (Kd.V_far (p := ⟨gb349, 0, none⟩) (Kd.V_mono HO0_1.out (fun k_ hk => (⟨hk, hk.2⟩ : _ ∧ k_ ≠ gb349))) (fun _ hk => hk.2) (.int .i64 a0_0)) (fun _ hk => hk.2) (.slice none 0 0)) (fun _ hk => hk.2) (.slice none 0 0)) (fun _ hk => ⟨hk.1.1.1.1, ⟨(by simp [Value.ownBlock]), ⟨hk.1.1.1.2, ⟨hk.1.1.2, hk.1.2⟩⟩⟩⟩))⟩, ⟨uV (Kd.V_mono (Kd.V_far (p := ⟨gb349, 2, none⟩) (Kd.V_far (p := ⟨gb349, 1, none⟩) (Kd.V_far (p := ⟨gb349, 0, none⟩) (Kd.V_mono HO0_2.out (fun k_ hk => (⟨hk, hk.2⟩ : _ ∧ k_ ≠ gb349))) (fun _ hk => hk.2) (.int .i64 a0_0)) (fun _ hk => hk.2) (.slice none 0 0)) (fun _ hk => hk.2) (.slice none 0 0)) (fun _ hk => ⟨hk.1.1.1.1, ⟨(by simp [Value.ownBlock]), ⟨hk.1.1.1.2, ⟨hk.1.1.2, hk.1.2⟩⟩⟩⟩))⟩, ⟨by first | exact Kd.S_nil _ _ _ _ _ | exact Kd.N_nil _ _ _ _ _ | exact Kd.V_nil _ _ _ _ _ | exact Kd.Q_nil _ _ _ _ _ | exact Kd.R_nil _ _ _ _ _⟩, ⟨by (with_reducible repeat (first | refine blk_drewN ?_ _ | refine blk_drew ?_ | refine blk_alloc ?_ _)); refine blk_far ?_ NB347_349.out _; (with_reducible repeat (first | refine blk_drewN ?_ _ | refine blk_drew ?_ | refine blk_alloc ?_ _)); refine blk_far ?_ NB347_349.out _; (with_reducible repeat (first | refine blk_drewN ?_ _ | refine blk_drew ?_ | refine blk_alloc ?_ _)); refine blk_far ?_ NB347_349.out _; (with_reducible repeat (first | refine blk_drewN ?_ _ | refine blk_drew ?_ | refine blk_alloc ?_ _)); exact BK347.out⟩, ⟨by (with_reducible repeat (first | refine blk_drewN ?_ _ | refine blk_drew ?_ | refine blk_alloc ?_ _)); refine blk_far ?_ NB348_349.out _; (with_reducible repeat (first | refine blk_drewN ?_ _ | refine blk_drew ?_ | refine blk_alloc ?_ _)); refine blk_far ?_ NB348_349.out _; (with_reducible repeat (first | refine blk_drewN ?_ _ | refine blk_drew ?_ | refine blk_alloc ?_ _)); refine blk_far ?_ NB348_349.out _; (with_reducible repeat (first | refine blk_drewN ?_ _ | refine blk_drew ?_ | refine blk_alloc ?_ _)); exact BK348.out⟩, ⟨by (with_reducible repeat (first | refine blk_drewN ?_ _ | refine blk_drew ?_ | refine blk_alloc ?_ _)); refine blk_put (cs := #[.int .i64 a0_0, .slice none 0 0, .slice none 0 0]) ?_ 2 _ rfl; (with_reducible repeat (first | refine blk_drewN ?_ _ | refine blk_drew ?_ | refine blk_alloc ?_ _)); refine blk_put (cs := #[.int .i64 a0_0, .slice none 0 0, .slice none 0 0]) ?_ 1 _ rfl; (with_reducible repeat (first | refine blk_drewN ?_ _ | refine blk_drew ?_ | refine blk_alloc ?_ _)); refine blk_put (cs := #[.int .i64 0, .slice none 0 0, .slice none 0 0]) ?_ 0 _ rfl; (with_reducible repeat (first | refine blk_drewN ?_ _ | refine blk_drew ?_ | refine blk_alloc ?_ _)); exact BK349.out⟩, ⟨bH⟩⟩
 case round =>
  clear H'
  try clear p2
  try clear c4
  try clear c7
  try clear c8
  try clear c9
  try clear hcz5_0
  try clear hcz5_1
  try clear hcz5_2
  try clear hcz9_0
  try clear hcz9_1
  try clear hcz9_2
  try clear hfz5_0
  try clear hfz5_1
  try clear hfz5_2
  try clear hfz9_0
  try clear hfz9_1
  try clear hfz9_2
  obtain ⟨x4_1, x350001_1, u350001, rfl, HA, HK1, HO_348001, HO_348002, HO_350001, BK347, BK348, BK349, HB⟩ := hrel
  cases gk with
  | zero => exact absurd HA.out (by simp [furrowlaw15_Of.l0])
  | succ k1 =>
   have H := HA.out
   clear HA
   simp only [furrowlaw15_Of.l0] at H
   by_cases c10 : x4_1 < (l0_1.length : Int)
   ·rw [if_pos c10] at H
    have c10b0 : decide (x4_1 < (l0_1.length : Int)) = true := decide_eq_true c10
    clear c10
    by_cases c11 : 0 ≤ x4_1
    ·rw [if_pos c11] at H
     have c11b0 : decide (0 ≤ x4_1) = true := decide_eq_true c11
     clear c11
     replace H := Option.bind_eq_some_iff.mp H
     obtain ⟨⟨t351, t354⟩, A120, H⟩ := H
     dsimp only at H
     have A12 := mk0 A120
     clear A120
     by_cases c13 : x350001_1.length < 4398046511104
     ·rw [if_pos c13] at H
      have LMc13 := mk0 c13
      clear c13
      obtain ⟨y355, hy355⟩ : ∃ y_ : List (S65), y_ = (x350001_1 ++ [(⟨t351, t354⟩ : S65)]) := ⟨_, rfl⟩
      replace H : (furrowlaw15_Of.l0 k1 (wrap64 (x4_1 + 1)) a0_0 l0_1 l0_2 a0_0 y355) = some (r1, r2, r3) := by first | (rw [hy355]; with_reducible exact H) | (have H2_ := (Option.bind_some _ _).symm.trans H; rw [hy355]; with_reducible exact H2_) | (have H2_ := (Option.bind_some _ _).symm.trans H; with_reducible exact H2_) | with_reducible exact H | (rw [hy355]; exact H) | exact H
      have Ny355 := mk0 hy355
      clear hy355
      have H' := mk0 H
      clear H
      have hnb14 := NB347_348.out
      have hnc14 := NB348_347.out
      have hnb15 := NB347_349.out
      have hnc15 := NB349_347.out
      obtain ⟨hcz16_0, hcz16_1, hcz16_2, hfz16_0, hfz16_1, hfz16_2⟩ := cL3 BK347
      try go_wp2
      replace HO_348001 := mk0 (Kd.V_drew HO_348001.out)
      replace HO_348002 := mk0 (Kd.V_drew HO_348002.out)
      replace HO_350001 := mk0 (Kd.N_drew HO_350001.out)
      replace BK347 := mk0 (blk_drew BK347.out)
      replace BK348 := mk0 (blk_drew BK348.out)
      replace BK349 := mk0 (blk_drew BK349.out)
      replace HB := mk0 (below_drew1 HB.out)
      have p350 : 0 ≤ (x4_1 : Int) := of_decide_eq_true (by first | (with_reducible assumption) | assumption)
      have q350 : x4_1 < (l0_1.length : Int) := of_decide_eq_true (by first | (with_reducible assumption) | assumption)
      obtain ⟨ad350, A350_0, c350_0, e350, hx350_0, hx350_1, hl350_0, hi350_0⟩ := at_T59 (Kd.V_reads' HO_348001.out).2.2 x4_1 p350 q350
      cases e350
      obtain ⟨ce350, hce350, hMe350, hcc350⟩ := Kd.V_get HO_348001.out z59 x4_1 p350 (by first | exact q350 | exact of_decide_eq_true (by first | (with_reducible assumption) | assumption) | (have e_ := (Kd.V_reads' HO_348001.out).1; omega))
      obtain ⟨ua350_0, uc350_0, rfl, ul350_0, ge350_0⟩ := k59_openF hMe350
      have hv350_0 := hcc350 0 _ rfl
      rw [Nat.add_zero] at hv350_0
      replace hv350_0 := Option.some.inj (hv350_0.symm.trans hx350_0)
      injection hv350_0 with hva_ hvn_ hvc_
      rw [hva_] at ge350_0
      rw [hvc_] at ul350_0
      have HL350_0 := mk0 (show Kd.V (Kd.int .i64) 2 _ w.heap.size _ _ ((rd_T59 l0_1 x4_1).f0) from Kd.V_mk ul350_0 ge350_0)
      clear hva_ hvn_ hvc_ ge350_0 ul350_0
      clear hcc350 hce350
      have HR350_0 := mk0 hi350_0
      have HC350_0 := mk0 hl350_0
      clear hi350_0 hl350_0
      replace p350 := eq_true p350
      replace q350 := eq_true q350
      refine start_ (n := 12) (S := fun w' => w'.cell? ⟨gb349, 0, none⟩ = some (.int .i64 a0_0) ∧ w'.cell? ⟨gb349, 1, none⟩ = some (u350001) ∧ w'.cell? ⟨gb349, 2, none⟩ = some (.slice none 0 0) ∧ w'.cell? ⟨gb347, 0, none⟩ = some (.int .i64 a0_0) ∧ w'.cell? ⟨gb347, 1, none⟩ = some (.slice (some ad350) l0_1.length c0_1) ∧ w'.cell? ⟨gb347, 2, none⟩ = some (.slice A0_2 l0_2.length c0_2) ∧ w'.cell? (ad350.add ((x4_1).toNat * 2)) = some (.slice A350_0 ((rd_T59 l0_1 x4_1).f0).length c350_0) ∧ w'.cell? ⟨(ad350.add ((x4_1).toNat * 2)).block, (ad350.add ((x4_1).toNat * 2)).off + 1, none⟩ = some (.int .i64 ((rd_T59 l0_1 x4_1).f1))) (ds := [9, 11]) (bts 12 0) (by kernel_rfl) rfl rfl ⟨(blk_cell BK349.out 0).trans rfl, (blk_cell BK349.out 1).trans rfl, (blk_cell BK349.out 2).trans rfl, (blk_cell BK347.out 0).trans rfl, (blk_cell BK347.out 1).trans rfl, (blk_cell BK347.out 2).trans rfl, hx350_0, hx350_1⟩ (fun hHeld => ?_); refine with_tabW furrowlaw15_Of.tab5 furrowlaw15_Of.bits5 (fun HT_ HW_ => ?_)
      generalize wr.drew = w17 at HO_348001 HO_348002 HO_350001 BK347 BK348 BK349 HB HL350_0 HR350_0 hx350_0 hx350_1 hHeld ⊢
      refine pA 0 (some 16) 0 12 1 HT_ ?_
      refine pA 2 (some 18) 1 12 5 HT_ ?_
      refine pA 4 (some 20) 5 12 21 HT_ ?_
      refine tA8 1 (some 17) 21 12 23 HT_ HW_ hHeld ?_
      refine tA8 3 (some 19) 23 12 31 HT_ HW_ hHeld ?_
      refine pA 5 (some 21) 31 12 63 HT_ ?_
      refine tA8 6 (some 22) 63 12 127 HT_ HW_ hHeld ?_
      refine one_ (i := 7) (N := some 23) (bts 12 255) rfl rfl (one_of HT_.out (by kernel_rfl)) (by decide) (fun K hK => ?_)
      refine goes_ Tryd.func24 (by kernel_rfl) rfl #[.agg #[.slice A350_0 ((rd_T59 l0_1 x4_1).f0).length c350_0, .int .i64 ((rd_T59 l0_1 x4_1).f1)]] (by rfl) rfl rfl (by (try simp only [List.map_toArray, List.map_cons, List.map_nil]); first | done | rfl | (simp only [List.length_drop, List.length_take]; rfl)) ?_
      with_reducible refine (furrowlaw11_Of.calls (fun k_ => (((P0_1_ k_ ∨ P0_2_ k_) ∨ w.heap.size ≤ k_) ∧ (some k_ ≠ (u350001 : Value).ownBlock ∧ (k_ ≠ gb347 ∧ (k_ ≠ gb348 ∧ k_ ≠ gb349))))) _ _ ((rd_T59 l0_1 x4_1).f0) ((rd_T59 l0_1 x4_1).f1) t351 t354 _ ?side1 A12.out).mono ?_
      (case side1 => exact HL350_0.out)
      rintro e w18 ⟨v352, rfl, ho0, hb⟩
      have HS6_ := (hb.cell (World.block_lt_of_cell? _ _ (hHeld.2.2.2.2.2.2.1))).trans (hHeld.2.2.2.2.2.2.1)
      have HS7_ := (hb.cell (World.block_lt_of_cell? _ _ (hHeld.2.2.2.2.2.2.2))).trans (hHeld.2.2.2.2.2.2.2)
      refine ⟨_, rfl, ?_⟩
      replace HO_348001 := vB HO_348001 hb
      replace HO_348002 := vB HO_348002 hb
      replace HL350_0 := vB HL350_0 hb
      have HO353 := mk0 (Kd.V_lower (Kd.V_mono (ok' := fun k_ => ((P0_1_ k_ ∨ P0_2_ k_) ∨ w.heap.size ≤ k_) ∧ some k_ ≠ (u350001 : Value).ownBlock ∧ k_ ≠ gb347 ∧ k_ ≠ gb348 ∧ k_ ≠ gb349) ho0 (fun k_ hk_ => ⟨Or.elim hk_ (fun hs_ => hs_.1) (fun hn_ => (.inr (Nat.le_trans (below_size bH) hn_))), Or.elim hk_ (fun hs_ => hs_.2.1) (fun hn_ => (Kd.fresh' (Kd.N_lt (uN HO_350001.out)) k_ hn_)), Or.elim hk_ (fun hs_ => hs_.2.2.1) (fun hn_ => (Kd.freshB (g := gb347) (o := .cells #[.int .i64 a0_0, .slice (some ad350) l0_1.length c0_1, .slice A0_2 l0_2.length c0_2] 24 (0, 0)) (uB BK347.out) k_ hn_)), Or.elim hk_ (fun hs_ => hs_.2.2.2.1) (fun hn_ => (Kd.freshB (g := gb348) (o := .cells #[.int .i64 0, .slice none 0 0, .slice none 0 0] 34 (0, 0)) (uB BK348.out) k_ hn_)), Or.elim hk_ (fun hs_ => hs_.2.2.2.2) (fun hn_ => (Kd.freshB (g := gb349) (o := .cells #[.int .i64 a0_0, u350001, .slice none 0 0] 34 (0, 0)) (uB BK349.out) k_ hn_))⟩)) (below_size bH))
      replace HO_350001 := nB HO_350001 hb
      replace BK347 := bB BK347 hb
      replace BK348 := bB BK348 hb
      replace BK349 := bB BK349 hb
      replace HR350_0 := mk0 (Kd.C_below (by repeat (first | (with_reducible exact HR350_0.out) | (with_reducible refine Kd.C_alloc ?_ _) | (with_reducible refine Kd.C_drewN ?_ _) | (with_reducible refine Kd.C_drew ?_) | exact HR350_0.out)) hb)
      replace HB := hbB bH hb
      (try clear hb)
      (try clear hb2)
      (try clear hk)
      (try clear hi)
      (try clear ho0)
      obtain ⟨Ao20, co20, eo20⟩ := Kd.V_slice HO353.out
      (first | subst eo20 | (injection eo20 with f1_ f2_ f3_; have f4_ := f1_.symm; have f5_ := f3_.symm; clear f1_ f2_ f3_; subst f4_; subst f5_))
      refine hK.out _ _ ⟨(blk_cell BK349.out 0).trans rfl, (blk_cell BK349.out 1).trans rfl, (blk_cell BK349.out 2).trans rfl, (blk_cell BK347.out 0).trans rfl, (blk_cell BK347.out 1).trans rfl, (blk_cell BK347.out 2).trans rfl, HS6_, HS7_⟩ (fun hHeld => ?_)
      clear hK K
      refine norm_ (a' := ?_) ?_ ?_
      rotate_left
      ·show Act.put _ (some 23) _ = _
       simp only [Act.put, List.setIfInBounds_toArray, List.set_cons_zero, List.set_cons_succ, i64_w, i32_w]
       rfl
      refine one_ (i := 8) (N := some 24) (bts 12 511) rfl rfl (one_of HT_.out (by kernel_rfl)) (by decide) (fun K hK => ?_)
      refine value_ (w1 := ?_) (v := ?_) (by rfl) rfl ?_ ?_
      rotate_left 2
      ·go_simp
       constructor
       ·rfl
       ·rfl
      refine hK.out _ _ ⟨(blk_cell (blk_alloc BK349.out _) 0).trans rfl, (blk_cell (blk_alloc BK349.out _) 1).trans rfl, (blk_cell (blk_alloc BK349.out _) 2).trans rfl, (blk_cell (blk_alloc BK347.out _) 0).trans rfl, (blk_cell (blk_alloc BK347.out _) 1).trans rfl, (blk_cell (blk_alloc BK347.out _) 2).trans rfl, (World.cell?_alloc_lt _ _ _ (World.block_lt_of_cell? _ _ (hHeld.2.2.2.2.2.2.1))).trans (hHeld.2.2.2.2.2.2.1), (World.cell?_alloc_lt _ _ _ (World.block_lt_of_cell? _ _ (hHeld.2.2.2.2.2.2.2))).trans (hHeld.2.2.2.2.2.2.2)⟩ (fun hHeld => ?_)
      clear hK K
      refine norm_ (a' := ?_) ?_ ?_
      rotate_left
      ·show Act.put _ (some 24) _ = _
       simp only [Act.put, List.setIfInBounds_toArray, List.set_cons_zero, List.set_cons_succ, i64_w, i32_w]
       rfl
      refine last_ (i := 9) (N := some 25) (bts 12 1023) rfl rfl (one_of HT_.out (by kernel_rfl)) (by decide) (fun K hK => ?_)
      refine Kd.N_append_step k65 (w0 := w) w.heap.size (by rfl) (.tmp 17) (.tmp 24) 32 65 (.agg #[(.slice none 0 0), (.int .i64 0)]) 32 rfl Tryd.underlying32 info65 rfl (by decide) (by omega) u350001 x350001_1 (⟨t351, t354⟩ : S65) [.slice Ao20 t351.length co20, .int .i64 t354] (fun k_ => ((P0_1_ k_ ∨ P0_2_ k_) ∨ w.heap.size ≤ k_) ∧ k_ ≠ gb347 ∧ k_ ≠ gb348 ∧ k_ ≠ gb349) (fun k_ => ((fun k_ => ((P0_1_ k_ ∨ P0_2_ k_) ∨ w.heap.size ≤ k_) ∧ k_ ≠ gb347 ∧ k_ ≠ gb348 ∧ k_ ≠ gb349)) k_ ∧ some k_ ≠ (u350001 : Value).ownBlock) rfl rfl ?aP (fun _ hk => hk) ?aF ?aO ?aB ?aS ?aL ?_
      (case aP => exact (k65_mkF _ _ (⟨t351, t354⟩ : S65) (Kd.V_reads' (Kd.V_mono (ok' := (fun k_ => ((fun k_ => ((P0_1_ k_ ∨ P0_2_ k_) ∨ w.heap.size ≤ k_) ∧ k_ ≠ gb347 ∧ k_ ≠ gb348 ∧ k_ ≠ gb349)) k_ ∧ some k_ ≠ (u350001 : Value).ownBlock)) (HO353.out) (fun k_ hk => ⟨⟨hk.1, ⟨hk.2.2.1, ⟨hk.2.2.2.1, hk.2.2.2.2⟩⟩⟩, hk.2.1⟩))).2.1 (Kd.V_F (Kd.V_mono (ok' := (fun k_ => ((fun k_ => ((P0_1_ k_ ∨ P0_2_ k_) ∨ w.heap.size ≤ k_) ∧ k_ ≠ gb347 ∧ k_ ≠ gb348 ∧ k_ ≠ gb349)) k_ ∧ some k_ ≠ (u350001 : Value).ownBlock)) (HO353.out) (fun k_ hk => ⟨⟨hk.1, ⟨hk.2.2.1, ⟨hk.2.2.2.1, hk.2.2.2.2⟩⟩⟩, hk.2.1⟩)))))
      (case aB => exact bH)
      (case aF => exact (fun k_ hk => ⟨(.inr (Nat.le_trans (below_size bH) hk)), Kd.freshB (g := gb347) (o := .cells #[.int .i64 a0_0, .slice (some ad350) l0_1.length c0_1, .slice A0_2 l0_2.length c0_2] 24 (0, 0)) (uB BK347.out) k_ hk, Kd.freshB (g := gb348) (o := .cells #[.int .i64 0, .slice none 0 0, .slice none 0 0] 34 (0, 0)) (uB BK348.out) k_ hk, Kd.freshB (g := gb349) (o := .cells #[.int .i64 a0_0, u350001, .slice none 0 0] 34 (0, 0)) (uB BK349.out) k_ hk⟩))
      (case aO => exact (uN HO_350001.out))
      (case aS => exact (below_size bH))
      (case aL => have := LMc13.out; omega)
      intro v356 w19 ho hb hg hat
      rw [← Ny355.out] at ho
      have n0_ := mk0 (Kd.V_afterv (ok := (fun k_ => ((P0_1_ k_ ∨ P0_2_ k_) ∨ w.heap.size ≤ k_) ∧ k_ ≠ gb347 ∧ k_ ≠ gb348 ∧ k_ ≠ gb349)) (uV (Kd.V_mono HO_348001.out (fun _ hk => ⟨⟨hk.1, ⟨hk.2.2.1, ⟨hk.2.2.2.1, hk.2.2.2.2⟩⟩⟩, hk.2.1⟩))) hg hat)
      have n1_ := mk0 (Kd.V_afterv (ok := (fun k_ => ((P0_1_ k_ ∨ P0_2_ k_) ∨ w.heap.size ≤ k_) ∧ k_ ≠ gb347 ∧ k_ ≠ gb348 ∧ k_ ≠ gb349)) (uV (Kd.V_mono HO_348002.out (fun _ hk => ⟨⟨hk.1, ⟨hk.2.2.1, ⟨hk.2.2.2.1, hk.2.2.2.2⟩⟩⟩, hk.2.1⟩))) hg hat)
      have n2_ := mk0 (blk_grown (g := gb347) (o := .cells #[.int .i64 a0_0, .slice (some ad350) l0_1.length c0_1, .slice A0_2 l0_2.length c0_2] 24 (0, 0)) (uB BK347.out) hg (Kd.N_ne HO_350001.out BK347.out (by decide)))
      have n3_ := mk0 (blk_grown (g := gb348) (o := .cells #[.int .i64 0, .slice none 0 0, .slice none 0 0] 34 (0, 0)) (uB BK348.out) hg (Kd.N_ne HO_350001.out BK348.out (by decide)))
      have n4_ := mk0 (blk_grown (g := gb349) (o := .cells #[.int .i64 a0_0, u350001, .slice none 0 0] 34 (0, 0)) (uB BK349.out) hg (Kd.N_ne HO_350001.out BK349.out (by decide)))
      have n5_ := mk0 (Kd.V_afterv (ok := (fun k_ => ((P0_1_ k_ ∨ P0_2_ k_) ∨ w.heap.size ≤ k_) ∧ k_ ≠ gb347 ∧ k_ ≠ gb348 ∧ k_ ≠ gb349)) (uV (Kd.V_mono HL350_0.out (fun _ hk => ⟨⟨hk.1, ⟨hk.2.2.1, ⟨hk.2.2.2.1, hk.2.2.2.2⟩⟩⟩, hk.2.1⟩))) hg hat)
      have n6_ := mk0 (Kd.V_afterv (ok := (fun k_ => ((P0_1_ k_ ∨ P0_2_ k_) ∨ w.heap.size ≤ k_) ∧ k_ ≠ gb347 ∧ k_ ≠ gb348 ∧ k_ ≠ gb349)) (uV (Kd.V_mono HO353.out (fun _ hk => ⟨⟨hk.1, ⟨hk.2.2.1, ⟨hk.2.2.2.1, hk.2.2.2.2⟩⟩⟩, hk.2.1⟩))) hg hat)
      have n7_ := mk0 (hb)
      have n8_ := mk0 (ho)
      clear HO_348001
      clear HO_348002
      clear BK347
      clear BK348
      clear BK349
      clear HL350_0
      clear HO353
      clear HB
      clear HO_350001
      have HO_348001 := n0_
      have HO_348002 := n1_
      have BK347 := n2_
      have BK348 := n3_
      have BK349 := n4_
      have HL350_0 := n5_
      have HO353 := n6_
      have HB := n7_
      have HO357 := n8_
      clear n0_ n1_ n2_ n3_ n4_ n5_ n6_ n7_ n8_
      clear ho hb hg hat
      obtain ⟨Ao21, co21, eo21⟩ := Kd.N_slice HO357.out
      (first | subst eo21 | (injection eo21 with f1_ f2_ f3_; have f4_ := f1_.symm; have f5_ := f3_.symm; clear f1_ f2_ f3_; subst f4_; subst f5_))
      refine hK.out _ _ ?_
      clear hK K
      refine norm_ (a' := ?_) ?_ ?_
      rotate_left
      ·show Act.put _ (some 25) _ = _
       simp only [Act.put, List.setIfInBounds_toArray, List.set_cons_zero, List.set_cons_succ, i64_w, i32_w]
       rfl
      refine pA 10 (some 26) 1023 12 2047 HT_ ?_
      refine last_ (i := 11) (N := none) (bts 12 4095) rfl rfl (one_of HT_.out (by kernel_rfl)) (by decide) (fun K hK => ?_)
      have hs22 : w19.cell? ⟨gb349, 1, none⟩ = some (u350001) := (blk_cell BK349.out 1).trans rfl
      have hfs22 := blk_frozen BK349.out 1
      have hns22_0 := NB347_349.out
      have hns22_1 := NB348_349.out
      have hms22_0 := NB349_347.out
      have hms22_1 := NB349_348.out
      refine skip_ (w1 := ?_) (by rfl) rfl ?_ ?_
      rotate_left
      ·go_simp
       rfl
      refine hK.out _ _ ?_
      clear hK K
      refine done_ (done_of HT_.out (by kernel_rfl)) ?_
      try go_wp2
      go_roundg k1
      case measure => have := HK1.out; omega
      case rel => exact ⟨(wrap64 (x4_1 + 1)), (y355), (.slice Ao21 y355.length co21), (by first | rfl | (simp; done) | (simp [*]; done) | (simp [bne_nil_, beq_nil_]; done)), H', ⟨by have := HK1.out; omega⟩, ⟨uV (Kd.V_mono (Kd.V_far (p := ⟨gb349, 1, none⟩) (Kd.V_mono HO_348001.out (fun k_ hk => (⟨hk, hk.1.2.2.2⟩ : _ ∧ k_ ≠ gb349))) (fun _ hk => hk.2) (.slice Ao21 y355.length co21)) (fun _ hk => ⟨hk.1.1.1, ⟨hk.1.2, ⟨hk.1.1.2.1, ⟨hk.1.1.2.2.1, hk.1.1.2.2.2⟩⟩⟩⟩))⟩, ⟨uV (Kd.V_mono (Kd.V_far (p := ⟨gb349, 1, none⟩) (Kd.V_mono HO_348002.out (fun k_ hk => (⟨hk, hk.1.2.2.2⟩ : _ ∧ k_ ≠ gb349))) (fun _ hk => hk.2) (.slice Ao21 y355.length co21)) (fun _ hk => ⟨hk.1.1.1, ⟨hk.1.2, ⟨hk.1.1.2.1, ⟨hk.1.1.2.2.1, hk.1.1.2.2.2⟩⟩⟩⟩))⟩, ⟨uN (Kd.N_mono (Kd.N_far (p := ⟨gb349, 1, none⟩) (Kd.N_mono HO357.out (fun k_ hk => (⟨hk, hk.2.2.2⟩ : _ ∧ k_ ≠ gb349))) (fun _ hk => hk.2) (.slice Ao21 y355.length co21)) (fun _ hk => ⟨hk.1.1, ⟨hk.1.2.1, ⟨hk.1.2.2.1, hk.1.2.2.2⟩⟩⟩))⟩, ⟨by (with_reducible repeat (first | refine blk_drewN ?_ _ | refine blk_drew ?_ | refine blk_alloc ?_ _)); refine blk_far ?_ NB347_349.out _; (with_reducible repeat (first | refine blk_drewN ?_ _ | refine blk_drew ?_ | refine blk_alloc ?_ _)); exact BK347.out⟩, ⟨by (with_reducible repeat (first | refine blk_drewN ?_ _ | refine blk_drew ?_ | refine blk_alloc ?_ _)); refine blk_far ?_ NB348_349.out _; (with_reducible repeat (first | refine blk_drewN ?_ _ | refine blk_drew ?_ | refine blk_alloc ?_ _)); exact BK348.out⟩, ⟨by (with_reducible repeat (first | refine blk_drewN ?_ _ | refine blk_drew ?_ | refine blk_alloc ?_ _)); refine blk_put (cs := #[.int .i64 a0_0, u350001, .slice none 0 0]) ?_ 1 _ rfl; (with_reducible repeat (first | refine blk_drewN ?_ _ | refine blk_drew ?_ | refine blk_alloc ?_ _)); exact BK349.out⟩, ⟨bH⟩⟩
     ·rw [if_neg c13] at H
      exact absurd H (by simp)
    ·rw [if_neg c11] at H
     exact absurd H (by simp)
   ·rw [if_neg c10] at H
    have c10b0 : decide (x4_1 < (l0_1.length : Int)) = false := decide_eq_false c10
    clear c10
    have H' := mk0 H
    clear H
    have hnb23 := NB347_348.out
    have hnc23 := NB348_347.out
    have hnb24 := NB347_349.out
    have hnc24 := NB349_347.out
    obtain ⟨hcz25_0, hcz25_1, hcz25_2, hfz25_0, hfz25_1, hfz25_2⟩ := cL3 BK347
    go_wp2
    go_loopg [5] k1 (fun kq v5 w' => ∃ (x5_2 : Int) (x350002_2 : List (S65)) (u350002 : Value), v5 = .int .i64 x5_2 ∧ Aside0 (furrowlaw15_Of.l1 kq x5_2 a0_0 l0_1 l0_2 a0_0 x350001_1 x350002_2 = some (r1, r2, r3)) ∧ Aside0 (kq ≤ k1) ∧ Aside0 (Kd.V k59 59 w' w.heap.size (fun k_ => ((P0_1_ k_ ∨ P0_2_ k_) ∨ w.heap.size ≤ k_) ∧ some k_ ≠ (u350001 : Value).ownBlock ∧ some k_ ≠ (u350002 : Value).ownBlock ∧ k_ ≠ gb347 ∧ k_ ≠ gb348 ∧ k_ ≠ gb349) (.slice A0_1 l0_1.length c0_1) l0_1) ∧ Aside0 (Kd.V k59 59 w' w.heap.size (fun k_ => ((P0_1_ k_ ∨ P0_2_ k_) ∨ w.heap.size ≤ k_) ∧ some k_ ≠ (u350001 : Value).ownBlock ∧ some k_ ≠ (u350002 : Value).ownBlock ∧ k_ ≠ gb347 ∧ k_ ≠ gb348 ∧ k_ ≠ gb349) (.slice A0_2 l0_2.length c0_2) l0_2) ∧ Aside0 (Kd.N k65 65 w' w.heap.size (fun k_ => ((P0_1_ k_ ∨ P0_2_ k_) ∨ w.heap.size ≤ k_) ∧ some k_ ≠ (u350002 : Value).ownBlock ∧ k_ ≠ gb347 ∧ k_ ≠ gb348 ∧ k_ ≠ gb349) u350001 x350001_1) ∧ Aside0 (Kd.N k65 65 w' w.heap.size (fun k_ => ((P0_1_ k_ ∨ P0_2_ k_) ∨ w.heap.size ≤ k_) ∧ some k_ ≠ (u350001 : Value).ownBlock ∧ k_ ≠ gb347 ∧ k_ ≠ gb348 ∧ k_ ≠ gb349) u350002 x350002_2) ∧ Aside0 (w'.heap[gb347]? = some (.cells #[.int .i64 a0_0, (.slice A0_1 l0_1.length c0_1), (.slice A0_2 l0_2.length c0_2)] 24 (0, 0))) ∧ Aside0 (w'.heap[gb348]? = some (.cells #[.int .i64 0, (.slice none 0 0), (.slice none 0 0)] 34 (0, 0))) ∧ Aside0 (w'.heap[gb349]? = some (.cells #[.int .i64 a0_0, u350001, u350002] 34 (0, 0))) ∧ Aside0 (Below w.heap.size w w'))
    case atStart => exact ⟨(0), (([] : List (S65))), (.slice none 0 0), (by first | rfl | (simp; done) | (simp [*]; done) | (simp [bne_nil_, beq_nil_]; done)), H', ⟨Nat.le_refl _⟩, ⟨uV (Kd.V_mono HO_348001.out (fun _ hk => ⟨hk.1, ⟨hk.2.1, ⟨(by simp [Value.ownBlock]), ⟨hk.2.2.1, ⟨hk.2.2.2.1, hk.2.2.2.2⟩⟩⟩⟩⟩))⟩, ⟨uV (Kd.V_mono HO_348002.out (fun _ hk => ⟨hk.1, ⟨hk.2.1, ⟨(by simp [Value.ownBlock]), ⟨hk.2.2.1, ⟨hk.2.2.2.1, hk.2.2.2.2⟩⟩⟩⟩⟩))⟩, ⟨uN (Kd.N_mono HO_350001.out (fun _ hk => ⟨hk.1, ⟨(by simp [Value.ownBlock]), ⟨hk.2.1, ⟨hk.2.2.1, hk.2.2.2⟩⟩⟩⟩))⟩, ⟨by first | exact Kd.S_nil _ _ _ _ _ | exact Kd.N_nil _ _ _ _ _ | exact Kd.V_nil _ _ _ _ _ | exact Kd.Q_nil _ _ _ _ _ | exact Kd.R_nil _ _ _ _ _⟩, ⟨uB BK347.out⟩, ⟨uB BK348.out⟩, ⟨uB BK349.out⟩, ⟨bH⟩⟩
    case round =>
     clear H'
     try clear c1
     try clear c2
     try clear p2
     try clear c3
     try clear p3
     try clear q3
     try clear hx3
     try clear c4
     try clear p6
     try clear c7
     try clear c8
     try clear c9
     try clear c10
     try clear c10b0
     try clear c11
     try clear c11b0
     try clear c13
     try clear c14
     try clear c15
     try clear c23
     try clear c24
     try clear hcz16_0
     try clear hcz16_1
     try clear hcz16_2
     try clear hcz25_0
     try clear hcz25_1
     try clear hcz25_2
     try clear hcz5_0
     try clear hcz5_1
     try clear hcz5_2
     try clear hcz9_0
     try clear hcz9_1
     try clear hcz9_2
     try clear hfz16_0
     try clear hfz16_1
     try clear hfz16_2
     try clear hfz25_0
     try clear hfz25_1
     try clear hfz25_2
     try clear hfz5_0
     try clear hfz5_1
     try clear hfz5_2
     try clear hfz9_0
     try clear hfz9_1
     try clear hfz9_2
     try clear hx350_0
     try clear hx350_1
     try clear p2
     try clear p350
     try clear q350
     obtain ⟨x5_2, x350002_2, u350002, rfl, HA, HK2, HO_348001, HO_348002, HO_350001, HO_350002, BK347, BK348, BK349, HB⟩ := hrel
     cases gk with
     | zero => exact absurd HA.out (by simp [furrowlaw15_Of.l1])
     | succ k2 =>
      have H := HA.out
      clear HA
      simp only [furrowlaw15_Of.l1] at H
      by_cases c26 : x5_2 < (l0_2.length : Int)
      ·rw [if_pos c26] at H
       have c26b0 : decide (x5_2 < (l0_2.length : Int)) = true := decide_eq_true c26
       clear c26
       by_cases c27 : 0 ≤ x5_2
       ·rw [if_pos c27] at H
        have c27b0 : decide (0 ≤ x5_2) = true := decide_eq_true c27
        clear c27
        replace H := Option.bind_eq_some_iff.mp H
        obtain ⟨⟨t359, t362⟩, A280, H⟩ := H
        dsimp only at H
        have A28 := mk0 A280
        clear A280
        by_cases c29 : x350002_2.length < 4398046511104
        ·rw [if_pos c29] at H
         have LMc29 := mk0 c29
         clear c29
         obtain ⟨y363, hy363⟩ : ∃ y_ : List (S65), y_ = (x350002_2 ++ [(⟨t359, t362⟩ : S65)]) := ⟨_, rfl⟩
         replace H : (furrowlaw15_Of.l1 k2 (wrap64 (x5_2 + 1)) a0_0 l0_1 l0_2 a0_0 x350001_1 y363) = some (r1, r2, r3) := by first | (rw [hy363]; with_reducible exact H) | (have H2_ := (Option.bind_some _ _).symm.trans H; rw [hy363]; with_reducible exact H2_) | (have H2_ := (Option.bind_some _ _).symm.trans H; with_reducible exact H2_) | with_reducible exact H | (rw [hy363]; exact H) | exact H
         have Ny363 := mk0 hy363
         clear hy363
         have H' := mk0 H
         clear H
         have hnb30 := NB347_348.out
         have hnc30 := NB348_347.out
         have hnb31 := NB347_349.out
         have hnc31 := NB349_347.out
         obtain ⟨hcz32_0, hcz32_1, hcz32_2, hfz32_0, hfz32_1, hfz32_2⟩ := cL3 BK347
         try go_wp2
         replace HO_348001 := mk0 (Kd.V_drew HO_348001.out)
         replace HO_348002 := mk0 (Kd.V_drew HO_348002.out)
         replace HO_350001 := mk0 (Kd.N_drew HO_350001.out)
         replace HO_350002 := mk0 (Kd.N_drew HO_350002.out)
         replace BK347 := mk0 (blk_drew BK347.out)
         replace BK348 := mk0 (blk_drew BK348.out)
         replace BK349 := mk0 (blk_drew BK349.out)
         replace HB := mk0 (below_drew1 HB.out)
         have p358 : 0 ≤ (x5_2 : Int) := of_decide_eq_true (by first | (with_reducible assumption) | assumption)
         have q358 : x5_2 < (l0_2.length : Int) := of_decide_eq_true (by first | (with_reducible assumption) | assumption)
         obtain ⟨ad358, A358_0, c358_0, e358, hx358_0, hx358_1, hl358_0, hi358_0⟩ := at_T59 (Kd.V_reads' HO_348002.out).2.2 x5_2 p358 q358
         cases e358
         obtain ⟨ce358, hce358, hMe358, hcc358⟩ := Kd.V_get HO_348002.out z59 x5_2 p358 (by first | exact q358 | exact of_decide_eq_true (by first | (with_reducible assumption) | assumption) | (have e_ := (Kd.V_reads' HO_348002.out).1; omega))
         obtain ⟨ua358_0, uc358_0, rfl, ul358_0, ge358_0⟩ := k59_openF hMe358
         have hv358_0 := hcc358 0 _ rfl
         rw [Nat.add_zero] at hv358_0
         replace hv358_0 := Option.some.inj (hv358_0.symm.trans hx358_0)
         injection hv358_0 with hva_ hvn_ hvc_
         rw [hva_] at ge358_0
         rw [hvc_] at ul358_0
         have HL358_0 := mk0 (show Kd.V (Kd.int .i64) 2 _ w.heap.size _ _ ((rd_T59 l0_2 x5_2).f0) from Kd.V_mk ul358_0 ge358_0)
         clear hva_ hvn_ hvc_ ge358_0 ul358_0
         clear hcc358 hce358
         have HR358_0 := mk0 hi358_0
         have HC358_0 := mk0 hl358_0
         clear hi358_0 hl358_0
         replace p358 := eq_true p358
         replace q358 := eq_true q358
         refine start_ (n := 12) (S := fun w' => w'.cell? ⟨gb349, 0, none⟩ = some (.int .i64 a0_0) ∧ w'.cell? ⟨gb349, 1, none⟩ = some (u350001) ∧ w'.cell? ⟨gb349, 2, none⟩ = some (u350002) ∧ w'.cell? ⟨gb347, 0, none⟩ = some (.int .i64 a0_0) ∧ w'.cell? ⟨gb347, 1, none⟩ = some (.slice A0_1 l0_1.length c0_1) ∧ w'.cell? ⟨gb347, 2, none⟩ = some (.slice (some ad358) l0_2.length c0_2) ∧ w'.cell? (ad358.add ((x5_2).toNat * 2)) = some (.slice A358_0 ((rd_T59 l0_2 x5_2).f0).length c358_0) ∧ w'.cell? ⟨(ad358.add ((x5_2).toNat * 2)).block, (ad358.add ((x5_2).toNat * 2)).off + 1, none⟩ = some (.int .i64 ((rd_T59 l0_2 x5_2).f1))) (ds := [9, 11]) (bts 12 0) (by kernel_rfl) rfl rfl ⟨(blk_cell BK349.out 0).trans rfl, (blk_cell BK349.out 1).trans rfl, (blk_cell BK349.out 2).trans rfl, (blk_cell BK347.out 0).trans rfl, (blk_cell BK347.out 1).trans rfl, (blk_cell BK347.out 2).trans rfl, hx358_0, hx358_1⟩ (fun hHeld => ?_); refine with_tabW furrowlaw15_Of.tab9 furrowlaw15_Of.bits9 (fun HT_ HW_ => ?_)
         generalize wr.drew = w33 at HO_348001 HO_348002 HO_350001 HO_350002 BK347 BK348 BK349 HB HL358_0 HR358_0 hx358_0 hx358_1 hHeld ⊢
         refine pA 0 (some 34) 0 12 1 HT_ ?_
         refine pA 2 (some 36) 1 12 5 HT_ ?_
         refine pA 4 (some 38) 5 12 21 HT_ ?_
         refine tA8 1 (some 35) 21 12 23 HT_ HW_ hHeld ?_
         refine tA8 3 (some 37) 23 12 31 HT_ HW_ hHeld ?_
         refine pA 5 (some 39) 31 12 63 HT_ ?_
         refine tA8 6 (some 40) 63 12 127 HT_ HW_ hHeld ?_
         refine one_ (i := 7) (N := some 41) (bts 12 255) rfl rfl (one_of HT_.out (by kernel_rfl)) (by decide) (fun K hK => ?_)
         refine goes_ Tryd.func24 (by kernel_rfl) rfl #[.agg #[.slice A358_0 ((rd_T59 l0_2 x5_2).f0).length c358_0, .int .i64 ((rd_T59 l0_2 x5_2).f1)]] (by rfl) rfl rfl (by (try simp only [List.map_toArray, List.map_cons, List.map_nil]); first | done | rfl | (simp only [List.length_drop, List.length_take]; rfl)) ?_
         with_reducible refine (furrowlaw11_Of.calls (fun k_ => (((P0_1_ k_ ∨ P0_2_ k_) ∨ w.heap.size ≤ k_) ∧ (some k_ ≠ (u350001 : Value).ownBlock ∧ (some k_ ≠ (u350002 : Value).ownBlock ∧ (k_ ≠ gb347 ∧ (k_ ≠ gb348 ∧ k_ ≠ gb349)))))) _ _ ((rd_T59 l0_2 x5_2).f0) ((rd_T59 l0_2 x5_2).f1) t359 t362 _ ?side1 A28.out).mono ?_
         (case side1 => exact HL358_0.out)
         rintro e w34 ⟨v360, rfl, ho0, hb⟩
         have HS6_ := (hb.cell (World.block_lt_of_cell? _ _ (hHeld.2.2.2.2.2.2.1))).trans (hHeld.2.2.2.2.2.2.1)
         have HS7_ := (hb.cell (World.block_lt_of_cell? _ _ (hHeld.2.2.2.2.2.2.2))).trans (hHeld.2.2.2.2.2.2.2)
         refine ⟨_, rfl, ?_⟩
         replace HO_348001 := vB HO_348001 hb
         replace HO_348002 := vB HO_348002 hb
         replace HL358_0 := vB HL358_0 hb
         have HO361 := mk0 (Kd.V_lower (Kd.V_mono (ok' := fun k_ => ((P0_1_ k_ ∨ P0_2_ k_) ∨ w.heap.size ≤ k_) ∧ some k_ ≠ (u350001 : Value).ownBlock ∧ some k_ ≠ (u350002 : Value).ownBlock ∧ k_ ≠ gb347 ∧ k_ ≠ gb348 ∧ k_ ≠ gb349) ho0 (fun k_ hk_ => ⟨Or.elim hk_ (fun hs_ => hs_.1) (fun hn_ => (.inr (Nat.le_trans (below_size bH) hn_))), Or.elim hk_ (fun hs_ => hs_.2.1) (fun hn_ => (Kd.fresh' (Kd.N_lt (uN HO_350001.out)) k_ hn_)), Or.elim hk_ (fun hs_ => hs_.2.2.1) (fun hn_ => (Kd.fresh' (Kd.N_lt (uN HO_350002.out)) k_ hn_)), Or.elim hk_ (fun hs_ => hs_.2.2.2.1) (fun hn_ => (Kd.freshB (g := gb347) (o := .cells #[.int .i64 a0_0, .slice A0_1 l0_1.length c0_1, .slice (some ad358) l0_2.length c0_2] 24 (0, 0)) (uB BK347.out) k_ hn_)), Or.elim hk_ (fun hs_ => hs_.2.2.2.2.1) (fun hn_ => (Kd.freshB (g := gb348) (o := .cells #[.int .i64 0, .slice none 0 0, .slice none 0 0] 34 (0, 0)) (uB BK348.out) k_ hn_)), Or.elim hk_ (fun hs_ => hs_.2.2.2.2.2) (fun hn_ => (Kd.freshB (g := gb349) (o := .cells #[.int .i64 a0_0, u350001, u350002] 34 (0, 0)) (uB BK349.out) k_ hn_))⟩)) (below_size bH))
         replace HO_350001 := nB HO_350001 hb
         replace HO_350002 := nB HO_350002 hb
         replace BK347 := bB BK347 hb
         replace BK348 := bB BK348 hb
         replace BK349 := bB BK349 hb
         replace HR358_0 := mk0 (Kd.C_below (by repeat (first | (with_reducible exact HR358_0.out) | (with_reducible refine Kd.C_alloc ?_ _) | (with_reducible refine Kd.C_drewN ?_ _) | (with_reducible refine Kd.C_drew ?_) | exact HR358_0.out)) hb)
         replace HB := hbB bH hb
         (try clear hb)
         (try clear hb2)
         (try clear hk)
         (try clear hi)
         (try clear ho0)
         obtain ⟨Ao36, co36, eo36⟩ := Kd.V_slice HO361.out
         (first | subst eo36 | (injection eo36 with f1_ f2_ f3_; have f4_ := f1_.symm; have f5_ := f3_.symm; clear f1_ f2_ f3_; subst f4_; subst f5_))
         refine hK.out _ _ ⟨(blk_cell BK349.out 0).trans rfl, (blk_cell BK349.out 1).trans rfl, (blk_cell BK349.out 2).trans rfl, (blk_cell BK347.out 0).trans rfl, (blk_cell BK347.out 1).trans rfl, (blk_cell BK347.out 2).trans rfl, HS6_, HS7_⟩ (fun hHeld => ?_)
         clear hK K
         refine norm_ (a' := ?_) ?_ ?_
         rotate_left
         ·show Act.put _ (some 41) _ = _
          simp only [Act.put, List.setIfInBounds_toArray, List.set_cons_zero, List.set_cons_succ, i64_w, i32_w]
          rfl
         refine one_ (i := 8) (N := some 42) (bts 12 511) rfl rfl (one_of HT_.out (by kernel_rfl)) (by decide) (fun K hK => ?_)
         refine value_ (w1 := ?_) (v := ?_) (by rfl) rfl ?_ ?_
         rotate_left 2
         ·go_simp
          constructor
          ·rfl
          ·rfl
         refine hK.out _ _ ⟨(blk_cell (blk_alloc BK349.out _) 0).trans rfl, (blk_cell (blk_alloc BK349.out _) 1).trans rfl, (blk_cell (blk_alloc BK349.out _) 2).trans rfl, (blk_cell (blk_alloc BK347.out _) 0).trans rfl, (blk_cell (blk_alloc BK347.out _) 1).trans rfl, (blk_cell (blk_alloc BK347.out _) 2).trans rfl, (World.cell?_alloc_lt _ _ _ (World.block_lt_of_cell? _ _ (hHeld.2.2.2.2.2.2.1))).trans (hHeld.2.2.2.2.2.2.1), (World.cell?_alloc_lt _ _ _ (World.block_lt_of_cell? _ _ (hHeld.2.2.2.2.2.2.2))).trans (hHeld.2.2.2.2.2.2.2)⟩ (fun hHeld => ?_)
         clear hK K
         refine norm_ (a' := ?_) ?_ ?_
         rotate_left
         ·show Act.put _ (some 42) _ = _
          simp only [Act.put, List.setIfInBounds_toArray, List.set_cons_zero, List.set_cons_succ, i64_w, i32_w]
          rfl
         refine last_ (i := 9) (N := some 43) (bts 12 1023) rfl rfl (one_of HT_.out (by kernel_rfl)) (by decide) (fun K hK => ?_)
         refine Kd.N_append_step k65 (w0 := w) w.heap.size (by rfl) (.tmp 35) (.tmp 42) 32 65 (.agg #[(.slice none 0 0), (.int .i64 0)]) 32 rfl Tryd.underlying32 info65 rfl (by decide) (by omega) u350002 x350002_2 (⟨t359, t362⟩ : S65) [.slice Ao36 t359.length co36, .int .i64 t362] (fun k_ => ((P0_1_ k_ ∨ P0_2_ k_) ∨ w.heap.size ≤ k_) ∧ some k_ ≠ (u350001 : Value).ownBlock ∧ k_ ≠ gb347 ∧ k_ ≠ gb348 ∧ k_ ≠ gb349) (fun k_ => ((fun k_ => ((P0_1_ k_ ∨ P0_2_ k_) ∨ w.heap.size ≤ k_) ∧ some k_ ≠ (u350001 : Value).ownBlock ∧ k_ ≠ gb347 ∧ k_ ≠ gb348 ∧ k_ ≠ gb349)) k_ ∧ some k_ ≠ (u350002 : Value).ownBlock) rfl rfl ?aP (fun _ hk => hk) ?aF ?aO ?aB ?aS ?aL ?_
         (case aP => exact (k65_mkF _ _ (⟨t359, t362⟩ : S65) (Kd.V_reads' (Kd.V_mono (ok' := (fun k_ => ((fun k_ => ((P0_1_ k_ ∨ P0_2_ k_) ∨ w.heap.size ≤ k_) ∧ some k_ ≠ (u350001 : Value).ownBlock ∧ k_ ≠ gb347 ∧ k_ ≠ gb348 ∧ k_ ≠ gb349)) k_ ∧ some k_ ≠ (u350002 : Value).ownBlock)) (HO361.out) (fun k_ hk => ⟨⟨hk.1, ⟨hk.2.1, ⟨hk.2.2.2.1, ⟨hk.2.2.2.2.1, hk.2.2.2.2.2⟩⟩⟩⟩, hk.2.2.1⟩))).2.1 (Kd.V_F (Kd.V_mono (ok' := (fun k_ => ((fun k_ => ((P0_1_ k_ ∨ P0_2_ k_) ∨ w.heap.size ≤ k_) ∧ some k_ ≠ (u350001 : Value).ownBlock ∧ k_ ≠ gb347 ∧ k_ ≠ gb348 ∧ k_ ≠ gb349)) k_ ∧ some k_ ≠ (u350002 : Value).ownBlock)) (HO361.out) (fun k_ hk => ⟨⟨hk.1, ⟨hk.2.1, ⟨hk.2.2.2.1, ⟨hk.2.2.2.2.1, hk.2.2.2.2.2⟩⟩⟩⟩, hk.2.2.1⟩)))))
         (case aB => exact bH)
         (case aF => exact (fun k_ hk => ⟨(.inr (Nat.le_trans (below_size bH) hk)), Kd.fresh' (Kd.N_lt (uN HO_350001.out)) k_ hk, Kd.freshB (g := gb347) (o := .cells #[.int .i64 a0_0, .slice A0_1 l0_1.length c0_1, .slice (some ad358) l0_2.length c0_2] 24 (0, 0)) (uB BK347.out) k_ hk, Kd.freshB (g := gb348) (o := .cells #[.int .i64 0, .slice none 0 0, .slice none 0 0] 34 (0, 0)) (uB BK348.out) k_ hk, Kd.freshB (g := gb349) (o := .cells #[.int .i64 a0_0, u350001, u350002] 34 (0, 0)) (uB BK349.out) k_ hk⟩))
         (case aO => exact (uN HO_350002.out))
         (case aS => exact (below_size bH))
         (case aL => have := LMc29.out; omega)
         intro v364 w35 ho hb hg hat
         rw [← Ny363.out] at ho
         have n0_ := mk0 (Kd.V_afterv (ok := (fun k_ => ((P0_1_ k_ ∨ P0_2_ k_) ∨ w.heap.size ≤ k_) ∧ some k_ ≠ (u350001 : Value).ownBlock ∧ k_ ≠ gb347 ∧ k_ ≠ gb348 ∧ k_ ≠ gb349)) (uV (Kd.V_mono HO_348001.out (fun _ hk => ⟨⟨hk.1, ⟨hk.2.1, ⟨hk.2.2.2.1, ⟨hk.2.2.2.2.1, hk.2.2.2.2.2⟩⟩⟩⟩, hk.2.2.1⟩))) hg hat)
         have n1_ := mk0 (Kd.V_afterv (ok := (fun k_ => ((P0_1_ k_ ∨ P0_2_ k_) ∨ w.heap.size ≤ k_) ∧ some k_ ≠ (u350001 : Value).ownBlock ∧ k_ ≠ gb347 ∧ k_ ≠ gb348 ∧ k_ ≠ gb349)) (uV (Kd.V_mono HO_348002.out (fun _ hk => ⟨⟨hk.1, ⟨hk.2.1, ⟨hk.2.2.2.1, ⟨hk.2.2.2.2.1, hk.2.2.2.2.2⟩⟩⟩⟩, hk.2.2.1⟩))) hg hat)
         have n2_ := mk0 (Kd.N_afterv (ok := (fun k_ => ((P0_1_ k_ ∨ P0_2_ k_) ∨ w.heap.size ≤ k_) ∧ k_ ≠ gb347 ∧ k_ ≠ gb348 ∧ k_ ≠ gb349)) (uN (Kd.N_mono HO_350001.out (fun _ hk => ⟨⟨hk.1, ⟨hk.2.2.1, ⟨hk.2.2.2.1, hk.2.2.2.2⟩⟩⟩, hk.2.1⟩))) hg hat)
         have n3_ := mk0 (blk_grown (g := gb347) (o := .cells #[.int .i64 a0_0, .slice A0_1 l0_1.length c0_1, .slice (some ad358) l0_2.length c0_2] 24 (0, 0)) (uB BK347.out) hg (Kd.N_ne HO_350002.out BK347.out (by decide)))
         have n4_ := mk0 (blk_grown (g := gb348) (o := .cells #[.int .i64 0, .slice none 0 0, .slice none 0 0] 34 (0, 0)) (uB BK348.out) hg (Kd.N_ne HO_350002.out BK348.out (by decide)))
         have n5_ := mk0 (blk_grown (g := gb349) (o := .cells #[.int .i64 a0_0, u350001, u350002] 34 (0, 0)) (uB BK349.out) hg (Kd.N_ne HO_350002.out BK349.out (by decide)))
         have n6_ := mk0 (Kd.V_afterv (ok := (fun k_ => ((P0_1_ k_ ∨ P0_2_ k_) ∨ w.heap.size ≤ k_) ∧ some k_ ≠ (u350001 : Value).ownBlock ∧ k_ ≠ gb347 ∧ k_ ≠ gb348 ∧ k_ ≠ gb349)) (uV (Kd.V_mono HL358_0.out (fun _ hk => ⟨⟨hk.1, ⟨hk.2.1, ⟨hk.2.2.2.1, ⟨hk.2.2.2.2.1, hk.2.2.2.2.2⟩⟩⟩⟩, hk.2.2.1⟩))) hg hat)
         have n7_ := mk0 (Kd.V_afterv (ok := (fun k_ => ((P0_1_ k_ ∨ P0_2_ k_) ∨ w.heap.size ≤ k_) ∧ some k_ ≠ (u350001 : Value).ownBlock ∧ k_ ≠ gb347 ∧ k_ ≠ gb348 ∧ k_ ≠ gb349)) (uV (Kd.V_mono HO361.out (fun _ hk => ⟨⟨hk.1, ⟨hk.2.1, ⟨hk.2.2.2.1, ⟨hk.2.2.2.2.1, hk.2.2.2.2.2⟩⟩⟩⟩, hk.2.2.1⟩))) hg hat)
         have n8_ := mk0 (hb)
         have n9_ := mk0 (ho)
         clear HO_348001
         clear HO_348002
         clear HO_350001
         clear BK347
         clear BK348
         clear BK349
         clear HL358_0
         clear HO361
         clear HB
         clear HO_350002
         have HO_348001 := n0_
         have HO_348002 := n1_
         have HO_350001 := n2_
         have BK347 := n3_
         have BK348 := n4_
         have BK349 := n5_
         have HL358_0 := n6_
         have HO361 := n7_
         have HB := n8_
         have HO365 := n9_
         clear n0_ n1_ n2_ n3_ n4_ n5_ n6_ n7_ n8_ n9_
         clear ho hb hg hat
         obtain ⟨Ao37, co37, eo37⟩ := Kd.N_slice HO365.out
         (first | subst eo37 | (injection eo37 with f1_ f2_ f3_; have f4_ := f1_.symm; have f5_ := f3_.symm; clear f1_ f2_ f3_; subst f4_; subst f5_))
         refine hK.out _ _ ?_
         clear hK K
         refine norm_ (a' := ?_) ?_ ?_
         rotate_left
         ·show Act.put _ (some 43) _ = _
          simp only [Act.put, List.setIfInBounds_toArray, List.set_cons_zero, List.set_cons_succ, i64_w, i32_w]
          rfl
         refine pA 10 (some 44) 1023 12 2047 HT_ ?_
         refine last_ (i := 11) (N := none) (bts 12 4095) rfl rfl (one_of HT_.out (by kernel_rfl)) (by decide) (fun K hK => ?_)
         have hs38 : w35.cell? ⟨gb349, 2, none⟩ = some (u350002) := (blk_cell BK349.out 2).trans rfl
         have hfs38 := blk_frozen BK349.out 2
         have hns38_0 := NB347_349.out
         have hns38_1 := NB348_349.out
         have hms38_0 := NB349_347.out
         have hms38_1 := NB349_348.out
         refine skip_ (w1 := ?_) (by rfl) rfl ?_ ?_
         rotate_left
         ·go_simp
          rfl
         refine hK.out _ _ ?_
         clear hK K
         refine done_ (done_of HT_.out (by kernel_rfl)) ?_
         try go_wp2
         go_roundg k2
         case measure => have := HK1.out; have := HK2.out; omega
         case rel => exact ⟨(wrap64 (x5_2 + 1)), (y363), (.slice Ao37 y363.length co37), (by first | rfl | (simp; done) | (simp [*]; done) | (simp [bne_nil_, beq_nil_]; done)), H', ⟨by have := HK1.out; have := HK2.out; omega⟩, ⟨uV (Kd.V_mono (Kd.V_far (p := ⟨gb349, 2, none⟩) (Kd.V_mono HO_348001.out (fun k_ hk => (⟨hk, hk.1.2.2.2.2⟩ : _ ∧ k_ ≠ gb349))) (fun _ hk => hk.2) (.slice Ao37 y363.length co37)) (fun _ hk => ⟨hk.1.1.1, ⟨hk.1.1.2.1, ⟨hk.1.2, ⟨hk.1.1.2.2.1, ⟨hk.1.1.2.2.2.1, hk.1.1.2.2.2.2⟩⟩⟩⟩⟩))⟩, ⟨uV (Kd.V_mono (Kd.V_far (p := ⟨gb349, 2, none⟩) (Kd.V_mono HO_348002.out (fun k_ hk => (⟨hk, hk.1.2.2.2.2⟩ : _ ∧ k_ ≠ gb349))) (fun _ hk => hk.2) (.slice Ao37 y363.length co37)) (fun _ hk => ⟨hk.1.1.1, ⟨hk.1.1.2.1, ⟨hk.1.2, ⟨hk.1.1.2.2.1, ⟨hk.1.1.2.2.2.1, hk.1.1.2.2.2.2⟩⟩⟩⟩⟩))⟩, ⟨uN (Kd.N_mono (Kd.N_far (p := ⟨gb349, 2, none⟩) (Kd.N_mono HO_350001.out (fun k_ hk => (⟨hk, hk.1.2.2.2⟩ : _ ∧ k_ ≠ gb349))) (fun _ hk => hk.2) (.slice Ao37 y363.length co37)) (fun _ hk => ⟨hk.1.1.1, ⟨hk.1.2, ⟨hk.1.1.2.1, ⟨hk.1.1.2.2.1, hk.1.1.2.2.2⟩⟩⟩⟩))⟩, ⟨uN (Kd.N_mono (Kd.N_far (p := ⟨gb349, 2, none⟩) (Kd.N_mono HO365.out (fun k_ hk => (⟨hk, hk.2.2.2.2⟩ : _ ∧ k_ ≠ gb349))) (fun _ hk => hk.2) (.slice Ao37 y363.length co37)) (fun _ hk => ⟨hk.1.1, ⟨hk.1.2.1, ⟨hk.1.2.2.1, ⟨hk.1.2.2.2.1, hk.1.2.2.2.2⟩⟩⟩⟩))⟩, ⟨by (with_reducible repeat (first | refine blk_drewN ?_ _ | refine blk_drew ?_ | refine blk_alloc ?_ _)); refine blk_far ?_ NB347_349.out _; (with_reducible repeat (first | refine blk_drewN ?_ _ | refine blk_drew ?_ | refine blk_alloc ?_ _)); exact BK347.out⟩, ⟨by (with_reducible repeat (first | refine blk_drewN ?_ _ | refine blk_drew ?_ | refine blk_alloc ?_ _)); refine blk_far ?_ NB348_349.out _; (with_reducible repeat (first | refine blk_drewN ?_ _ | refine blk_drew ?_ | refine blk_alloc ?_ _)); exact BK348.out⟩, ⟨by (with_reducible repeat (first | refine blk_drewN ?_ _ | refine blk_drew ?_ | refine blk_alloc ?_ _)); refine blk_put (cs := #[.int .i64 a0_0, u350001, u350002]) ?_ 2 _ rfl; (with_reducible repeat (first | refine blk_drewN ?_ _ | refine blk_drew ?_ | refine blk_alloc ?_ _)); exact BK349.out⟩, ⟨bH⟩⟩
        ·rw [if_neg c29] at H
         exact absurd H (by simp)
       ·rw [if_neg c27] at H
        exact absurd H (by simp)
      ·rw [if_neg c26] at H
       have c26b0 : decide (x5_2 < (l0_2.length : Int)) = false := decide_eq_false c26
       clear c26
       simp only [Option.some.injEq, Prod.mk.injEq] at H
       obtain ⟨rfl, rfl, rfl⟩ := H
       have hnb39 := NB347_348.out
       have hnc39 := NB348_347.out
       have hnb40 := NB347_349.out
       have hnc40 := NB349_347.out
       obtain ⟨hcz41_0, hcz41_1, hcz41_2, hfz41_0, hfz41_1, hfz41_2⟩ := cL3 BK347
       have hnb42 := NB349_348.out
       have hnc42 := NB348_349.out
       obtain ⟨hcz43_0, hcz43_1, hcz43_2, hfz43_0, hfz43_1, hfz43_2⟩ := cL3 BK349
       obtain ⟨hcz44_0, hcz44_1, hcz44_2, hfz44_0, hfz44_1, hfz44_2⟩ := cL3 BK348
       obtain ⟨Ao45, co45, eo45⟩ := Kd.N_slice HO_350001.out
       subst eo45
       obtain ⟨Ao46, co46, eo46⟩ := Kd.N_slice HO_350002.out
       subst eo46
       go_wp2
       refine bodyPost_ret (results_cell_row rfl _ _ gb348 34 #[.int .i64 a0_0, .slice Ao45 x350001_1.length co45, .slice Ao46 x350002_2.length co46] (0, 0) _ rfl (by (with_reducible repeat (first | refine blk_drewN ?_ _ | refine blk_drew ?_ | refine blk_alloc ?_ _)); refine blk_put (cs := #[.int .i64 a0_0, .slice Ao45 x350001_1.length co45, .slice none 0 0]) ?_ 2 _ rfl; (with_reducible repeat (first | refine blk_drewN ?_ _ | refine blk_drew ?_ | refine blk_alloc ?_ _)); refine blk_put (cs := #[.int .i64 a0_0, .slice none 0 0, .slice none 0 0]) ?_ 1 _ rfl; (with_reducible repeat (first | refine blk_drewN ?_ _ | refine blk_drew ?_ | refine blk_alloc ?_ _)); refine blk_put (cs := #[.int .i64 0, .slice none 0 0, .slice none 0 0]) ?_ 0 _ rfl; (with_reducible repeat (first | refine blk_drewN ?_ _ | refine blk_drew ?_ | refine blk_alloc ?_ _)); exact BK348.out) Tryd.underlying34 rfl (by kernel_rfl)) rfl ?_
       exact ⟨_, _, rE, uN (Kd.N_mono (Kd.N_far (p := ⟨gb348, 2, none⟩) (Kd.N_far (p := ⟨gb348, 1, none⟩) (Kd.N_far (p := ⟨gb348, 0, none⟩) (Kd.N_mono HO_350001.out (fun k_ hk => (⟨hk, hk.2.2.2.1⟩ : _ ∧ k_ ≠ gb348))) (fun _ hk => hk.2) (.int .i64 a0_0)) (fun _ hk => hk.2) (.slice Ao45 x350001_1.length co45)) (fun _ hk => hk.2) (.slice Ao46 x350002_2.length co46)) (fun _ hk => ⟨hk.1.1, hk.1.2.1⟩)), uN (Kd.N_mono (Kd.N_far (p := ⟨gb348, 2, none⟩) (Kd.N_far (p := ⟨gb348, 1, none⟩) (Kd.N_far (p := ⟨gb348, 0, none⟩) (Kd.N_mono HO_350002.out (fun k_ hk => (⟨hk, hk.2.2.2.1⟩ : _ ∧ k_ ≠ gb348))) (fun _ hk => hk.2) (.int .i64 a0_0)) (fun _ hk => hk.2) (.slice Ao45 x350001_1.length co45)) (fun _ hk => hk.2) (.slice Ao46 x350002_2.length co46)) (fun _ hk => ⟨hk.1.1, hk.1.2.1⟩)), bH⟩

end Go.Proofs.YtkkpgjkjkcmcbaaDoor.X
