-- PRINTED by print.py (a twelfth state) out of the translation. Not trusted: Lean checks it.
import Derived.Test.YtkkpgjkjkcmcbaaDoorXx0
namespace Go.Proofs.YtkkpgjkjkcmcbaaDoor.X
open Go.Proofs.YtkkpgjkjkcmcbaaDoor.Flt Go.Proofs.YtkkpgjkjkcmcbaaDoor.H Go.RowKit Go.Proofs.YtkkpgjkjkcmcbaaDoorW.PrintWords Go.Proofs.YtkkpgjkjkcmcbaaDoorW.PrintLast Go.Proofs.YtkkpgjkjkcmcbaaDoorW.PrintMore
attribute [local go_sem] max2_int min2_int max_two min_two max_three min_three max_four min_four   -- for this text's walks alone
set_option linter.unusedVariables false
set_option linter.unusedSimpArgs false

/-! ### furrowlaw11_Of: function 24 -/
def furrowlaw11_Of.f (l0_0 : List Int) (a0_1 : Int) : Option (List Int × Int) := some (l0_0, a0_1)
set_option maxHeartbeats 8000000 in
set_option maxRecDepth 100000 in
theorem furrowlaw11_Of.calls (P0_0_ : Nat → Prop) (A0_0 : Option Addr) (c0_0 : Nat) (l0_0 : List Int) (a0_1 : Int) (r1 : List Int) (r2 : Int) (w : World) (hs0_0 : Kd.V (Kd.int .i64) 2 w w.heap.size (fun k_ => P0_0_ k_) (.slice A0_0 l0_0.length c0_0) l0_0) (h : furrowlaw11_Of.f l0_0 a0_1 = some (r1, r2)) :
  Calls Tryd.prog 24 #[.agg #[.slice A0_0 l0_0.length c0_0, .int .i64 a0_1]] w fun e w' => ∃ v0_ : Value, e = .returned (.agg #[v0_, .int .i64 r2]) ∧ Kd.V (Kd.int .i64) 2 w' w.heap.size (fun k_ => (P0_0_ k_ ∨ w.heap.size ≤ k_)) v0_ r1 ∧ Below w.heap.size w w' := by
 have hu59 := Tryd.underlying59
 have hu65 := Tryd.underlying65
 have HO0_0 := mk0 (show Kd.V (Kd.int .i64) 2 w w.heap.size (fun k_ => (P0_0_ k_ ∨ w.heap.size ≤ k_)) (.slice A0_0 l0_0.length c0_0) l0_0 from Kd.V_mono hs0_0 (fun k_ hk => .inl hk))
 have HB := mk0 (Below.refl w.heap.size w)
 have H : (some (l0_0, a0_1)) = some (r1, r2) := h
 clear h
 simp only [Option.some.injEq, Prod.mk.injEq] at H
 obtain ⟨rfl, rfl⟩ := H
 go_enter Tryd.func24, Tryd.ntmps24
 go_wp2_with (first | ((with_reducible refine gate_dst (N := 1) rfl ?_); refine bxE 1 #[.slice A0_0 l0_0.length c0_0, .int .i64 a0_1] 59 ?_; intro gb345 hg w2 hbox hb; replace HO0_0 := mk0 (Kd.V_below (Kd.V_elderB (uV HO0_0.out) gb345 (Nat.le_of_eq hg.symm)) hb); have BK345 := mk0 (hbox); have GW345 := mk0 ((by rw [hg]; exact (below_size (uL HB.out)) : w.heap.size ≤ gb345)); have GE345 := mk0 ((by rw [hg]; exact (below_size (uL HB.out)) : w.heap.size ≤ gb345)); replace HB := hbB (uL HB.out) hb; clear hb hbox hg) | ((with_reducible refine gate_dst (N := 2) rfl ?_); refine bxE 2 #[.slice none 0 0, .int .i64 0] 65 ?_; intro gb346 hg w3 hbox hb; replace HO0_0 := mk0 (Kd.V_below (Kd.V_elderB (uV HO0_0.out) gb346 (Nat.le_of_eq hg.symm)) hb); have BK346 := mk0 (hbox); have GW346 := mk0 ((by rw [hg]; exact (below_size bH) : w.heap.size ≤ gb346)); have GE346 := mk0 ((by rw [hg]; exact (below_size bH) : w.heap.size ≤ gb346)); replace HB := hbB bH hb; have NB345_346 := mk0 ((by rw [hg]; exact Nat.ne_of_lt (blk_lt (g := gb345) (o := .cells #[.slice A0_0 l0_0.length c0_0, .int .i64 a0_1] 59 (0, 0)) (uB BK345.out)) : gb345 ≠ gb346)); have NB346_345 := mk0 ((by rw [hg]; exact Nat.ne_of_gt (blk_lt (g := gb345) (o := .cells #[.slice A0_0 l0_0.length c0_0, .int .i64 a0_1] 59 (0, 0)) (uB BK345.out)) : gb346 ≠ gb345)); replace BK345 := bB BK345 hb; clear hb hbox hg; have hnb4 := NB345_346.out; have hnc4 := NB346_345.out; obtain ⟨hcz5_0, hcz5_1, hfz5_0, hfz5_1⟩ := cL2 BK345; obtain ⟨hcz6_0, hcz6_1, hfz6_0, hfz6_1⟩ := cL2 BK346))
 refine bodyPost_ret (results_cell_row rfl _ _ gb346 65 #[.slice A0_0 l0_0.length c0_0, .int .i64 a0_1] (0, 0) _ rfl (by (with_reducible repeat (first | refine blk_drewN ?_ _ | refine blk_drew ?_ | refine blk_alloc ?_ _)); refine blk_put (cs := #[.slice A0_0 l0_0.length c0_0, .int .i64 0]) ?_ 1 _ rfl; (with_reducible repeat (first | refine blk_drewN ?_ _ | refine blk_drew ?_ | refine blk_alloc ?_ _)); refine blk_put (cs := #[.slice none 0 0, .int .i64 0]) ?_ 0 _ rfl; (with_reducible repeat (first | refine blk_drewN ?_ _ | refine blk_drew ?_ | refine blk_alloc ?_ _)); exact BK346.out) Tryd.underlying65 rfl (by kernel_rfl)) rfl ?_
 exact ⟨_, rE, uV (Kd.V_mono (Kd.V_far (p := ⟨gb346, 1, none⟩) (Kd.V_far (p := ⟨gb346, 0, none⟩) (Kd.V_mono HO0_0.out (fun k_ hk => (⟨hk, by first | exact hk.2 | exact hk.2.2⟩ : _ ∧ k_ ≠ gb346))) (fun _ hk => hk.2) (.slice A0_0 l0_0.length c0_0)) (fun _ hk => hk.2) (.int .i64 a0_1)) (fun _ hk => by first | exact hk.1.1.1 | exact hk.1.1)), bH⟩

end Go.Proofs.YtkkpgjkjkcmcbaaDoor.X
