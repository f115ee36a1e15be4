-- PRINTED by print.py (a twelfth state) out of the translation. Not trusted: Lean checks it.
import Derived.Test.YtmnifoeodohphaaDoorXx0
import Derived.Test.YtmnifoeodohphaaDoorXx2
namespace Go.Proofs.YtmnifoeodohphaaDoor.X
open Go.Proofs.YtmnifoeodohphaaDoor.Flt Go.Proofs.YtmnifoeodohphaaDoor.H Go.RowKit Go.Proofs.YtmnifoeodohphaaDoorW.PrintWords Go.Proofs.YtmnifoeodohphaaDoorW.PrintLast Go.Proofs.YtmnifoeodohphaaDoorW.PrintMore
attribute [local go_sem] max2_int min2_int max_two min_two max_three min_three max_four min_four   -- for this text's walks alone
set_option linter.unusedVariables false
set_option linter.unusedSimpArgs false

/-! ### furrowref14_Index: function 26 -/
def furrowref14_Index.f (a0 : Int) (a1 : Int) : Option (List Int × Int) := (furrowref14_Const.f a0 0).bind fun bt517 => (if a1 ≥ 0 then (if a1 < (bt517.1.length : Int) then (if 0 ≤ a1 then (some ((bt517.1.set (a1 : Int).toNat 1), bt517.2)) else (none)) else (some (bt517.1, bt517.2))) else (some (bt517.1, bt517.2)))
set_option maxHeartbeats 8000000 in
set_option maxRecDepth 100000 in
theorem furrowref14_Index.calls (a0 : Int) (a1 : Int) (r1 : List Int) (r2 : Int) (w : World) (h : furrowref14_Index.f a0 a1 = some (r1, r2)) :
  Calls Tryd.prog 26 #[.int .i64 a0, .int .i64 a1] w fun e w' => ∃ v0_ : Value, e = .returned (.agg #[v0_, .int .i64 r2]) ∧ Kd.R (Kd.int .i64) 2 w' w.heap.size (fun _ => True) v0_ r1 ∧ Below w.heap.size w w' := by
 have hu31 := Tryd.underlying31
 have HB := mk0 (Below.refl w.heap.size w)
 have H : ((furrowref14_Const.f a0 0).bind fun bt517 => (if a1 ≥ 0 then (if a1 < (bt517.1.length : Int) then (if 0 ≤ a1 then (some ((bt517.1.set (a1 : Int).toNat 1), bt517.2)) else (none)) else (some (bt517.1, bt517.2))) else (some (bt517.1, bt517.2)))) = some (r1, r2) := h
 clear h
 replace H := Option.bind_eq_some_iff.mp H
 obtain ⟨⟨t517, t520⟩, A30, H⟩ := H
 replace H : (if a1 ≥ 0 then (if a1 < (t517.length : Int) then (if 0 ≤ a1 then (some ((t517.set (a1 : Int).toNat 1), t520)) else (none)) else (some (t517, t520))) else (some (t517, t520))) = some (r1, r2) := H
 have A3 := mk0 A30
 clear A30
 by_cases c4 : a1 ≥ 0
 ·rw [if_pos c4] at H
  have c4b0 : decide (0 ≤ a1) = true := decide_eq_true c4
  clear c4
  by_cases c5 : a1 < (t517.length : Int)
  ·rw [if_pos c5] at H
   have c5b0 : decide (a1 < (t517.length : Int)) = true := decide_eq_true c5
   clear c5
   by_cases c6 : 0 ≤ a1
   ·rw [if_pos c6] at H
    have c6b0 : decide (0 ≤ a1) = true := decide_eq_true c6
    clear c6
    obtain ⟨y522, hy522⟩ : ∃ y_ : List Int, y_ = (t517.set (a1 : Int).toNat 1) := ⟨_, rfl⟩
    replace H : (some (y522, t520)) = some (r1, r2) := by first | (rw [hy522]; with_reducible exact H) | (have H2_ := (Option.bind_some _ _).symm.trans H; rw [hy522]; with_reducible exact H2_) | (have H2_ := (Option.bind_some _ _).symm.trans H; with_reducible exact H2_) | with_reducible exact H | (rw [hy522]; exact H) | exact H
    have Ny522 := mk0 hy522
    clear hy522
    simp only [Option.some.injEq, Prod.mk.injEq] at H
    obtain ⟨rfl, rfl⟩ := H
    go_enter Tryd.func26, Tryd.ntmps26
    go_wp2_with (first | ((with_reducible refine gate_dst (N := 4) rfl ?_); (try (refine gate_guard (by rfl) ?_; dsimp only)); refine box_event ?hg (N := 4) ?hd (cs := #[.slice none 0 0, .int .i64 0]) (t := 31) ?hr ?_; (case hd => rfl); (case hg => rfl); (case hr => first | (go_simp; done) | (go_simp; rfl)); intro gb516 hg w8 hbox hb; have n0_ := mk0 (below_step (uL HB.out) hb); have n1_ := mk0 (hbox); have n2_ := mk0 ((by rw [hg]; exact (below_size (uL HB.out)) : w.heap.size ≤ gb516)); have n3_ := mk0 ((by rw [hg]; exact (below_size (uL HB.out)) : w.heap.size ≤ gb516)); clear HB; have HB := n0_; have BK516 := n1_; have GW516 := n2_; have GE516 := n3_; clear n0_ n1_ n2_ n3_; clear hb hbox hg) | ((with_reducible refine gate_callee (f := 24) rfl ?_); refine goesL_ (some 7) rfl rfl Tryd.func24 (by kernel_rfl) rfl #[.int .i64 a0, .int .i64 0] rfl (by (try simp only [List.map_toArray, List.map_cons, List.map_nil]); first | done | rfl | (simp only [List.length_drop, List.length_take]; rfl)) ?_; (with_reducible refine (furrowref14_Const.calls a0 0 t517 t520 _ A3.out).mono ?_); rintro e w9 ⟨v518, rfl, ho0, hb⟩; refine ⟨_, rfl, ?_⟩; have n0_ := mk0 (Kd.R_lower ho0 (below_size (by repeat (first | (with_reducible first | exact HB.out | apply bA | apply bN | apply bD | refine bS ?_ (by assumption)) | exact HB.out)))); have n1_ := mk0 (blk_below (g := gb516) (o := .cells #[.slice none 0 0, .int .i64 0] 31 (0, 0)) (uB BK516.out) hb); have n2_ := mk0 (below_step (by repeat (first | (with_reducible first | exact HB.out | apply bA | apply bN | apply bD | refine bS ?_ (by assumption)) | exact HB.out)) hb); clear BK516; clear HB; have HO519 := n0_; have BK516 := n1_; have HB := n2_; clear n0_ n1_ n2_; (try clear hb); (try clear hb2); (try clear hk); (try clear hi); (try clear ho0)) | ((with_reducible refine gate_dst (N := 5) rfl ?_); (try (refine gate_guard (by rfl) ?_; dsimp only)); refine box_event ?hg (N := 5) ?hd (cs := #[.slice none 0 0, .int .i64 0]) (t := 31) ?hr ?_; (case hd => rfl); (case hg => rfl); (case hr => first | (go_simp; done) | (go_simp; rfl)); intro gb521 hg w10 hbox hb; have n0_ := mk0 (Kd.R_below (uR HO519.out) hb); have n1_ := mk0 (blk_below (g := gb516) (o := .cells #[.slice none 0 0, .int .i64 0] 31 (0, 0)) (uB BK516.out) hb); have n2_ := mk0 (below_step (by repeat (first | (with_reducible first | exact HB.out | apply bA | apply bN | apply bD | refine bS ?_ (by assumption)) | exact HB.out)) hb); have n3_ := mk0 (hbox); have n4_ := mk0 ((by rw [hg]; exact (below_size (by repeat (first | (with_reducible first | exact HB.out | apply bA | apply bN | apply bD | refine bS ?_ (by assumption)) | exact HB.out))) : w.heap.size ≤ gb521)); have n5_ := mk0 ((by rw [hg]; exact (below_size (by repeat (first | (with_reducible first | exact HB.out | apply bA | apply bN | apply bD | refine bS ?_ (by assumption)) | exact HB.out))) : w.heap.size ≤ gb521)); have n6_ := mk0 ((by rw [hg]; exact Nat.ne_of_lt (blk_lt (g := gb516) (o := .cells #[.slice none 0 0, .int .i64 0] 31 (0, 0)) (uB BK516.out)) : gb516 ≠ gb521)); have n7_ := mk0 ((by rw [hg]; exact Nat.ne_of_gt (blk_lt (g := gb516) (o := .cells #[.slice none 0 0, .int .i64 0] 31 (0, 0)) (uB BK516.out)) : gb521 ≠ gb516)); clear HO519; clear BK516; clear HB; have HO519 := n0_; have BK516 := n1_; have HB := n2_; have BK521 := n3_; have GW521 := n4_; have GE521 := n5_; have NB516_521 := n6_; have NB521_516 := n7_; clear n0_ n1_ n2_ n3_ n4_ n5_ n6_ n7_; clear hb hbox hg; obtain ⟨Ao11, co11, eo11⟩ := Kd.R_slice HO519.out; subst eo11; have hnb12 := NB521_516.out; have hnc12 := NB516_521.out; have hcz13_0 : w10.cell? ⟨gb521, 0, none⟩ = some (.slice none 0 0) := (blk_cell BK521.out 0).trans rfl; have hcz13_1 : w10.cell? ⟨gb521, 1, none⟩ = some (.int .i64 0) := (blk_cell BK521.out 1).trans rfl; have hfz13_0 := blk_frozen BK521.out 0; have hfz13_1 := blk_frozen BK521.out 1) | ((with_reducible refine gate_store (t := 31) (p := 5) rfl ?_); refine store_event (t := 31) (p := 5) (v := ?vo_w14) (w1 := ((w10.setCell ⟨gb521, 0, none⟩ (.slice Ao11 t517.length co11)).setCell ⟨gb521, 1, none⟩ (.int .i64 t520))) ?hg ?ho ?hn ?hr ?_; (case ho => rfl); (case hg => rfl); (case hn => rfl); (case hr => first | (go_simp; done) | (go_simp; rfl)); intro w14 hw; have n0_ : Aside0 (Kd.R (Kd.int .i64) 2 w14 w.heap.size (fun _ => True) (.slice Ao11 t517.length co11) t517) := ⟨(by rw [hw]; exact (uR (Kd.R_mono (Kd.R_far (p := ⟨gb521, 1, none⟩) (Kd.R_far (p := ⟨gb521, 0, none⟩) (Kd.R_types HO519.out BK521.out (by decide)) (fun _ hk => hk.2) (.slice Ao11 t517.length co11)) (fun _ hk => hk.2) (.int .i64 t520)) (fun _ hk => trivial))))⟩; have n1_ : Aside0 (w14.heap[gb516]? = some (.cells #[.slice none 0 0, .int .i64 0] 31 (0, 0))) := ⟨(by rw [hw]; exact (by (with_reducible repeat (first | refine blk_drewN ?_ _ | refine blk_drew ?_ | refine blk_alloc ?_ _)); refine blk_far ?_ NB516_521.out _; (with_reducible repeat (first | refine blk_drewN ?_ _ | refine blk_drew ?_ | refine blk_alloc ?_ _)); refine blk_far ?_ NB516_521.out _; (with_reducible repeat (first | refine blk_drewN ?_ _ | refine blk_drew ?_ | refine blk_alloc ?_ _)); exact BK516.out))⟩; have n2_ : Aside0 (w14.heap[gb521]? = some (.cells #[.slice Ao11 t517.length co11, .int .i64 t520] 31 (0, 0))) := ⟨(by rw [hw]; exact (by (with_reducible repeat (first | refine blk_drewN ?_ _ | refine blk_drew ?_ | refine blk_alloc ?_ _)); refine blk_put (cs := #[.slice Ao11 t517.length co11, .int .i64 0]) ?_ 1 _ rfl; (with_reducible repeat (first | refine blk_drewN ?_ _ | refine blk_drew ?_ | refine blk_alloc ?_ _)); refine blk_put (cs := #[.slice none 0 0, .int .i64 0]) ?_ 0 _ rfl; (with_reducible repeat (first | refine blk_drewN ?_ _ | refine blk_drew ?_ | refine blk_alloc ?_ _)); exact BK521.out))⟩; have n3_ : Aside0 (Below w.heap.size w w14) := ⟨(by rw [hw]; exact (by repeat (first | (with_reducible first | exact HB.out | apply bA | apply bN | apply bD | refine bS ?_ (by assumption)) | exact HB.out)))⟩; clear hw; clear HO519; clear BK516; clear BK521; clear HB; have HO519 := n0_; have BK516 := n1_; have BK521 := n2_; have HB := n3_; clear n0_ n1_ n2_ n3_; have hcz15_0 : w14.cell? ⟨gb521, 0, none⟩ = some (.slice Ao11 t517.length co11) := (blk_cell BK521.out 0).trans rfl; have hcz15_1 : w14.cell? ⟨gb521, 1, none⟩ = some (.int .i64 t520) := (blk_cell BK521.out 1).trans rfl; have hfz15_0 := blk_frozen BK521.out 0; have hfz15_1 := blk_frozen BK521.out 1; have p7 : 0 ≤ (a1 : Int) := of_decide_eq_true (by first | (with_reducible assumption) | assumption); have q7 : (a1 : Int) < ((t517.length : Int) : Int) := of_decide_eq_true (by first | (with_reducible assumption) | assumption); obtain ⟨go7, co7, eo7, gb7, gl7, cl7, HG7⟩ := Kd.R_form HO519.out (by omega); (first | cases eo7 | (injection eo7 with ea_ en_ ec_; (first | subst ea_ | (injection ea_ with ea_; subst ea_)); subst ec_; clear en_)); have GB7 := mk0 gb7; have GG7 := mk0 HG7; clear gb7 gl7 HG7; obtain ⟨hx7_0, hf7_0⟩ := Kd.R_celln 0 HO519.out (a1 : Int) p7 q7; replace p7 := eq_true p7; replace q7 := eq_true q7; obtain ⟨hy16_, hz16_⟩ := Kd.R_celln 0 HO519.out (a1 : Int) (of_decide_eq_true (by first | (with_reducible assumption) | assumption)) (of_decide_eq_true (by first | (with_reducible assumption) | assumption)); have HP16 := Kd.R_putg HO519.out (a1 : Int) 1) | ((with_reducible refine gate_store (t := 2) (p := 20) rfl ?_); refine store_event (t := 2) (p := 20) (v := ?vo_w17) (w1 := (w14.setCell ⟨go7, (a1 : Int).toNat, none⟩ (.int .i64 1))) ?hg ?ho ?hn ?hr ?_; (case ho => rfl); (case hg => rfl); (case hn => rfl); (case hr => first | (go_simp; done) | (go_simp; rfl)); intro w17 hw; have hg : w14.grownBy w17 (some go7) := (by rw [hw]; exact HP16.2); have hp_ : Kd.R (Kd.int .i64) 2 w17 w.heap.size (fun _ => True) (.slice (some ⟨go7, 0, none⟩) t517.length co11) y522 := (by rw [hw, Ny522.out]; exact HP16.1); clear HP16; have n0_ := mk0 (blk_grown (g := gb516) (o := .cells #[.slice none 0 0, .int .i64 0] 31 (0, 0)) (uB BK516.out) hg (Kd.R_ne HO519.out BK516.out (by decide))); have n1_ := mk0 (hp_); have n2_ := mk0 (blk_grown (g := gb521) (o := .cells #[.slice (some ⟨go7, 0, none⟩) t517.length co11, .int .i64 t520] 31 (0, 0)) (uB BK521.out) hg (Kd.R_ne HO519.out BK521.out (by decide))); have n3_ := mk0 ((by rw [hw]; exact below_set (HB.out) GB7.out : Below w.heap.size w w17)); clear BK516; clear HO519; clear BK521; clear HB; have BK516 := n0_; have HO519 := n1_; have BK521 := n2_; have HB := n3_; clear n0_ n1_ n2_ n3_; clear hg hw hp_; have hcz18_0 : w17.cell? ⟨gb521, 0, none⟩ = some (.slice (some ⟨go7, 0, none⟩) t517.length co11) := (blk_cell BK521.out 0).trans rfl; have hcz18_1 : w17.cell? ⟨gb521, 1, none⟩ = some (.int .i64 t520) := (blk_cell BK521.out 1).trans rfl; have hfz18_0 := blk_frozen BK521.out 0; have hfz18_1 := blk_frozen BK521.out 1; have hcz19_0 : w17.cell? ⟨gb516, 0, none⟩ = some (.slice none 0 0) := (blk_cell BK516.out 0).trans rfl; have hcz19_1 : w17.cell? ⟨gb516, 1, none⟩ = some (.int .i64 0) := (blk_cell BK516.out 1).trans rfl; have hfz19_0 := blk_frozen BK516.out 0; have hfz19_1 := blk_frozen BK516.out 1))
    refine bodyPost_ret (results_cell_row rfl _ _ gb516 31 #[.slice (some ⟨go7, 0, none⟩) t517.length co11, .int .i64 t520] (0, 0) _ rfl (by (with_reducible repeat (first | refine blk_drewN ?_ _ | refine blk_drew ?_ | refine blk_alloc ?_ _)); refine blk_put (cs := #[.slice (some ⟨go7, 0, none⟩) t517.length co11, .int .i64 0]) ?_ 1 _ rfl; (with_reducible repeat (first | refine blk_drewN ?_ _ | refine blk_drew ?_ | refine blk_alloc ?_ _)); refine blk_put (cs := #[.slice none 0 0, .int .i64 0]) ?_ 0 _ rfl; (with_reducible repeat (first | refine blk_drewN ?_ _ | refine blk_drew ?_ | refine blk_alloc ?_ _)); exact BK516.out) Tryd.underlying31 rfl (by kernel_rfl)) rfl ?_
    exact ⟨_, by first | rfl | (simp [errW_none, errW_some] <;> rfl) | (simp [*, errW_none, errW_some] <;> rfl), uR (Kd.R_mono (Kd.R_far (p := ⟨gb516, 1, none⟩) (Kd.R_far (p := ⟨gb516, 0, none⟩) (Kd.R_types HO519.out BK516.out (by decide)) (fun _ hk => hk.2) (.slice (some ⟨go7, 0, none⟩) t517.length co11)) (fun _ hk => hk.2) (.int .i64 t520)) (fun _ hk => trivial)), by repeat (first | (with_reducible first | exact HB.out | apply bA | apply bN | apply bD | refine bS ?_ (by assumption)) | exact HB.out)⟩
   ·rw [if_neg c6] at H
    exact absurd H (by simp)
  ·rw [if_neg c5] at H
   have c5b0 : decide (a1 < (t517.length : Int)) = false := decide_eq_false c5
   clear c5
   simp only [Option.some.injEq, Prod.mk.injEq] at H
   obtain ⟨rfl, rfl⟩ := H
   go_enter Tryd.func26, Tryd.ntmps26
   go_wp2_with (first | ((with_reducible refine gate_dst (N := 4) rfl ?_); (try (refine gate_guard (by rfl) ?_; dsimp only)); refine box_event ?hg (N := 4) ?hd (cs := #[.slice none 0 0, .int .i64 0]) (t := 31) ?hr ?_; (case hd => rfl); (case hg => rfl); (case hr => first | (go_simp; done) | (go_simp; rfl)); intro gb516 hg w20 hbox hb; have n0_ := mk0 (below_step (uL HB.out) hb); have n1_ := mk0 (hbox); have n2_ := mk0 ((by rw [hg]; exact (below_size (uL HB.out)) : w.heap.size ≤ gb516)); have n3_ := mk0 ((by rw [hg]; exact (below_size (uL HB.out)) : w.heap.size ≤ gb516)); clear HB; have HB := n0_; have BK516 := n1_; have GW516 := n2_; have GE516 := n3_; clear n0_ n1_ n2_ n3_; clear hb hbox hg) | ((with_reducible refine gate_callee (f := 24) rfl ?_); refine goesL_ (some 7) rfl rfl Tryd.func24 (by kernel_rfl) rfl #[.int .i64 a0, .int .i64 0] rfl (by (try simp only [List.map_toArray, List.map_cons, List.map_nil]); first | done | rfl | (simp only [List.length_drop, List.length_take]; rfl)) ?_; (with_reducible refine (furrowref14_Const.calls a0 0 t517 t520 _ A3.out).mono ?_); rintro e w21 ⟨v518, rfl, ho0, hb⟩; refine ⟨_, rfl, ?_⟩; have n0_ := mk0 (Kd.R_lower ho0 (below_size (by repeat (first | (with_reducible first | exact HB.out | apply bA | apply bN | apply bD | refine bS ?_ (by assumption)) | exact HB.out)))); have n1_ := mk0 (blk_below (g := gb516) (o := .cells #[.slice none 0 0, .int .i64 0] 31 (0, 0)) (uB BK516.out) hb); have n2_ := mk0 (below_step (by repeat (first | (with_reducible first | exact HB.out | apply bA | apply bN | apply bD | refine bS ?_ (by assumption)) | exact HB.out)) hb); clear BK516; clear HB; have HO519 := n0_; have BK516 := n1_; have HB := n2_; clear n0_ n1_ n2_; (try clear hb); (try clear hb2); (try clear hk); (try clear hi); (try clear ho0)) | ((with_reducible refine gate_dst (N := 5) rfl ?_); (try (refine gate_guard (by rfl) ?_; dsimp only)); refine box_event ?hg (N := 5) ?hd (cs := #[.slice none 0 0, .int .i64 0]) (t := 31) ?hr ?_; (case hd => rfl); (case hg => rfl); (case hr => first | (go_simp; done) | (go_simp; rfl)); intro gb521 hg w22 hbox hb; have n0_ := mk0 (Kd.R_below (uR HO519.out) hb); have n1_ := mk0 (blk_below (g := gb516) (o := .cells #[.slice none 0 0, .int .i64 0] 31 (0, 0)) (uB BK516.out) hb); have n2_ := mk0 (below_step (by repeat (first | (with_reducible first | exact HB.out | apply bA | apply bN | apply bD | refine bS ?_ (by assumption)) | exact HB.out)) hb); have n3_ := mk0 (hbox); have n4_ := mk0 ((by rw [hg]; exact (below_size (by repeat (first | (with_reducible first | exact HB.out | apply bA | apply bN | apply bD | refine bS ?_ (by assumption)) | exact HB.out))) : w.heap.size ≤ gb521)); have n5_ := mk0 ((by rw [hg]; exact (below_size (by repeat (first | (with_reducible first | exact HB.out | apply bA | apply bN | apply bD | refine bS ?_ (by assumption)) | exact HB.out))) : w.heap.size ≤ gb521)); have n6_ := mk0 ((by rw [hg]; exact Nat.ne_of_lt (blk_lt (g := gb516) (o := .cells #[.slice none 0 0, .int .i64 0] 31 (0, 0)) (uB BK516.out)) : gb516 ≠ gb521)); have n7_ := mk0 ((by rw [hg]; exact Nat.ne_of_gt (blk_lt (g := gb516) (o := .cells #[.slice none 0 0, .int .i64 0] 31 (0, 0)) (uB BK516.out)) : gb521 ≠ gb516)); clear HO519; clear BK516; clear HB; have HO519 := n0_; have BK516 := n1_; have HB := n2_; have BK521 := n3_; have GW521 := n4_; have GE521 := n5_; have NB516_521 := n6_; have NB521_516 := n7_; clear n0_ n1_ n2_ n3_ n4_ n5_ n6_ n7_; clear hb hbox hg; obtain ⟨Ao23, co23, eo23⟩ := Kd.R_slice HO519.out; subst eo23; have hnb24 := NB521_516.out; have hnc24 := NB516_521.out; have hcz25_0 : w22.cell? ⟨gb521, 0, none⟩ = some (.slice none 0 0) := (blk_cell BK521.out 0).trans rfl; have hcz25_1 : w22.cell? ⟨gb521, 1, none⟩ = some (.int .i64 0) := (blk_cell BK521.out 1).trans rfl; have hfz25_0 := blk_frozen BK521.out 0; have hfz25_1 := blk_frozen BK521.out 1; have hcz26_0 : w22.cell? ⟨gb516, 0, none⟩ = some (.slice none 0 0) := (blk_cell BK516.out 0).trans rfl; have hcz26_1 : w22.cell? ⟨gb516, 1, none⟩ = some (.int .i64 0) := (blk_cell BK516.out 1).trans rfl; have hfz26_0 := blk_frozen BK516.out 0; have hfz26_1 := blk_frozen BK516.out 1))
   refine bodyPost_ret (results_cell_row rfl _ _ gb516 31 #[.slice Ao23 t517.length co23, .int .i64 t520] (0, 0) _ rfl (by (with_reducible repeat (first | refine blk_drewN ?_ _ | refine blk_drew ?_ | refine blk_alloc ?_ _)); refine blk_put (cs := #[.slice Ao23 t517.length co23, .int .i64 0]) ?_ 1 _ rfl; (with_reducible repeat (first | refine blk_drewN ?_ _ | refine blk_drew ?_ | refine blk_alloc ?_ _)); refine blk_put (cs := #[.slice none 0 0, .int .i64 0]) ?_ 0 _ rfl; (with_reducible repeat (first | refine blk_drewN ?_ _ | refine blk_drew ?_ | refine blk_alloc ?_ _)); refine blk_far ?_ NB516_521.out _; (with_reducible repeat (first | refine blk_drewN ?_ _ | refine blk_drew ?_ | refine blk_alloc ?_ _)); refine blk_far ?_ NB516_521.out _; (with_reducible repeat (first | refine blk_drewN ?_ _ | refine blk_drew ?_ | refine blk_alloc ?_ _)); exact BK516.out) Tryd.underlying31 rfl (by kernel_rfl)) rfl ?_
   exact ⟨_, by first | rfl | (simp [errW_none, errW_some] <;> rfl) | (simp [*, errW_none, errW_some] <;> rfl), uR (Kd.R_mono (Kd.R_far (p := ⟨gb516, 1, none⟩) (Kd.R_far (p := ⟨gb516, 0, none⟩) (Kd.R_far (p := ⟨gb521, 1, none⟩) (Kd.R_far (p := ⟨gb521, 0, none⟩) (Kd.R_types (Kd.R_types HO519.out BK521.out (by decide)) BK516.out (by decide)) (fun _ hk => hk.1.2) (.slice Ao23 t517.length co23)) (fun _ hk => hk.1.2) (.int .i64 t520)) (fun _ hk => hk.2) (.slice Ao23 t517.length co23)) (fun _ hk => hk.2) (.int .i64 t520)) (fun _ hk => trivial)), by repeat (first | (with_reducible first | exact HB.out | apply bA | apply bN | apply bD | refine bS ?_ (by assumption)) | exact HB.out)⟩
 ·rw [if_neg c4] at H
  have c4b0 : decide (0 ≤ a1) = false := decide_eq_false c4
  clear c4
  simp only [Option.some.injEq, Prod.mk.injEq] at H
  obtain ⟨rfl, rfl⟩ := H
  go_enter Tryd.func26, Tryd.ntmps26
  go_wp2_with (first | ((with_reducible refine gate_dst (N := 4) rfl ?_); (try (refine gate_guard (by rfl) ?_; dsimp only)); refine box_event ?hg (N := 4) ?hd (cs := #[.slice none 0 0, .int .i64 0]) (t := 31) ?hr ?_; (case hd => rfl); (case hg => rfl); (case hr => first | (go_simp; done) | (go_simp; rfl)); intro gb516 hg w27 hbox hb; have n0_ := mk0 (below_step (uL HB.out) hb); have n1_ := mk0 (hbox); have n2_ := mk0 ((by rw [hg]; exact (below_size (uL HB.out)) : w.heap.size ≤ gb516)); have n3_ := mk0 ((by rw [hg]; exact (below_size (uL HB.out)) : w.heap.size ≤ gb516)); clear HB; have HB := n0_; have BK516 := n1_; have GW516 := n2_; have GE516 := n3_; clear n0_ n1_ n2_ n3_; clear hb hbox hg) | ((with_reducible refine gate_callee (f := 24) rfl ?_); refine goesL_ (some 7) rfl rfl Tryd.func24 (by kernel_rfl) rfl #[.int .i64 a0, .int .i64 0] rfl (by (try simp only [List.map_toArray, List.map_cons, List.map_nil]); first | done | rfl | (simp only [List.length_drop, List.length_take]; rfl)) ?_; (with_reducible refine (furrowref14_Const.calls a0 0 t517 t520 _ A3.out).mono ?_); rintro e w28 ⟨v518, rfl, ho0, hb⟩; refine ⟨_, rfl, ?_⟩; have n0_ := mk0 (Kd.R_lower ho0 (below_size (by repeat (first | (with_reducible first | exact HB.out | apply bA | apply bN | apply bD | refine bS ?_ (by assumption)) | exact HB.out)))); have n1_ := mk0 (blk_below (g := gb516) (o := .cells #[.slice none 0 0, .int .i64 0] 31 (0, 0)) (uB BK516.out) hb); have n2_ := mk0 (below_step (by repeat (first | (with_reducible first | exact HB.out | apply bA | apply bN | apply bD | refine bS ?_ (by assumption)) | exact HB.out)) hb); clear BK516; clear HB; have HO519 := n0_; have BK516 := n1_; have HB := n2_; clear n0_ n1_ n2_; (try clear hb); (try clear hb2); (try clear hk); (try clear hi); (try clear ho0)) | ((with_reducible refine gate_dst (N := 5) rfl ?_); (try (refine gate_guard (by rfl) ?_; dsimp only)); refine box_event ?hg (N := 5) ?hd (cs := #[.slice none 0 0, .int .i64 0]) (t := 31) ?hr ?_; (case hd => rfl); (case hg => rfl); (case hr => first | (go_simp; done) | (go_simp; rfl)); intro gb521 hg w29 hbox hb; have n0_ := mk0 (Kd.R_below (uR HO519.out) hb); have n1_ := mk0 (blk_below (g := gb516) (o := .cells #[.slice none 0 0, .int .i64 0] 31 (0, 0)) (uB BK516.out) hb); have n2_ := mk0 (below_step (by repeat (first | (with_reducible first | exact HB.out | apply bA | apply bN | apply bD | refine bS ?_ (by assumption)) | exact HB.out)) hb); have n3_ := mk0 (hbox); have n4_ := mk0 ((by rw [hg]; exact (below_size (by repeat (first | (with_reducible first | exact HB.out | apply bA | apply bN | apply bD | refine bS ?_ (by assumption)) | exact HB.out))) : w.heap.size ≤ gb521)); have n5_ := mk0 ((by rw [hg]; exact (below_size (by repeat (first | (with_reducible first | exact HB.out | apply bA | apply bN | apply bD | refine bS ?_ (by assumption)) | exact HB.out))) : w.heap.size ≤ gb521)); have n6_ := mk0 ((by rw [hg]; exact Nat.ne_of_lt (blk_lt (g := gb516) (o := .cells #[.slice none 0 0, .int .i64 0] 31 (0, 0)) (uB BK516.out)) : gb516 ≠ gb521)); have n7_ := mk0 ((by rw [hg]; exact Nat.ne_of_gt (blk_lt (g := gb516) (o := .cells #[.slice none 0 0, .int .i64 0] 31 (0, 0)) (uB BK516.out)) : gb521 ≠ gb516)); clear HO519; clear BK516; clear HB; have HO519 := n0_; have BK516 := n1_; have HB := n2_; have BK521 := n3_; have GW521 := n4_; have GE521 := n5_; have NB516_521 := n6_; have NB521_516 := n7_; clear n0_ n1_ n2_ n3_ n4_ n5_ n6_ n7_; clear hb hbox hg; obtain ⟨Ao30, co30, eo30⟩ := Kd.R_slice HO519.out; subst eo30; have hnb31 := NB521_516.out; have hnc31 := NB516_521.out; have hcz32_0 : w29.cell? ⟨gb521, 0, none⟩ = some (.slice none 0 0) := (blk_cell BK521.out 0).trans rfl; have hcz32_1 : w29.cell? ⟨gb521, 1, none⟩ = some (.int .i64 0) := (blk_cell BK521.out 1).trans rfl; have hfz32_0 := blk_frozen BK521.out 0; have hfz32_1 := blk_frozen BK521.out 1; have hcz33_0 : w29.cell? ⟨gb516, 0, none⟩ = some (.slice none 0 0) := (blk_cell BK516.out 0).trans rfl; have hcz33_1 : w29.cell? ⟨gb516, 1, none⟩ = some (.int .i64 0) := (blk_cell BK516.out 1).trans rfl; have hfz33_0 := blk_frozen BK516.out 0; have hfz33_1 := blk_frozen BK516.out 1))
  refine bodyPost_ret (results_cell_row rfl _ _ gb516 31 #[.slice Ao30 t517.length co30, .int .i64 t520] (0, 0) _ rfl (by (with_reducible repeat (first | refine blk_drewN ?_ _ | refine blk_drew ?_ | refine blk_alloc ?_ _)); refine blk_put (cs := #[.slice Ao30 t517.length co30, .int .i64 0]) ?_ 1 _ rfl; (with_reducible repeat (first | refine blk_drewN ?_ _ | refine blk_drew ?_ | refine blk_alloc ?_ _)); refine blk_put (cs := #[.slice none 0 0, .int .i64 0]) ?_ 0 _ rfl; (with_reducible repeat (first | refine blk_drewN ?_ _ | refine blk_drew ?_ | refine blk_alloc ?_ _)); refine blk_far ?_ NB516_521.out _; (with_reducible repeat (first | refine blk_drewN ?_ _ | refine blk_drew ?_ | refine blk_alloc ?_ _)); refine blk_far ?_ NB516_521.out _; (with_reducible repeat (first | refine blk_drewN ?_ _ | refine blk_drew ?_ | refine blk_alloc ?_ _)); exact BK516.out) Tryd.underlying31 rfl (by kernel_rfl)) rfl ?_
  exact ⟨_, by first | rfl | (simp [errW_none, errW_some] <;> rfl) | (simp [*, errW_none, errW_some] <;> rfl), uR (Kd.R_mono (Kd.R_far (p := ⟨gb516, 1, none⟩) (Kd.R_far (p := ⟨gb516, 0, none⟩) (Kd.R_far (p := ⟨gb521, 1, none⟩) (Kd.R_far (p := ⟨gb521, 0, none⟩) (Kd.R_types (Kd.R_types HO519.out BK521.out (by decide)) BK516.out (by decide)) (fun _ hk => hk.1.2) (.slice Ao30 t517.length co30)) (fun _ hk => hk.1.2) (.int .i64 t520)) (fun _ hk => hk.2) (.slice Ao30 t517.length co30)) (fun _ hk => hk.2) (.int .i64 t520)) (fun _ hk => trivial)), by repeat (first | (with_reducible first | exact HB.out | apply bA | apply bN | apply bD | refine bS ?_ (by assumption)) | exact HB.out)⟩

/-! ### furrowref4_Decimal: function 47 -/
mutual
def furrowref4_Decimal.l0 : Nat → Int → ByteArray → Option (ByteArray)
 | 0, _, _ => none
 | k + 1, x0, x3 => if x0 ≥ 10 then ((some (([(wrap64 (48 + (Int.tmod (wrap64 (Int.tdiv x0 10)) 10))) % 256] : List Int) : List Int)).bind fun y527 => (if (strOfNums y527).size + x3.size ≤ 9223372036854775807 then (furrowref4_Decimal.l0 k (wrap64 (Int.tdiv x0 10)) ((strOfNums y527) ++ x3)) else (none))) else (some x3)
def furrowref4_Decimal.f : Nat → Int → Option (ByteArray)
 | 0, _ => none
 | k + 1, a0 => if a0 = (-9223372036854775808) then (some (⟨#[45, 57, 50, 50, 51, 51, 55, 50, 48, 51, 54, 56, 53, 52, 55, 55, 53, 56, 48, 56]⟩ : ByteArray)) else (if a0 < 0 then ((furrowref4_Decimal.f k (wrap64 (-a0))).bind fun t523 => (if 1 + t523.size ≤ 9223372036854775807 then (some ((⟨#[45]⟩ : ByteArray) ++ t523)) else (none))) else (furrowref4_Decimal.l0 k a0 (strOfNums (([(wrap64 (48 + (Int.tmod a0 10))) % 256] : List Int)))))
end
theorem furrowref4_Decimal.mono_l : ∀ k, (∀ y0, LeO (furrowref4_Decimal.f k y0) (furrowref4_Decimal.f (k + 1) y0)) ∧ (∀ y0 y1, LeO (furrowref4_Decimal.l0 k y0 y1) (furrowref4_Decimal.l0 (k + 1) y0 y1))
 | 0 => ⟨fun _ r h => by simp [furrowref4_Decimal.f] at h, fun _ _ r h => by simp [furrowref4_Decimal.l0] at h⟩
 | k + 1 => by
  obtain ⟨ih0, ih1⟩ := furrowref4_Decimal.mono_l k
  refine ⟨?_, ?_⟩
  ·intro y0
   unfold furrowref4_Decimal.f
   repeat' first
   | (with_reducible exact ih0 _)
   | (with_reducible exact ih1 _ _)
   | (with_reducible exact LeO.refl _)
   | (with_reducible exact LeO.none _)
   | (with_reducible refine LeO.ite ?_ ?_)
   | (with_reducible refine LeO.bind ?_ (fun _ => ?_))
   | exact ih0 _
   | exact ih1 _ _
   | exact LeO.none _
   | refine LeO.ite ?_ ?_
   | refine LeO.bind ?_ (fun _ => ?_)
  ·intro y0 y1
   unfold furrowref4_Decimal.l0
   repeat' first
   | (with_reducible exact ih0 _)
   | (with_reducible exact ih1 _ _)
   | (with_reducible exact LeO.refl _)
   | (with_reducible exact LeO.none _)
   | (with_reducible refine LeO.ite ?_ ?_)
   | (with_reducible refine LeO.bind ?_ (fun _ => ?_))
   | exact ih0 _
   | exact ih1 _ _
   | exact LeO.none _
   | refine LeO.ite ?_ ?_
   | refine LeO.bind ?_ (fun _ => ?_)
theorem furrowref4_Decimal.mono : ∀ a0 k, LeO (furrowref4_Decimal.f k a0) (furrowref4_Decimal.f (k + 1) a0) := by
 intro a0 k
 obtain ⟨ih0, ih1⟩ := furrowref4_Decimal.mono_l k
 exact ih0 a0
set_option maxHeartbeats 8000000 in
set_option maxRecDepth 100000 in
theorem furrowref4_Decimal.calls (k : Nat) : ∀ (a0 : Int) (r : ByteArray) (w : World) (h : furrowref4_Decimal.f k a0 = some r),
  Calls Tryd.prog 47 #[.int .i64 a0] w fun e w' => e = .returned (.string r) ∧ Below w.heap.size w w' := by
 induction k using Nat.strongRecOn with
 | _ k ih =>
 intro a0 r w h
 cases k with
 | zero => exact absurd h (by simp [furrowref4_Decimal.f])
 | succ k =>
 simp only [furrowref4_Decimal.f] at h
 have HB := mk0 (Below.refl w.heap.size w)
 have H : (if a0 = (-9223372036854775808) then (some (⟨#[45, 57, 50, 50, 51, 51, 55, 50, 48, 51, 54, 56, 53, 52, 55, 55, 53, 56, 48, 56]⟩ : ByteArray)) else (if a0 < 0 then ((furrowref4_Decimal.f k (wrap64 (-a0))).bind fun t523 => (if 1 + t523.size ≤ 9223372036854775807 then (some ((⟨#[45]⟩ : ByteArray) ++ t523)) else (none))) else (furrowref4_Decimal.l0 k a0 (strOfNums (([(wrap64 (48 + (Int.tmod a0 10))) % 256] : List Int)))))) = some r := h
 clear h
 by_cases c2 : a0 = (-9223372036854775808)
 ·rw [if_pos c2] at H
  have c2b0 : (a0 == (-9223372036854775808)) = true := beq_iff_eq.mpr c2
  have c2b1 : (a0 != (-9223372036854775808)) = false := bne_eq_false_iff_eq.mpr c2
  clear c2
  obtain rfl := Option.some.inj H
  go_enter Tryd.func47, Tryd.ntmps47
  go_wp2
  go_ret
  exact ⟨by first | rfl | (simp [errW_none, errW_some] <;> rfl) | (simp [*, errW_none, errW_some] <;> rfl), uL HB.out⟩
 ·rw [if_neg c2] at H
  have c2b0 : (a0 == (-9223372036854775808)) = false := beq_eq_false_iff_ne.mpr c2
  have c2b1 : (a0 != (-9223372036854775808)) = true := bne_iff_ne.mpr c2
  by_cases c3 : a0 < 0
  ·rw [if_pos c3] at H
   have c3b0 : decide (a0 < 0) = true := decide_eq_true c3
   clear c3
   replace H := Option.bind_eq_some_iff.mp H
   obtain ⟨t523, A40, H⟩ := H
   replace H : (if 1 + t523.size ≤ 9223372036854775807 then (some ((⟨#[45]⟩ : ByteArray) ++ t523)) else (none)) = some r := H
   have A4 := mk0 A40
   clear A40
   by_cases c5 : 1 + t523.size ≤ 9223372036854775807
   ·rw [if_pos c5] at H
    have c5b0 := eq_true c5
    have c5b1 : decide (1 + t523.size ≤ 9223372036854775807) = true := decide_eq_true c5
    try have c5b2 : (9223372036854775807 < 1 + t523.size) = False := eq_false (Nat.not_lt.2 c5)
    obtain rfl := Option.some.inj H
    go_enter Tryd.func47, Tryd.ntmps47
    go_wp2_with (first | ((with_reducible refine gate_callee (f := 47) rfl ?_); refine goesL_ (some 10) rfl rfl Tryd.func47 (by kernel_rfl) rfl #[.int .i64 (wrap64 (-a0))] rfl (by (try simp only [List.map_toArray, List.map_cons, List.map_nil]); first | done | rfl | (simp only [List.length_drop, List.length_take]; rfl)) ?_; (with_reducible refine (ih k (by omega) (wrap64 (-a0)) t523 _ A4.out).mono ?_); rintro e w6 ⟨rfl, hb⟩; refine ⟨_, rfl, ?_⟩; have n0_ := mk0 (below_step (uL HB.out) hb); clear HB; have HB := n0_; clear n0_; (try clear hb); (try clear hb2); (try clear hk); (try clear hi)))
    go_ret
    exact ⟨by first | rfl | (simp [errW_none, errW_some] <;> rfl) | (simp [*, errW_none, errW_some] <;> rfl), uL HB.out⟩
   ·rw [if_neg c5] at H
    exact absurd H (by simp)
  ·rw [if_neg c3] at H
   have c3b0 : decide (a0 < 0) = false := decide_eq_false c3
   clear c3
   obtain ⟨y524, hy524⟩ : ∃ y_ : List Int, y_ = (([(wrap64 (48 + (Int.tmod a0 10))) % 256] : List Int)) := ⟨_, rfl⟩
   replace H : (furrowref4_Decimal.l0 k a0 (strOfNums y524)) = some r := by first | (rw [hy524]; with_reducible exact H) | (have H2_ := (Option.bind_some _ _).symm.trans H; rw [hy524]; with_reducible exact H2_) | (have H2_ := (Option.bind_some _ _).symm.trans H; with_reducible exact H2_) | with_reducible exact H | (rw [hy524]; exact H) | exact H
   have Ny524 := mk0 hy524
   clear hy524
   have H' := mk0 H
   clear H
   go_enter Tryd.func47, Tryd.ntmps47
   go_wp2_with (first | ((with_reducible refine gate_dst (N := 16) rfl ?_); refine Kd.R_lit (Kd.int .u8) _ 5 ?hg (N := 16) ?hd (xs := ([(wrap64 (48 + (Int.tmod a0 10))) % 256] : List Int)) (inner := [.int .u8 ((wrap64 (48 + (Int.tmod a0 10))) % 256)]) (ok := fun _ => True) (okp := fun _ => True) ?hr ?hp (fun _ hk => hk) trivial (Below.refl _ _) (Nat.le_refl _) (by simp) ?_; (case hd => rfl); (case hg => rfl); (case hr => first | (go_simp; done) | (go_simp; rfl)); (case hp => exact (Reps.one (show Kd.M (Kd.int .u8) _ _ _ ((wrap64 (48 + (Int.tmod a0 10))) % 256) [.int .u8 ((wrap64 (48 + (Int.tmod a0 10))) % 256)] from rfl) (Reps.none _ _))); intro v525 w7 ho8 hb hg_ hnew_; clear hg_ hnew_; (first | rw [← Ny524.out] at ho8 | (simp only [Int.reduceToNat] at ho8; rw [← Ny524.out] at ho8)); have n0_ := mk0 (Kd.R_lower ho8 (below_size (uL HB.out))); have n1_ := mk0 (below_step (uL HB.out) hb); clear HB; have HO526 := n0_; have HB := n1_; clear n0_ n1_; clear hb ho8; have hcv9 := own_string (P := Tryd.prog) Tryd.underlying63 Tryd.underlying5 Tryd.underlying9 (Kd.own_of_R HO526.out)))
   go_loopg [0, 3] k (fun kq v0 v3 w' => ∃ (x0_1 : Int) (x3_1 : ByteArray), v0 = .int .i64 x0_1 ∧ v3 = .string x3_1 ∧ Aside0 (furrowref4_Decimal.l0 kq x0_1 x3_1 = some r) ∧ Aside0 (kq ≤ k) ∧ Aside0 (Below w.heap.size w w'))
   case atStart => exact ⟨(a0), (strOfNums y524), (by first | rfl | (simp; done) | (simp [*]; done) | (simp [bne_nil_, beq_nil_]; done)), (by first | rfl | (simp; done) | (simp [*]; done) | (simp [bne_nil_, beq_nil_]; done)), H', ⟨Nat.le_refl _⟩, ⟨uL HB.out⟩⟩
   case round =>
    clear H'
    try clear c2
    try clear c2b0
    try clear c2b1
    try clear p2
    try clear c3
    try clear c3b0
    try clear c4
    try clear c5
    try clear c5b0
    try clear c5b1
    try clear c5b2
    try clear p6
    try clear hcv9
    obtain ⟨x0_1, x3_1, rfl, rfl, HA, HK1, HB⟩ := hrel
    cases gk with
    | zero => exact absurd HA.out (by simp [furrowref4_Decimal.l0])
    | succ k1 =>
     have H := HA.out
     clear HA
     simp only [furrowref4_Decimal.l0] at H
     by_cases c10 : x0_1 ≥ 10
     ·rw [if_pos c10] at H
      have c10b0 : decide (10 ≤ x0_1) = true := decide_eq_true c10
      clear c10
      obtain ⟨y527, hy527⟩ : ∃ y_ : List Int, y_ = (([(wrap64 (48 + (Int.tmod (wrap64 (Int.tdiv x0_1 10)) 10))) % 256] : List Int)) := ⟨_, rfl⟩
      replace H : (if (strOfNums y527).size + x3_1.size ≤ 9223372036854775807 then (furrowref4_Decimal.l0 k1 (wrap64 (Int.tdiv x0_1 10)) ((strOfNums y527) ++ x3_1)) else (none)) = some r := by first | (rw [hy527]; with_reducible exact H) | (have H2_ := (Option.bind_some _ _).symm.trans H; rw [hy527]; with_reducible exact H2_) | (have H2_ := (Option.bind_some _ _).symm.trans H; with_reducible exact H2_) | with_reducible exact H | (rw [hy527]; exact H) | exact H
      have Ny527 := mk0 hy527
      clear hy527
      by_cases c11 : (strOfNums y527).size + x3_1.size ≤ 9223372036854775807
      ·rw [if_pos c11] at H
       have c11b0 := eq_true c11
       have c11b1 : decide ((strOfNums y527).size + x3_1.size ≤ 9223372036854775807) = true := decide_eq_true c11
       try have c11b2 : (9223372036854775807 < (strOfNums y527).size + x3_1.size) = False := eq_false (Nat.not_lt.2 c11)
       have H' := mk0 H
       clear H
       go_wp2_with (first | ((with_reducible refine gate_dst (N := 26) rfl ?_); refine Kd.R_lit (Kd.int .u8) _ 5 ?hg (N := 26) ?hd (xs := ([(wrap64 (48 + (Int.tmod (wrap64 (Int.tdiv x0_1 10)) 10))) % 256] : List Int)) (inner := [.int .u8 ((wrap64 (48 + (Int.tmod (wrap64 (Int.tdiv x0_1 10)) 10))) % 256)]) (ok := fun _ => True) (okp := fun _ => True) ?hr ?hp (fun _ hk => hk) trivial (Below.refl _ _) (Nat.le_refl _) (by simp) ?_; (case hd => rfl); (case hg => rfl); (case hr => first | (go_simp; done) | (go_simp; rfl)); (case hp => exact (Reps.one (show Kd.M (Kd.int .u8) _ _ _ ((wrap64 (48 + (Int.tmod (wrap64 (Int.tdiv x0_1 10)) 10))) % 256) [.int .u8 ((wrap64 (48 + (Int.tmod (wrap64 (Int.tdiv x0_1 10)) 10))) % 256)] from rfl) (Reps.none _ _))); intro v528 w12 ho13 hb hg_ hnew_; clear hg_ hnew_; (first | rw [← Ny527.out] at ho13 | (simp only [Int.reduceToNat] at ho13; rw [← Ny527.out] at ho13)); have n0_ := mk0 (Kd.R_lower ho13 (below_size (uL HB.out))); have n1_ := mk0 (below_step (uL HB.out) hb); clear HB; have HO529 := n0_; have HB := n1_; clear n0_ n1_; clear hb ho13; have hcv14 := own_string (P := Tryd.prog) Tryd.underlying63 Tryd.underlying5 Tryd.underlying9 (Kd.own_of_R HO529.out)))
       go_roundg k1
       case measure => have := HK1.out; omega
       case rel => exact ⟨(wrap64 (Int.tdiv x0_1 10)), ((strOfNums y527) ++ x3_1), (by first | rfl | (simp; done) | (simp [*]; done) | (simp [bne_nil_, beq_nil_]; done)), (by first | rfl | (simp; done) | (simp [*]; done) | (simp [bne_nil_, beq_nil_]; done)), H', ⟨by have := HK1.out; omega⟩, ⟨uL HB.out⟩⟩
      ·rw [if_neg c11] at H
       exact absurd H (by simp)
     ·rw [if_neg c10] at H
      have c10b0 : decide (10 ≤ x0_1) = false := decide_eq_false c10
      clear c10
      obtain rfl := Option.some.inj H
      go_wp2
      go_ret
      exact ⟨by first | rfl | (simp [errW_none, errW_some] <;> rfl) | (simp [*, errW_none, errW_some] <;> rfl), uL HB.out⟩

/-! ### furrowref14_size: function 48 -/
def furrowref14_size.f (k : Nat) (a0 : Int) : Option (ByteArray) := (furrowref4_Decimal.f k a0).bind fun t530 => (if a0 < 0 then (if 1 ≤ (t530.size : Int) then (some (t530.extract 1 t530.size)) else (none)) else (some t530))
theorem furrowref14_size.mono : ∀ a0 k, LeO (furrowref14_size.f k a0) (furrowref14_size.f (k + 1) a0) := by
 intro a0 k
 unfold furrowref14_size.f
 repeat' first
   | (with_reducible exact furrowref4_Decimal.mono _ _)
   | (with_reducible exact LeO.refl _)
   | (with_reducible exact LeO.none _)
   | (with_reducible refine LeO.ite ?_ ?_)
   | (with_reducible refine LeO.bind ?_ (fun _ => ?_))
   | exact furrowref4_Decimal.mono _ _
   | exact LeO.none _
   | refine LeO.ite ?_ ?_
   | refine LeO.bind ?_ (fun _ => ?_)
set_option maxHeartbeats 8000000 in
set_option maxRecDepth 100000 in
theorem furrowref14_size.calls (k : Nat) (a0 : Int) (r : ByteArray) (w : World) (h : furrowref14_size.f k a0 = some r) :
  Calls Tryd.prog 48 #[.int .i64 a0] w fun e w' => e = .returned (.string r) ∧ Below w.heap.size w w' := by
 have HB := mk0 (Below.refl w.heap.size w)
 have H : ((furrowref4_Decimal.f k a0).bind fun t530 => (if a0 < 0 then (if 1 ≤ (t530.size : Int) then (some (t530.extract 1 t530.size)) else (none)) else (some t530))) = some r := h
 clear h
 replace H := Option.bind_eq_some_iff.mp H
 obtain ⟨t530, A20, H⟩ := H
 replace H : (if a0 < 0 then (if 1 ≤ (t530.size : Int) then (some (t530.extract 1 t530.size)) else (none)) else (some t530)) = some r := H
 have A2 := mk0 A20
 clear A20
 by_cases c3 : a0 < 0
 ·rw [if_pos c3] at H
  have c3b0 : decide (a0 < 0) = true := decide_eq_true c3
  clear c3
  by_cases c4 : 1 ≤ (t530.size : Int)
  ·rw [if_pos c4] at H
   have c4b0 := eq_true c4
   have c4b1 : decide (1 ≤ (t530.size : Int)) = true := decide_eq_true c4
   clear c4
   obtain rfl := Option.some.inj H
   go_enter Tryd.func48, Tryd.ntmps48
   go_wp2_with (first | ((with_reducible refine gate_callee (f := 47) rfl ?_); refine goesL_ (some 5) rfl rfl Tryd.func47 (by kernel_rfl) rfl #[.int .i64 a0] rfl (by (try simp only [List.map_toArray, List.map_cons, List.map_nil]); first | done | rfl | (simp only [List.length_drop, List.length_take]; rfl)) ?_; (with_reducible refine (furrowref4_Decimal.calls k a0 t530 _ A2.out).mono ?_); rintro e w5 ⟨rfl, hb⟩; refine ⟨_, rfl, ?_⟩; have n0_ := mk0 (below_step (uL HB.out) hb); clear HB; have HB := n0_; clear n0_; (try clear hb); (try clear hb2); (try clear hk); (try clear hi)))
   go_ret
   exact ⟨by first | rfl | (simp [errW_none, errW_some] <;> rfl) | (simp [*, errW_none, errW_some] <;> rfl), uL HB.out⟩
  ·rw [if_neg c4] at H
   exact absurd H (by simp)
 ·rw [if_neg c3] at H
  have c3b0 : decide (a0 < 0) = false := decide_eq_false c3
  clear c3
  obtain rfl := Option.some.inj H
  go_enter Tryd.func48, Tryd.ntmps48
  go_wp2_with (first | ((with_reducible refine gate_callee (f := 47) rfl ?_); refine goesL_ (some 5) rfl rfl Tryd.func47 (by kernel_rfl) rfl #[.int .i64 a0] rfl (by (try simp only [List.map_toArray, List.map_cons, List.map_nil]); first | done | rfl | (simp only [List.length_drop, List.length_take]; rfl)) ?_; (with_reducible refine (furrowref4_Decimal.calls k a0 t530 _ A2.out).mono ?_); rintro e w6 ⟨rfl, hb⟩; refine ⟨_, rfl, ?_⟩; have n0_ := mk0 (below_step (uL HB.out) hb); clear HB; have HB := n0_; clear n0_; (try clear hb); (try clear hb2); (try clear hk); (try clear hi)))
  go_ret
  exact ⟨by first | rfl | (simp [errW_none, errW_some] <;> rfl) | (simp [*, errW_none, errW_some] <;> rfl), uL HB.out⟩

/-! ### furrowref14_put: function 49 -/
def furrowref14_put.j0 : Nat → ByteArray → Bool → ByteArray → Bool → Option (ByteArray)
 | 0, _, _, _, _ => none
 | k + 1, x0, x1, x2, x7 => if x7 = true then (if 1 + x2.size ≤ 9223372036854775807 then (some ((⟨#[45]⟩ : ByteArray) ++ x2)) else (none)) else (if x0.toList = ([] : List UInt8) then (some x2) else (if x1 = true then (if x0.size + 3 ≤ 9223372036854775807 then (if (x0 ++ (⟨#[32, 45, 32]⟩ : ByteArray)).size + x2.size ≤ 9223372036854775807 then (some ((x0 ++ (⟨#[32, 45, 32]⟩ : ByteArray)) ++ x2)) else (none)) else (none)) else (if x0.size + 3 ≤ 9223372036854775807 then (if (x0 ++ (⟨#[32, 43, 32]⟩ : ByteArray)).size + x2.size ≤ 9223372036854775807 then (some ((x0 ++ (⟨#[32, 43, 32]⟩ : ByteArray)) ++ x2)) else (none)) else (none))))
def furrowref14_put.f (k : Nat) (a0 : ByteArray) (a1 : Bool) (a2 : ByteArray) : Option (ByteArray) := if a0.toList = ([] : List UInt8) then (furrowref14_put.j0 k a0 a1 a2 a1) else (furrowref14_put.j0 k a0 a1 a2 false)
theorem furrowref14_put.mono_l : ∀ k, (∀ y0 y1 y2 y3, LeO (furrowref14_put.j0 k y0 y1 y2 y3) (furrowref14_put.j0 (k + 1) y0 y1 y2 y3))
 | 0 => fun _ _ _ _ r h => by simp [furrowref14_put.j0] at h
 | k + 1 => by
  have ih0 := furrowref14_put.mono_l k
  ·intro y0 y1 y2 y3
   unfold furrowref14_put.j0
   repeat' first
   | (with_reducible exact ih0 _ _ _ _)
   | (with_reducible exact LeO.refl _)
   | (with_reducible exact LeO.none _)
   | (with_reducible refine LeO.ite ?_ ?_)
   | (with_reducible refine LeO.bind ?_ (fun _ => ?_))
   | exact ih0 _ _ _ _
   | exact LeO.none _
   | refine LeO.ite ?_ ?_
   | refine LeO.bind ?_ (fun _ => ?_)
theorem furrowref14_put.mono : ∀ a0 a1 a2 k, LeO (furrowref14_put.f k a0 a1 a2) (furrowref14_put.f (k + 1) a0 a1 a2) := by
 intro a0 a1 a2 k
 have ih0 := furrowref14_put.mono_l k
 unfold furrowref14_put.f
 repeat' first
   | (with_reducible exact ih0 _ _ _ _)
   | (with_reducible exact LeO.refl _)
   | (with_reducible exact LeO.none _)
   | (with_reducible refine LeO.ite ?_ ?_)
   | (with_reducible refine LeO.bind ?_ (fun _ => ?_))
   | exact ih0 _ _ _ _
   | exact LeO.none _
   | refine LeO.ite ?_ ?_
   | refine LeO.bind ?_ (fun _ => ?_)
set_option maxHeartbeats 8000000 in
set_option maxRecDepth 100000 in
theorem furrowref14_put.calls (k : Nat) (a0 : ByteArray) (a1 : Bool) (a2 : ByteArray) (r : ByteArray) (w : World) (h : furrowref14_put.f k a0 a1 a2 = some r) :
  Calls Tryd.prog 49 #[.string a0, .bool a1, .string a2] w fun e w' => e = .returned (.string r) ∧ Drawn0 w w' := by
 have H : (if a0.toList = ([] : List UInt8) then (furrowref14_put.j0 k a0 a1 a2 a1) else (furrowref14_put.j0 k a0 a1 a2 false)) = some r := h
 clear h
 have HC4 := mk0 H
 clear H
 go_enter Tryd.func49, Tryd.ntmps49
 go_upto_region 1 with (fail)
 go_cut [7] (fun v7 wc => ∃ (kq : Nat) (x7_3 : Bool), v7 = .bool x7_3 ∧ Aside0 (furrowref14_put.j0 kq a0 a1 a2 x7_3 = some r) ∧ Aside0 (kq ≤ k) ∧ Drawn0 w wc)
 case first =>
  have H := HC4.out
  clear HC4
  by_cases c5 : a0.toList = ([] : List UInt8)
  ·rw [if_pos c5] at H
   have c5b0 : (a0.toList == ([] : List UInt8)) = true := beq_iff_eq.mpr c5
   have c5b1 : (a0.toList != ([] : List UInt8)) = false := bne_eq_false_iff_eq.mpr c5
   clear c5
   (first | rw [c5b0] | (simp only [i64_w, i32_w]; rw [c5b0]) | skip)
   have H' := mk0 H
   clear H
   go_wp2
   go_meet
   case rel => exact ⟨_, (a1), (by first | rfl | (simp; done) | (simp [*]; done) | (simp [bne_nil_, beq_nil_]; done)), H', ⟨by first | omega | exact Nat.le_refl _⟩, by repeat (first | exact Drawn0.refl _ | apply Drawn0.step)⟩
  ·rw [if_neg c5] at H
   have c5b0 : (a0.toList == ([] : List UInt8)) = false := beq_eq_false_iff_ne.mpr c5
   have c5b1 : (a0.toList != ([] : List UInt8)) = true := bne_iff_ne.mpr c5
   (first | rw [c5b0] | (simp only [i64_w, i32_w]; rw [c5b0]) | skip)
   have H' := mk0 H
   clear H
   go_wp2
   go_meet
   case rel => exact ⟨_, (false), (by first | rfl | (simp; done) | (simp [*]; done) | (simp [bne_nil_, beq_nil_]; done)), H', ⟨by first | omega | exact Nat.le_refl _⟩, by repeat (first | exact Drawn0.refl _ | apply Drawn0.step)⟩
 case rest =>
  clear HC4
  try clear p2
  try clear c4
  try clear c5
  try clear c5b0
  try clear c5b1
  obtain ⟨kq, x7_3, rfl, HA, HJ3, ⟨mc3, rfl⟩⟩ := hcut
  cases kq with
  | zero => exact absurd HA.out (by simp [furrowref14_put.j0])
  | succ kj3 =>
   have H := HA.out
   clear HA
   simp only [furrowref14_put.j0] at H
   by_cases c6 : x7_3 = true
   ·subst c6
    have H1 : (if 1 + a2.size ≤ 9223372036854775807 then (some ((⟨#[45]⟩ : ByteArray) ++ a2)) else (none)) = some r := by rw [if_pos rfl] at H; exact H
    clear H
    have H := H1
    clear H1
    by_cases c7 : 1 + a2.size ≤ 9223372036854775807
    ·rw [if_pos c7] at H
     have c7b0 := eq_true c7
     have c7b1 : decide (1 + a2.size ≤ 9223372036854775807) = true := decide_eq_true c7
     try have c7b2 : (9223372036854775807 < 1 + a2.size) = False := eq_false (Nat.not_lt.2 c7)
     obtain rfl := Option.some.inj H
     go_wp2
     go_ret
     exact ⟨by first | rfl | (simp; done) | (simp [*]; done) | (simp [bne_nil_, beq_nil_]; done), by repeat (first | exact Drawn0.refl _ | apply Drawn0.step)⟩
    ·rw [if_neg c7] at H
     exact absurd H (by simp)
   ·replace c6 := Bool.eq_false_iff.mpr c6
    subst c6
    have H1 : (if a0.toList = ([] : List UInt8) then (some a2) else (if a1 = true then (if a0.size + 3 ≤ 9223372036854775807 then (if (a0 ++ (⟨#[32, 45, 32]⟩ : ByteArray)).size + a2.size ≤ 9223372036854775807 then (some ((a0 ++ (⟨#[32, 45, 32]⟩ : ByteArray)) ++ a2)) else (none)) else (none)) else (if a0.size + 3 ≤ 9223372036854775807 then (if (a0 ++ (⟨#[32, 43, 32]⟩ : ByteArray)).size + a2.size ≤ 9223372036854775807 then (some ((a0 ++ (⟨#[32, 43, 32]⟩ : ByteArray)) ++ a2)) else (none)) else (none)))) = some r := by rw [if_neg (show ¬ (false = true) by decide)] at H; exact H
    clear H
    have H := H1
    clear H1
    by_cases c8 : a0.toList = ([] : List UInt8)
    ·rw [if_pos c8] at H
     have c8b0 : (a0.toList == ([] : List UInt8)) = true := beq_iff_eq.mpr c8
     have c8b1 : (a0.toList != ([] : List UInt8)) = false := bne_eq_false_iff_eq.mpr c8
     clear c8
     obtain rfl := Option.some.inj H
     go_wp2
     go_ret
     exact ⟨by first | rfl | (simp; done) | (simp [*]; done) | (simp [bne_nil_, beq_nil_]; done), by repeat (first | exact Drawn0.refl _ | apply Drawn0.step)⟩
    ·rw [if_neg c8] at H
     have c8b0 : (a0.toList == ([] : List UInt8)) = false := beq_eq_false_iff_ne.mpr c8
     have c8b1 : (a0.toList != ([] : List UInt8)) = true := bne_iff_ne.mpr c8
     by_cases c9 : a1 = true
     ·subst c9
      have H1 : (if a0.size + 3 ≤ 9223372036854775807 then (if (a0 ++ (⟨#[32, 45, 32]⟩ : ByteArray)).size + a2.size ≤ 9223372036854775807 then (some ((a0 ++ (⟨#[32, 45, 32]⟩ : ByteArray)) ++ a2)) else (none)) else (none)) = some r := by rw [if_pos rfl] at H; exact H
      clear H
      have H := H1
      clear H1
      by_cases c10 : a0.size + 3 ≤ 9223372036854775807
      ·rw [if_pos c10] at H
       have c10b0 := eq_true c10
       have c10b1 : decide (a0.size + 3 ≤ 9223372036854775807) = true := decide_eq_true c10
       try have c10b2 : (9223372036854775807 < a0.size + 3) = False := eq_false (Nat.not_lt.2 c10)
       by_cases c11 : (a0 ++ (⟨#[32, 45, 32]⟩ : ByteArray)).size + a2.size ≤ 9223372036854775807
       ·rw [if_pos c11] at H
        have c11b0 := eq_true c11
        have c11b1 : decide ((a0 ++ (⟨#[32, 45, 32]⟩ : ByteArray)).size + a2.size ≤ 9223372036854775807) = true := decide_eq_true c11
        try have c11b2 : (9223372036854775807 < (a0 ++ (⟨#[32, 45, 32]⟩ : ByteArray)).size + a2.size) = False := eq_false (Nat.not_lt.2 c11)
        obtain rfl := Option.some.inj H
        go_wp2
        go_ret
        exact ⟨by first | rfl | (simp; done) | (simp [*]; done) | (simp [bne_nil_, beq_nil_]; done), by repeat (first | exact Drawn0.refl _ | apply Drawn0.step)⟩
       ·rw [if_neg c11] at H
        exact absurd H (by simp)
      ·rw [if_neg c10] at H
       exact absurd H (by simp)
     ·replace c9 := Bool.eq_false_iff.mpr c9
      subst c9
      have H1 : (if a0.size + 3 ≤ 9223372036854775807 then (if (a0 ++ (⟨#[32, 43, 32]⟩ : ByteArray)).size + a2.size ≤ 9223372036854775807 then (some ((a0 ++ (⟨#[32, 43, 32]⟩ : ByteArray)) ++ a2)) else (none)) else (none)) = some r := by rw [if_neg (show ¬ (false = true) by decide)] at H; exact H
      clear H
      have H := H1
      clear H1
      by_cases c12 : a0.size + 3 ≤ 9223372036854775807
      ·rw [if_pos c12] at H
       have c12b0 := eq_true c12
       have c12b1 : decide (a0.size + 3 ≤ 9223372036854775807) = true := decide_eq_true c12
       try have c12b2 : (9223372036854775807 < a0.size + 3) = False := eq_false (Nat.not_lt.2 c12)
       by_cases c13 : (a0 ++ (⟨#[32, 43, 32]⟩ : ByteArray)).size + a2.size ≤ 9223372036854775807
       ·rw [if_pos c13] at H
        have c13b0 := eq_true c13
        have c13b1 : decide ((a0 ++ (⟨#[32, 43, 32]⟩ : ByteArray)).size + a2.size ≤ 9223372036854775807) = true := decide_eq_true c13
        try have c13b2 : (9223372036854775807 < (a0 ++ (⟨#[32, 43, 32]⟩ : ByteArray)).size + a2.size) = False := eq_false (Nat.not_lt.2 c13)
        obtain rfl := Option.some.inj H
        go_wp2
        go_ret
        exact ⟨by first | rfl | (simp; done) | (simp [*]; done) | (simp [bne_nil_, beq_nil_]; done), by repeat (first | exact Drawn0.refl _ | apply Drawn0.step)⟩
       ·rw [if_neg c13] at H
        exact absurd H (by simp)
      ·rw [if_neg c12] at H
       exact absurd H (by simp)

end Go.Proofs.YtmnifoeodohphaaDoor.X
