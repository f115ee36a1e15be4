-- PRINTED by print.py (a twelfth state) out of the translation. Not trusted: Lean checks it.
import Derived.Test.YtmnifoeodohphaaDoorXx0
import Derived.Test.YtmnifoeodohphaaDoorXx1
namespace Go.Proofs.YtmnifoeodohphaaDoor.X
open Go.Proofs.YtmnifoeodohphaaDoor.Flt Go.Proofs.YtmnifoeodohphaaDoor.H Go.RowKit Go.Proofs.YtmnifoeodohphaaDoorW.PrintWords Go.Proofs.YtmnifoeodohphaaDoorW.PrintLast Go.Proofs.YtmnifoeodohphaaDoorW.PrintMore
attribute [local go_sem] max2_int min2_int max_two min_two max_three min_three max_four min_four   -- for this text's walks alone
set_option linter.unusedVariables false
set_option linter.unusedSimpArgs false

/-! ### num_Mul: function 39 -/
mutual
def num_Mul.j0 : Nat → Int → Int → Bool → Int → Option (Int × Bool)
 | 0, _, _, _, _ => none
 | k + 1, x6, x7, x8, x9 => if x6 > 0 then (num_Mul.j1 k x7 x8 true) else (num_Mul.j1 k x7 x8 (decide (x7 > x9)))
def num_Mul.j1 : Nat → Int → Bool → Bool → Option (Int × Bool)
 | 0, _, _, _ => none
 | k + 1, x7, x8, x32 => if x32 = true then (some (0, false)) else (if x8 = true then (some (wrap64 (IntKind.u64.wrap (-x7)), true)) else (some (wrap64 (x7), true)))
end
def num_Mul.f (k : Nat) (a0 : Int) (a1 : Int) : Option (Int × Bool) := (num_size.f a0).bind fun t108 => ((num_size.f a1).bind fun t109 => ((bits_Mul64.f t108 t109).bind fun bt110 => (if ((decide (a0 < 0)) != (decide (a1 < 0))) = true then (num_Mul.j0 k bt110.1 bt110.2 ((decide (a0 < 0)) != (decide (a1 < 0))) (9223372036854775807 + 1)) else (num_Mul.j0 k bt110.1 bt110.2 ((decide (a0 < 0)) != (decide (a1 < 0))) 9223372036854775807))))
theorem num_Mul.mono_l : ∀ k, (∀ y0 y1 y2 y3, LeO (num_Mul.j0 k y0 y1 y2 y3) (num_Mul.j0 (k + 1) y0 y1 y2 y3)) ∧ (∀ y0 y1 y2, LeO (num_Mul.j1 k y0 y1 y2) (num_Mul.j1 (k + 1) y0 y1 y2))
 | 0 => ⟨fun _ _ _ _ r h => by simp [num_Mul.j0] at h, fun _ _ _ r h => by simp [num_Mul.j1] at h⟩
 | k + 1 => by
  obtain ⟨ih0, ih1⟩ := num_Mul.mono_l k; refine ⟨?_, ?_⟩
  ·intro y0 y1 y2 y3
   unfold num_Mul.j0
   repeat' first
   | (with_reducible exact ih0 _ _ _ _)
   | (with_reducible exact ih1 _ _ _)
   | (with_reducible exact LeO.refl _)
   | (with_reducible exact LeO.none _)
   | (with_reducible refine LeO.ite ?_ ?_)
   | (with_reducible refine LeO.bind ?_ (fun _ => ?_))
   | exact ih0 _ _ _ _
   | exact ih1 _ _ _
   | exact LeO.none _
   | refine LeO.ite ?_ ?_
   | refine LeO.bind ?_ (fun _ => ?_)
  ·intro y0 y1 y2
   unfold num_Mul.j1
   repeat' first
   | (with_reducible exact ih0 _ _ _ _)
   | (with_reducible exact ih1 _ _ _)
   | (with_reducible exact LeO.refl _)
   | (with_reducible exact LeO.none _)
   | (with_reducible refine LeO.ite ?_ ?_)
   | (with_reducible refine LeO.bind ?_ (fun _ => ?_))
   | exact ih0 _ _ _ _
   | exact ih1 _ _ _
   | exact LeO.none _
   | refine LeO.ite ?_ ?_
   | refine LeO.bind ?_ (fun _ => ?_)
theorem num_Mul.mono : ∀ a0 a1 k, LeO (num_Mul.f k a0 a1) (num_Mul.f (k + 1) a0 a1) := by
 intro a0 a1 k
 obtain ⟨ih0, ih1⟩ := num_Mul.mono_l k
 unfold num_Mul.f
 repeat' first
   | (with_reducible exact ih0 _ _ _ _)
   | (with_reducible exact ih1 _ _ _)
   | (with_reducible exact LeO.refl _)
   | (with_reducible exact LeO.none _)
   | (with_reducible refine LeO.ite ?_ ?_)
   | (with_reducible refine LeO.bind ?_ (fun _ => ?_))
   | exact ih0 _ _ _ _
   | exact ih1 _ _ _
   | exact LeO.none _
   | refine LeO.ite ?_ ?_
   | refine LeO.bind ?_ (fun _ => ?_)
set_option maxHeartbeats 8000000 in
set_option maxRecDepth 100000 in
theorem num_Mul.calls (k : Nat) (a0 : Int) (a1 : Int) (r1 : Int) (r2 : Bool) (w : World) (h : num_Mul.f k a0 a1 = some (r1, r2)) :
  Calls Tryd.prog 39 #[.int .i64 a0, .int .i64 a1] w fun e w' => e = .returned (.tuple #[.int .i64 r1, .bool r2]) ∧ Drawn0 w w' := by
 have H : ((num_size.f a0).bind fun t108 => ((num_size.f a1).bind fun t109 => ((bits_Mul64.f t108 t109).bind fun bt110 => (if ((decide (a0 < 0)) != (decide (a1 < 0))) = true then (num_Mul.j0 k bt110.1 bt110.2 ((decide (a0 < 0)) != (decide (a1 < 0))) (9223372036854775807 + 1)) else (num_Mul.j0 k bt110.1 bt110.2 ((decide (a0 < 0)) != (decide (a1 < 0))) 9223372036854775807))))) = some (r1, r2) := h
 clear h
 replace H := Option.bind_eq_some_iff.mp H
 obtain ⟨t108, A30, H⟩ := H
 have A3 := mk0 A30
 clear A30
 replace H := Option.bind_eq_some_iff.mp H
 obtain ⟨t109, A40, H⟩ := H
 have A4 := mk0 A40
 clear A40
 replace H := Option.bind_eq_some_iff.mp H
 obtain ⟨⟨t110, t111⟩, A50, H⟩ := H
 dsimp only at H
 have A5 := mk0 A50
 clear A50
 have HC6 := mk0 H
 clear H
 go_enter Tryd.func39, Tryd.ntmps39
 go_upto_if 23 with (first | ((with_reducible refine gate_dst (N := 12) rfl ?_); refine gsM (some 12) Tryd.func51 #[.int .i64 a0] ?_; (with_reducible refine (num_size.calls a0 t108 _ A3.out).mono ?_); rintro e w' ⟨rfl, ⟨nd, rfl⟩⟩; refine ⟨_, rfl, ?_⟩) | ((with_reducible refine gate_dst (N := 14) rfl ?_); refine gsM (some 14) Tryd.func51 #[.int .i64 a1] ?_; (with_reducible refine (num_size.calls a1 t109 _ A4.out).mono ?_); rintro e w' ⟨rfl, ⟨nd, rfl⟩⟩; refine ⟨_, rfl, ?_⟩) | ((with_reducible refine gate_dst (N := 15) rfl ?_); refine gsM (some 15) Tryd.func50 #[.int .u64 t108, .int .u64 t109] ?_; (with_reducible refine (bits_Mul64.calls t108 t109 t110 t111 _ A5.out).mono ?_); rintro e w' ⟨rfl, ⟨nd, rfl⟩⟩; refine ⟨_, rfl, ?_⟩))
 (try simp only [Act.put, List.setIfInBounds_toArray, List.set_cons_zero, List.set_cons_succ])
 go_cut [9] (fun v9 wc => ∃ (kq : Nat) (x9_5 : Int), v9 = .int .u64 x9_5 ∧ Aside0 (num_Mul.j0 kq t110 t111 ((decide (a0 < 0)) != (decide (a1 < 0))) x9_5 = some (r1, r2)) ∧ Aside0 (kq ≤ k) ∧ Drawn0 w wc)
 case first =>
  have H := HC6.out; clear HC6
  by_cases c7 : ((decide (a0 < 0)) != (decide (a1 < 0))) = true
  ·rw [if_pos c7] at H
   have c7b0 : ((decide (a0 < 0)) != (decide (a1 < 0))) = true := c7; (try (have c7b1 : decide ((decide (a0 < 0)) = (decide (a1 < 0))) = false := by (revert c7; generalize ((decide (a0 < 0))) = p_; generalize ((decide (a1 < 0))) = q_; revert p_ q_; decide))); (try (have c7b2 : ((decide (a0 < 0)) == (decide (a1 < 0))) = false := by (revert c7; generalize ((decide (a0 < 0))) = p_; generalize ((decide (a1 < 0))) = q_; revert p_ q_; decide))); (try (have c7b3 : ¬ ((decide (a0 < 0)) = (decide (a1 < 0))) := by (revert c7; generalize ((decide (a0 < 0))) = p_; generalize ((decide (a1 < 0))) = q_; revert p_ q_; decide))); clear c7; (first | rw [c7b0] | (simp only [i64_w, i32_w]; rw [c7b0]) | skip); have H' := mk0 H; clear H; go_wp2
   all_goals (try (exfalso; rename_i h_; rw [c7b2] at h_; revert h_; decide))
   go_meet
   case rel => exact ⟨_, (9223372036854775807 + 1), (by first | rfl | (simp; done) | (simp [*]; done) | (simp [bne_nil_, beq_nil_]; done)), H', ⟨by first | omega | exact Nat.le_refl _⟩, by repeat (first | exact Drawn0.refl _ | apply Drawn0.step)⟩
  ·rw [if_neg c7] at H
   (have c7b0 : ((decide (a0 < 0)) != (decide (a1 < 0))) = false := by simpa using c7); (try (have c7b1 : decide ((decide (a0 < 0)) = (decide (a1 < 0))) = true := by (revert c7; generalize ((decide (a0 < 0))) = p_; generalize ((decide (a1 < 0))) = q_; revert p_ q_; decide))); (try (have c7b2 : ((decide (a0 < 0)) == (decide (a1 < 0))) = true := by (revert c7; generalize ((decide (a0 < 0))) = p_; generalize ((decide (a1 < 0))) = q_; revert p_ q_; decide))); clear c7; (first | rw [c7b0] | (simp only [i64_w, i32_w]; rw [c7b0]) | skip); have H' := mk0 H; clear H; go_wp2
   all_goals (try (exfalso; rename_i h_; rw [c7b2] at h_; revert h_; decide))
   go_meet
   case rel => exact ⟨_, (9223372036854775807), (by first | rfl | (simp; done) | (simp [*]; done) | (simp [bne_nil_, beq_nil_]; done)), H', ⟨by first | omega | exact Nat.le_refl _⟩, by repeat (first | exact Drawn0.refl _ | apply Drawn0.step)⟩
 case rest =>
  clear HC6; (try clear p2); (try clear c3); (try clear c5); (try clear c7); (try clear c7b0); (try clear c7b1); (try clear c7b2); obtain ⟨kq, x9_5, rfl, HA, HJ5, ⟨mc5, rfl⟩⟩ := hcut
  cases kq with
  | zero => exact absurd HA.out (by simp [num_Mul.j0])
  | succ kj5 =>
   have H := HA.out; clear HA; simp only [num_Mul.j0] at H; have HC8 := mk0 H; clear H
   go_upto_region 6 with (fail)
   go_cut [32] (fun v32 wc => ∃ (kq : Nat) (x32_7 : Bool), v32 = .bool x32_7 ∧ Aside0 (num_Mul.j1 kq t111 ((decide (a0 < 0)) != (decide (a1 < 0))) x32_7 = some (r1, r2)) ∧ Aside0 (kq ≤ kj5) ∧ Drawn0 w wc)
   case first =>
    have H := HC8.out; clear HC8
    by_cases c9 : t110 > 0
    ·rw [if_pos c9] at H
     have c9b0 : decide (0 < t110) = true := decide_eq_true c9; clear c9; (first | rw [c9b0] | (simp only [i64_w, i32_w]; rw [c9b0]) | skip); have H' := mk0 H; clear H; go_wp2
     go_meet
     case rel => exact ⟨_, (true), (by first | rfl | (simp; done) | (simp [*]; done) | (simp [bne_nil_, beq_nil_]; done)), H', ⟨by have := HJ5.out; first | omega | exact Nat.le_refl _⟩, by repeat (first | exact Drawn0.refl _ | apply Drawn0.step)⟩
    ·rw [if_neg c9] at H
     have c9b0 : decide (0 < t110) = false := decide_eq_false c9; clear c9; (first | rw [c9b0] | (simp only [i64_w, i32_w]; rw [c9b0]) | skip); have H' := mk0 H; clear H; go_wp2
     go_meet
     case rel => exact ⟨_, (decide (t111 > x9_5)), (by first | rfl | (simp; done) | (simp [*]; done) | (simp [bne_nil_, beq_nil_]; done)), H', ⟨by have := HJ5.out; first | omega | exact Nat.le_refl _⟩, by repeat (first | exact Drawn0.refl _ | apply Drawn0.step)⟩
   case rest =>
    clear HC8; (try clear p2); (try clear c3); (try clear c5); (try clear c7); (try clear c7b0); (try clear c7b1); (try clear c7b2); (try clear c9); (try clear c9b0); (try clear p2); obtain ⟨kq, x32_7, rfl, HA, HJ7, ⟨mc7, rfl⟩⟩ := hcut
    cases kq with
    | zero => exact absurd HA.out (by simp [num_Mul.j1])
    | succ kj7 =>
     have H := HA.out; clear HA; simp only [num_Mul.j1] at H
     by_cases c10 : x32_7 = true
     ·subst c10
      (have H1 : (some (0, false)) = some (r1, r2) := by rw [if_pos rfl] at H; exact H); clear H; have H := H1; clear H1; simp only [Option.some.injEq, Prod.mk.injEq] at H; obtain ⟨rfl, rfl⟩ := H; go_wp2
      go_ret2
      exact ⟨by first | rfl | (simp; done) | (simp [*]; done) | (simp [bne_nil_, beq_nil_]; done), by repeat (first | exact Drawn0.refl _ | apply Drawn0.step)⟩
     ·replace c10 := Bool.eq_false_iff.mpr c10
      subst c10; (have H1 : (if ((decide (a0 < 0)) != (decide (a1 < 0))) = true then (some (wrap64 (IntKind.u64.wrap (-t111)), true)) else (some (wrap64 (t111), true))) = some (r1, r2) := by rw [if_neg (show ¬ (false = true) by decide)] at H; exact H); clear H; have H := H1; clear H1
      by_cases c11 : ((decide (a0 < 0)) != (decide (a1 < 0))) = true
      ·rw [if_pos c11] at H
       have c11b0 : ((decide (a0 < 0)) != (decide (a1 < 0))) = true := c11; (try (have c11b1 : decide ((decide (a0 < 0)) = (decide (a1 < 0))) = false := by (revert c11; generalize ((decide (a0 < 0))) = p_; generalize ((decide (a1 < 0))) = q_; revert p_ q_; decide))); (try (have c11b2 : ((decide (a0 < 0)) == (decide (a1 < 0))) = false := by (revert c11; generalize ((decide (a0 < 0))) = p_; generalize ((decide (a1 < 0))) = q_; revert p_ q_; decide))); (try (have c11b3 : ¬ ((decide (a0 < 0)) = (decide (a1 < 0))) := by (revert c11; generalize ((decide (a0 < 0))) = p_; generalize ((decide (a1 < 0))) = q_; revert p_ q_; decide))); clear c11; simp only [Option.some.injEq, Prod.mk.injEq] at H; obtain ⟨rfl, rfl⟩ := H; go_wp2
       all_goals (try (exfalso; rename_i h_; rw [c11b2] at h_; revert h_; decide))
       go_ret2
       exact ⟨by first | rfl | (simp; done) | (simp [*]; done) | (simp [bne_nil_, beq_nil_]; done), by repeat (first | exact Drawn0.refl _ | apply Drawn0.step)⟩
      ·rw [if_neg c11] at H
       (have c11b0 : ((decide (a0 < 0)) != (decide (a1 < 0))) = false := by simpa using c11); (try (have c11b1 : decide ((decide (a0 < 0)) = (decide (a1 < 0))) = true := by (revert c11; generalize ((decide (a0 < 0))) = p_; generalize ((decide (a1 < 0))) = q_; revert p_ q_; decide))); (try (have c11b2 : ((decide (a0 < 0)) == (decide (a1 < 0))) = true := by (revert c11; generalize ((decide (a0 < 0))) = p_; generalize ((decide (a1 < 0))) = q_; revert p_ q_; decide))); clear c11; simp only [Option.some.injEq, Prod.mk.injEq] at H; obtain ⟨rfl, rfl⟩ := H; go_wp2
       all_goals (try (exfalso; rename_i h_; rw [c11b2] at h_; revert h_; decide))
       go_ret2
       exact ⟨by first | rfl | (simp; done) | (simp [*]; done) | (simp [bne_nil_, beq_nil_]; done), by repeat (first | exact Drawn0.refl _ | apply Drawn0.step)⟩

/-! ### lin_Const: function 23 -/
def lin_Const.f (a0 : Int) (a1 : Int) : Option (List Int × Int) := if 0 ≤ (mx a0 0) then (if (mx a0 0 : Int).toNat ≤ 35184372088832 then (some ((List.replicate (mx a0 0 : Int).toNat 0), a1)) else (none)) else (none)
set_option maxHeartbeats 8000000 in
set_option maxRecDepth 100000 in
theorem lin_Const.calls (a0 : Int) (a1 : Int) (r1 : List Int) (r2 : Int) (w : World) (h : lin_Const.f a0 a1 = some (r1, r2)) :
  Calls Tryd.prog 23 #[.int .i64 a0, .int .i64 a1] w fun e w' => ∃ v0_ : Value, e = .returned (.agg #[v0_, .int .i64 r2]) ∧ Kd.R (Kd.int .i64) 2 w' w.heap.size (fun _ => True) v0_ r1 ∧ Below w.heap.size w w' := by
 have hu24 := Tryd.underlying24
 have HB := mk0 (Below.refl w.heap.size w)
 have H : (if 0 ≤ (mx a0 0) then (if (mx a0 0 : Int).toNat ≤ 35184372088832 then (some ((List.replicate (mx a0 0 : Int).toNat 0), a1)) else (none)) else (none)) = some (r1, r2) := h
 clear h
 obtain ⟨ji3, hji3⟩ : ∃ j_ : Int, (mx a0 0) = j_ := ⟨_, rfl⟩
 replace H : (if 0 ≤ (ji3) then (if (ji3 : Int).toNat ≤ 35184372088832 then (some ((List.replicate (ji3 : Int).toNat 0), a1)) else (none)) else (none)) = some (r1, r2) := by first | (rw [hji3] at H; exact H) | (simp only [hji3] at H ⊢; exact H)
 (try (have hji3l : 0 ≤ ji3 := by (rw [← hji3]; unfold mx; (repeat' split) <;> omega)))
 (try (have hji3m : 0 ≤ ji3 := by omega))
 have hji3_ : (if a0 < 0 then 0 else a0) = ji3 := hji3
 by_cases c4 : 0 ≤ (ji3)
 ·rw [if_pos c4] at H
  have c4b0 := eq_true c4; have c4b1 : decide (0 ≤ (ji3)) = true := decide_eq_true c4; clear c4
  by_cases c5 : (ji3 : Int).toNat ≤ 35184372088832
  ·rw [if_pos c5] at H
   have c5b0 := eq_true c5; have c5b1 : decide ((ji3 : Int).toNat ≤ 35184372088832) = true := decide_eq_true c5; clear c5; obtain ⟨y166, hy166⟩ : ∃ y_ : List Int, y_ = (List.replicate (ji3 : Int).toNat 0) := ⟨_, rfl⟩; (replace H : (some (y166, a1)) = some (r1, r2) := by first | (rw [hy166]; with_reducible exact H) | (have H2_ := (Option.bind_some _ _).symm.trans H; rw [hy166]; with_reducible exact H2_) | (have H2_ := (Option.bind_some _ _).symm.trans H; with_reducible exact H2_) | with_reducible exact H | (rw [hy166]; exact H) | exact H); have Ny166 := mk0 hy166; clear hy166; simp only [Option.some.injEq, Prod.mk.injEq] at H; obtain ⟨rfl, rfl⟩ := H; go_enter Tryd.func23, Tryd.ntmps23
   go_wp2_with (first | ((with_reducible refine gate_dst (N := 4) rfl ?_); refine bxE 4 #[.slice none 0 0, .int .i64 0] 24 ?_; intro gb165 hg w6 hbox hb; have BK165 := mk0 (hbox); have GW165 := gE (uL HB.out) hg; have GE165 := gE (uL HB.out) hg; replace HB := hbB (uL HB.out) hb; clear hb hbox hg) | ((with_reducible refine gate_dst (N := 7) rfl ?_); refine Kd.R_make (Kd.int .i64) _ 2 rfl (N := 7) rfl 22 _ _ rfl ji3 rfl rfl Tryd.underlying22 (.int .i64 0) 8 info2 rfl (by decide) (by omega) 0 (ok := fun _ => True) (okp := fun _ => True) rfl (fun _ hk => hk) trivial (of_decide_eq_true (by first | (with_reducible assumption) | assumption)) (Nat.le_trans (Nat.mul_le_mul_right _ (of_decide_eq_true (by first | (with_reducible assumption) | assumption) : ji3.toNat ≤ 35184372088832)) (by omega)) (Below.refl _ _) (Nat.le_refl _) ?_; intro v167 w7 ho8 hb hg_ hnew_; clear hg_ hnew_; (first | rw [← Ny166.out] at ho8 | (simp only [Int.reduceToNat] at ho8; rw [← Ny166.out] at ho8)); have HO168 := mk0 (Kd.R_lower ho8 (below_size bH)); replace BK165 := bB BK165 hb; replace HB := hbB bH hb; clear hb ho8; obtain ⟨Ao9, co9, eo9⟩ := Kd.R_slice HO168.out; subst eo9; obtain ⟨hcz10_0, hcz10_1, hfz10_0, hfz10_1⟩ := cL2 BK165))
   refine bodyPost_ret (results_cell_row rfl _ _ gb165 24 #[.slice Ao9 y166.length co9, .int .i64 a1] (0, 0) _ rfl (by (with_reducible repeat (first | refine blk_drewN ?_ _ | refine blk_drew ?_ | refine blk_alloc ?_ _)); refine blk_put (cs := #[.slice Ao9 y166.length co9, .int .i64 0]) ?_ 1 _ rfl; (with_reducible repeat (first | refine blk_drewN ?_ _ | refine blk_drew ?_ | refine blk_alloc ?_ _)); refine blk_put (cs := #[.slice none 0 0, .int .i64 0]) ?_ 0 _ rfl; (with_reducible repeat (first | refine blk_drewN ?_ _ | refine blk_drew ?_ | refine blk_alloc ?_ _)); exact BK165.out) Tryd.underlying24 rfl (by kernel_rfl)) rfl ?_; exact ⟨_, by first | rfl | (simp [errW_none, errW_some] <;> rfl) | (simp only [← hji3]; first | rfl | (simp [errW_none, errW_some] <;> rfl)) | (simp [*, errW_none, errW_some] <;> rfl), uR (Kd.R_mono (Kd.R_far (p := ⟨gb165, 1, none⟩) (Kd.R_far (p := ⟨gb165, 0, none⟩) (Kd.R_types HO168.out BK165.out (by decide)) (fun _ hk => hk.2) (.slice Ao9 y166.length co9)) (fun _ hk => hk.2) (.int .i64 a1)) (fun _ hk => trivial)), bH⟩
  ·rw [if_neg c5] at H
   exact absurd H (by simp)
 ·rw [if_neg c4] at H
  exact absurd H (by simp)

/-! ### lin_Index: function 25 -/
def lin_Index.f (a0 : Int) (a1 : Int) : Option (List Int × Int) := (lin_Const.f a0 0).bind fun bt170 => (if a1 ≥ 0 then (if a1 < a0 then (if 0 ≤ a1 then (if a1 < (bt170.1.length : Int) then (some ((bt170.1.set (a1 : Int).toNat 1), bt170.2)) else (none)) else (none)) else (some (bt170.1, bt170.2))) else (some (bt170.1, bt170.2)))
set_option maxHeartbeats 8000000 in
set_option maxRecDepth 100000 in
theorem lin_Index.calls (a0 : Int) (a1 : Int) (r1 : List Int) (r2 : Int) (w : World) (h : lin_Index.f a0 a1 = some (r1, r2)) :
  Calls Tryd.prog 25 #[.int .i64 a0, .int .i64 a1] w fun e w' => ∃ v0_ : Value, e = .returned (.agg #[v0_, .int .i64 r2]) ∧ Kd.R (Kd.int .i64) 2 w' w.heap.size (fun _ => True) v0_ r1 ∧ Below w.heap.size w w' := by
 have hu24 := Tryd.underlying24
 have HB := mk0 (Below.refl w.heap.size w)
 have H : ((lin_Const.f a0 0).bind fun bt170 => (if a1 ≥ 0 then (if a1 < a0 then (if 0 ≤ a1 then (if a1 < (bt170.1.length : Int) then (some ((bt170.1.set (a1 : Int).toNat 1), bt170.2)) else (none)) else (none)) else (some (bt170.1, bt170.2))) else (some (bt170.1, bt170.2)))) = some (r1, r2) := h
 clear h
 replace H := Option.bind_eq_some_iff.mp H
 obtain ⟨⟨t170, t173⟩, A30, H⟩ := H
 dsimp only at H
 have A3 := mk0 A30
 clear A30
 by_cases c4 : a1 ≥ 0
 ·rw [if_pos c4] at H
  have c4b0 : decide (0 ≤ a1) = true := decide_eq_true c4; clear c4
  by_cases c5 : a1 < a0
  ·rw [if_pos c5] at H
   have c5b0 : decide (a1 < a0) = true := decide_eq_true c5; clear c5
   by_cases c6 : 0 ≤ a1
   ·rw [if_pos c6] at H
    have c6b0 : decide (0 ≤ a1) = true := decide_eq_true c6; clear c6
    by_cases c7 : a1 < (t170.length : Int)
    ·rw [if_pos c7] at H
     have c7b0 : decide (a1 < (t170.length : Int)) = true := decide_eq_true c7; clear c7; obtain ⟨y175, hy175⟩ : ∃ y_ : List Int, y_ = (t170.set (a1 : Int).toNat 1) := ⟨_, rfl⟩; (replace H : (some (y175, t173)) = some (r1, r2) := by first | (rw [hy175]; with_reducible exact H) | (have H2_ := (Option.bind_some _ _).symm.trans H; rw [hy175]; with_reducible exact H2_) | (have H2_ := (Option.bind_some _ _).symm.trans H; with_reducible exact H2_) | with_reducible exact H | (rw [hy175]; exact H) | exact H); have Ny175 := mk0 hy175; clear hy175; simp only [Option.some.injEq, Prod.mk.injEq] at H; obtain ⟨rfl, rfl⟩ := H; go_enter Tryd.func25, Tryd.ntmps25
     go_wp2_with (first | ((with_reducible refine gate_dst (N := 4) rfl ?_); refine bxE 4 #[.slice none 0 0, .int .i64 0] 24 ?_; intro gb169 hg w9 hbox hb; have BK169 := mk0 (hbox); have GW169 := gE (uL HB.out) hg; have GE169 := gE (uL HB.out) hg; replace HB := hbB (uL HB.out) hb; clear hb hbox hg) | ((with_reducible refine gate_dst (N := 7) rfl ?_); refine gsM (some 7) Tryd.func23 #[.int .i64 a0, .int .i64 0] ?_; (with_reducible refine (lin_Const.calls a0 0 t170 t173 _ A3.out).mono ?_); rintro e w10 ⟨v171, rfl, ho0, hb⟩; refine ⟨_, rfl, ?_⟩; have HO172 := mk0 (Kd.R_lower ho0 (below_size bH)); replace BK169 := bB BK169 hb; replace HB := hbB bH hb; (try clear hb); (try clear hb2); (try clear hk); (try clear hi); (try clear ho0)) | ((with_reducible refine gate_dst (N := 5) rfl ?_); refine bxE 5 #[.slice none 0 0, .int .i64 0] 24 ?_; intro gb174 hg w11 hbox hb; replace HO172 := rB HO172 hb; have BK174 := mk0 (hbox); have GW174 := gE bH hg; have GE174 := gE bH hg; replace HB := hbB bH hb; have NB169_174 := nL BK169 hg; have NB174_169 := nG BK169 hg; replace BK169 := bB BK169 hb; clear hb hbox hg; obtain ⟨Ao12, co12, eo12⟩ := Kd.R_slice HO172.out; subst eo12; have hnb13 := NB174_169.out; have hnc13 := NB169_174.out; obtain ⟨hcz14_0, hcz14_1, hfz14_0, hfz14_1⟩ := cL2 BK174) | ((with_reducible refine gate_store (t := 24) (p := 5) rfl ?_); refine store_event (t := 24) (p := 5) (v := ?vo_w15) (w1 := ((w11.setCell ⟨gb174, 0, none⟩ (.slice Ao12 t170.length co12)).setCell ⟨gb174, 1, none⟩ (.int .i64 t173))) ?hg ?ho ?hn ?hr ?_; (case ho => rfl); (case hg => rfl); (case hn => rfl); (case hr => first | (go_simp; done) | (go_simp; rfl)); intro w15 hw; have n0_ : Aside0 (Kd.R (Kd.int .i64) 2 w15 w.heap.size (fun _ => True) (.slice Ao12 t170.length co12) t170) := ⟨(by rw [hw]; exact (uR (Kd.R_mono (Kd.R_far (p := ⟨gb174, 1, none⟩) (Kd.R_far (p := ⟨gb174, 0, none⟩) (Kd.R_types HO172.out BK174.out (by decide)) (fun _ hk => hk.2) (.slice Ao12 t170.length co12)) (fun _ hk => hk.2) (.int .i64 t173)) (fun _ hk => trivial))))⟩; have n1_ : Aside0 (w15.heap[gb169]? = some (.cells #[.slice none 0 0, .int .i64 0] 24 (0, 0))) := ⟨(by rw [hw]; exact (by (with_reducible repeat (first | refine blk_drewN ?_ _ | refine blk_drew ?_ | refine blk_alloc ?_ _)); refine blk_far ?_ NB169_174.out _; (with_reducible repeat (first | refine blk_drewN ?_ _ | refine blk_drew ?_ | refine blk_alloc ?_ _)); refine blk_far ?_ NB169_174.out _; (with_reducible repeat (first | refine blk_drewN ?_ _ | refine blk_drew ?_ | refine blk_alloc ?_ _)); exact BK169.out))⟩; have n2_ : Aside0 (w15.heap[gb174]? = some (.cells #[.slice Ao12 t170.length co12, .int .i64 t173] 24 (0, 0))) := ⟨(by rw [hw]; exact (by (with_reducible repeat (first | refine blk_drewN ?_ _ | refine blk_drew ?_ | refine blk_alloc ?_ _)); refine blk_put (cs := #[.slice Ao12 t170.length co12, .int .i64 0]) ?_ 1 _ rfl; (with_reducible repeat (first | refine blk_drewN ?_ _ | refine blk_drew ?_ | refine blk_alloc ?_ _)); refine blk_put (cs := #[.slice none 0 0, .int .i64 0]) ?_ 0 _ rfl; (with_reducible repeat (first | refine blk_drewN ?_ _ | refine blk_drew ?_ | refine blk_alloc ?_ _)); exact BK174.out))⟩; have n3_ : Aside0 (Below w.heap.size w w15) := ⟨(by rw [hw]; exact bH)⟩; clear hw; clear HO172; clear BK169; clear BK174; clear HB; have HO172 := n0_; have BK169 := n1_; have BK174 := n2_; have HB := n3_; clear n0_ n1_ n2_ n3_; obtain ⟨hcz16_0, hcz16_1, hfz16_0, hfz16_1⟩ := cL2 BK174; have p8 : 0 ≤ (a1 : Int) := of_decide_eq_true (by first | (with_reducible assumption) | assumption); have q8 : (a1 : Int) < ((t170.length : Int) : Int) := of_decide_eq_true (by first | (with_reducible assumption) | assumption); obtain ⟨go8, co8, eo8, gb8, gl8, cl8, HG8⟩ := Kd.R_form HO172.out (by omega); (first | cases eo8 | (injection eo8 with ea_ en_ ec_; (first | subst ea_ | (injection ea_ with ea_; subst ea_)); subst ec_; clear en_)); have GB8 := mk0 gb8; have GG8 := mk0 HG8; clear gb8 gl8 HG8; obtain ⟨hx8_0, hf8_0⟩ := Kd.R_celln 0 HO172.out (a1 : Int) p8 q8; replace p8 := eq_true p8; replace q8 := eq_true q8; obtain ⟨hy17_, hz17_⟩ := Kd.R_celln 0 HO172.out (a1 : Int) (of_decide_eq_true (by first | (with_reducible assumption) | assumption)) (of_decide_eq_true (by first | (with_reducible assumption) | assumption)); have HP17 := Kd.R_putg HO172.out (a1 : Int) 1) | ((with_reducible refine gate_store (t := 2) (p := 18) rfl ?_); refine store_event (t := 2) (p := 18) (v := ?vo_w18) (w1 := (w15.setCell ⟨go8, (a1 : Int).toNat, none⟩ (.int .i64 1))) ?hg ?ho ?hn ?hr ?_; (case ho => rfl); (case hg => rfl); (case hn => rfl); (case hr => first | (go_simp; done) | (go_simp; rfl)); intro w18 hw; have hg : w15.grownBy w18 (some go8) := (by rw [hw]; exact HP17.2); have hp_ : Kd.R (Kd.int .i64) 2 w18 w.heap.size (fun _ => True) (.slice (some ⟨go8, 0, none⟩) t170.length co12) y175 := (by rw [hw, Ny175.out]; exact HP17.1); clear HP17; replace BK169 := mk0 (blk_grown (g := gb169) (o := .cells #[.slice none 0 0, .int .i64 0] 24 (0, 0)) (uB BK169.out) hg (Kd.R_ne HO172.out BK169.out (by decide))); replace BK174 := mk0 (blk_grown (g := gb174) (o := .cells #[.slice (some ⟨go8, 0, none⟩) t170.length co12, .int .i64 t173] 24 (0, 0)) (uB BK174.out) hg (Kd.R_ne HO172.out BK174.out (by decide))); replace HO172 := mk0 (hp_); replace HB := mk0 ((by rw [hw]; exact below_set (HB.out) GB8.out : Below w.heap.size w w18)); clear hg hw hp_; obtain ⟨hcz19_0, hcz19_1, hfz19_0, hfz19_1⟩ := cL2 BK174; obtain ⟨hcz20_0, hcz20_1, hfz20_0, hfz20_1⟩ := cL2 BK169))
     refine bodyPost_ret (results_cell_row rfl _ _ gb169 24 #[.slice (some ⟨go8, 0, none⟩) t170.length co12, .int .i64 t173] (0, 0) _ rfl (by (with_reducible repeat (first | refine blk_drewN ?_ _ | refine blk_drew ?_ | refine blk_alloc ?_ _)); refine blk_put (cs := #[.slice (some ⟨go8, 0, none⟩) t170.length co12, .int .i64 0]) ?_ 1 _ rfl; (with_reducible repeat (first | refine blk_drewN ?_ _ | refine blk_drew ?_ | refine blk_alloc ?_ _)); refine blk_put (cs := #[.slice none 0 0, .int .i64 0]) ?_ 0 _ rfl; (with_reducible repeat (first | refine blk_drewN ?_ _ | refine blk_drew ?_ | refine blk_alloc ?_ _)); exact BK169.out) Tryd.underlying24 rfl (by kernel_rfl)) rfl ?_; exact ⟨_, rE, uR (Kd.R_mono (Kd.R_far (p := ⟨gb169, 1, none⟩) (Kd.R_far (p := ⟨gb169, 0, none⟩) (Kd.R_types HO172.out BK169.out (by decide)) (fun _ hk => hk.2) (.slice (some ⟨go8, 0, none⟩) t170.length co12)) (fun _ hk => hk.2) (.int .i64 t173)) (fun _ hk => trivial)), bH⟩
    ·rw [if_neg c7] at H
     exact absurd H (by simp)
   ·rw [if_neg c6] at H
    exact absurd H (by simp)
  ·rw [if_neg c5] at H
   have c5b0 : decide (a1 < a0) = false := decide_eq_false c5; clear c5; simp only [Option.some.injEq, Prod.mk.injEq] at H; obtain ⟨rfl, rfl⟩ := H; go_enter Tryd.func25, Tryd.ntmps25
   go_wp2_with (first | ((with_reducible refine gate_dst (N := 4) rfl ?_); refine bxE 4 #[.slice none 0 0, .int .i64 0] 24 ?_; intro gb169 hg w21 hbox hb; have BK169 := mk0 (hbox); have GW169 := gE (uL HB.out) hg; have GE169 := gE (uL HB.out) hg; replace HB := hbB (uL HB.out) hb; clear hb hbox hg) | ((with_reducible refine gate_dst (N := 7) rfl ?_); refine gsM (some 7) Tryd.func23 #[.int .i64 a0, .int .i64 0] ?_; (with_reducible refine (lin_Const.calls a0 0 t170 t173 _ A3.out).mono ?_); rintro e w22 ⟨v171, rfl, ho0, hb⟩; refine ⟨_, rfl, ?_⟩; have HO172 := mk0 (Kd.R_lower ho0 (below_size bH)); replace BK169 := bB BK169 hb; replace HB := hbB bH hb; (try clear hb); (try clear hb2); (try clear hk); (try clear hi); (try clear ho0)) | ((with_reducible refine gate_dst (N := 5) rfl ?_); refine bxE 5 #[.slice none 0 0, .int .i64 0] 24 ?_; intro gb174 hg w23 hbox hb; replace HO172 := rB HO172 hb; have BK174 := mk0 (hbox); have GW174 := gE bH hg; have GE174 := gE bH hg; replace HB := hbB bH hb; have NB169_174 := nL BK169 hg; have NB174_169 := nG BK169 hg; replace BK169 := bB BK169 hb; clear hb hbox hg; obtain ⟨Ao24, co24, eo24⟩ := Kd.R_slice HO172.out; subst eo24; have hnb25 := NB174_169.out; have hnc25 := NB169_174.out; obtain ⟨hcz26_0, hcz26_1, hfz26_0, hfz26_1⟩ := cL2 BK174; obtain ⟨hcz27_0, hcz27_1, hfz27_0, hfz27_1⟩ := cL2 BK169))
   refine bodyPost_ret (results_cell_row rfl _ _ gb169 24 #[.slice Ao24 t170.length co24, .int .i64 t173] (0, 0) _ rfl (by (with_reducible repeat (first | refine blk_drewN ?_ _ | refine blk_drew ?_ | refine blk_alloc ?_ _)); refine blk_put (cs := #[.slice Ao24 t170.length co24, .int .i64 0]) ?_ 1 _ rfl; (with_reducible repeat (first | refine blk_drewN ?_ _ | refine blk_drew ?_ | refine blk_alloc ?_ _)); refine blk_put (cs := #[.slice none 0 0, .int .i64 0]) ?_ 0 _ rfl; (with_reducible repeat (first | refine blk_drewN ?_ _ | refine blk_drew ?_ | refine blk_alloc ?_ _)); refine blk_far ?_ NB169_174.out _; (with_reducible repeat (first | refine blk_drewN ?_ _ | refine blk_drew ?_ | refine blk_alloc ?_ _)); refine blk_far ?_ NB169_174.out _; (with_reducible repeat (first | refine blk_drewN ?_ _ | refine blk_drew ?_ | refine blk_alloc ?_ _)); exact BK169.out) Tryd.underlying24 rfl (by kernel_rfl)) rfl ?_; exact ⟨_, rE, uR (Kd.R_mono (Kd.R_far (p := ⟨gb169, 1, none⟩) (Kd.R_far (p := ⟨gb169, 0, none⟩) (Kd.R_far (p := ⟨gb174, 1, none⟩) (Kd.R_far (p := ⟨gb174, 0, none⟩) (Kd.R_types (Kd.R_types HO172.out BK174.out (by decide)) BK169.out (by decide)) (fun _ hk => hk.1.2) (.slice Ao24 t170.length co24)) (fun _ hk => hk.1.2) (.int .i64 t173)) (fun _ hk => hk.2) (.slice Ao24 t170.length co24)) (fun _ hk => hk.2) (.int .i64 t173)) (fun _ hk => trivial)), bH⟩
 ·rw [if_neg c4] at H
  have c4b0 : decide (0 ≤ a1) = false := decide_eq_false c4; clear c4; simp only [Option.some.injEq, Prod.mk.injEq] at H; obtain ⟨rfl, rfl⟩ := H; go_enter Tryd.func25, Tryd.ntmps25
  go_wp2_with (first | ((with_reducible refine gate_dst (N := 4) rfl ?_); refine bxE 4 #[.slice none 0 0, .int .i64 0] 24 ?_; intro gb169 hg w28 hbox hb; have BK169 := mk0 (hbox); have GW169 := gE (uL HB.out) hg; have GE169 := gE (uL HB.out) hg; replace HB := hbB (uL HB.out) hb; clear hb hbox hg) | ((with_reducible refine gate_dst (N := 7) rfl ?_); refine gsM (some 7) Tryd.func23 #[.int .i64 a0, .int .i64 0] ?_; (with_reducible refine (lin_Const.calls a0 0 t170 t173 _ A3.out).mono ?_); rintro e w29 ⟨v171, rfl, ho0, hb⟩; refine ⟨_, rfl, ?_⟩; have HO172 := mk0 (Kd.R_lower ho0 (below_size bH)); replace BK169 := bB BK169 hb; replace HB := hbB bH hb; (try clear hb); (try clear hb2); (try clear hk); (try clear hi); (try clear ho0)) | ((with_reducible refine gate_dst (N := 5) rfl ?_); refine bxE 5 #[.slice none 0 0, .int .i64 0] 24 ?_; intro gb174 hg w30 hbox hb; replace HO172 := rB HO172 hb; have BK174 := mk0 (hbox); have GW174 := gE bH hg; have GE174 := gE bH hg; replace HB := hbB bH hb; have NB169_174 := nL BK169 hg; have NB174_169 := nG BK169 hg; replace BK169 := bB BK169 hb; clear hb hbox hg; obtain ⟨Ao31, co31, eo31⟩ := Kd.R_slice HO172.out; subst eo31; have hnb32 := NB174_169.out; have hnc32 := NB169_174.out; obtain ⟨hcz33_0, hcz33_1, hfz33_0, hfz33_1⟩ := cL2 BK174; obtain ⟨hcz34_0, hcz34_1, hfz34_0, hfz34_1⟩ := cL2 BK169))
  refine bodyPost_ret (results_cell_row rfl _ _ gb169 24 #[.slice Ao31 t170.length co31, .int .i64 t173] (0, 0) _ rfl (by (with_reducible repeat (first | refine blk_drewN ?_ _ | refine blk_drew ?_ | refine blk_alloc ?_ _)); refine blk_put (cs := #[.slice Ao31 t170.length co31, .int .i64 0]) ?_ 1 _ rfl; (with_reducible repeat (first | refine blk_drewN ?_ _ | refine blk_drew ?_ | refine blk_alloc ?_ _)); refine blk_put (cs := #[.slice none 0 0, .int .i64 0]) ?_ 0 _ rfl; (with_reducible repeat (first | refine blk_drewN ?_ _ | refine blk_drew ?_ | refine blk_alloc ?_ _)); refine blk_far ?_ NB169_174.out _; (with_reducible repeat (first | refine blk_drewN ?_ _ | refine blk_drew ?_ | refine blk_alloc ?_ _)); refine blk_far ?_ NB169_174.out _; (with_reducible repeat (first | refine blk_drewN ?_ _ | refine blk_drew ?_ | refine blk_alloc ?_ _)); exact BK169.out) Tryd.underlying24 rfl (by kernel_rfl)) rfl ?_; exact ⟨_, rE, uR (Kd.R_mono (Kd.R_far (p := ⟨gb169, 1, none⟩) (Kd.R_far (p := ⟨gb169, 0, none⟩) (Kd.R_far (p := ⟨gb174, 1, none⟩) (Kd.R_far (p := ⟨gb174, 0, none⟩) (Kd.R_types (Kd.R_types HO172.out BK174.out (by decide)) BK169.out (by decide)) (fun _ hk => hk.1.2) (.slice Ao31 t170.length co31)) (fun _ hk => hk.1.2) (.int .i64 t173)) (fun _ hk => hk.2) (.slice Ao31 t170.length co31)) (fun _ hk => hk.2) (.int .i64 t173)) (fun _ hk => trivial)), bH⟩

-- NOT PRINTED: function 59 (strconv_Itoa_59)

/-! ### furrowref4_At: function 29 -/
def furrowref4_At.f (a0 : ByteArray) (a1 : Int) (a2 : Int) : Option ((List (S86)) × Int) := some ((([(⟨a0, a1⟩ : S86)] : List (S86))), a2)
set_option maxHeartbeats 8000000 in
set_option maxRecDepth 100000 in
theorem furrowref4_At.calls (a0 : ByteArray) (a1 : Int) (a2 : Int) (r1 : List (S86)) (r2 : Int) (w : World) (h : furrowref4_At.f a0 a1 a2 = some (r1, r2)) :
  Calls Tryd.prog 29 #[.string a0, .int .i64 a1, .int .i64 a2] w fun e w' => ∃ v0_ : Value, e = .returned (.agg #[v0_, .int .i64 r2]) ∧ Kd.R k86 86 w' w.heap.size (fun _ => True) v0_ r1 ∧ Below w.heap.size w w' := by
 have hu34 := Tryd.underlying34
 have hu86 := Tryd.underlying86
 have HB := mk0 (Below.refl w.heap.size w)
 have H : (some ((([(⟨a0, a1⟩ : S86)] : List (S86))), a2)) = some (r1, r2) := h
 clear h
 obtain ⟨y177, hy177⟩ : ∃ y_ : List (S86), y_ = (([(⟨a0, a1⟩ : S86)] : List (S86))) := ⟨_, rfl⟩
 replace H : (some (y177, a2)) = some (r1, r2) := by first | (rw [hy177]; with_reducible exact H) | (have H2_ := (Option.bind_some _ _).symm.trans H; rw [hy177]; with_reducible exact H2_) | (have H2_ := (Option.bind_some _ _).symm.trans H; with_reducible exact H2_) | with_reducible exact H | (rw [hy177]; exact H) | exact H
 have Ny177 := mk0 hy177
 clear hy177
 simp only [Option.some.injEq, Prod.mk.injEq] at H
 obtain ⟨rfl, rfl⟩ := H
 go_enter Tryd.func29, Tryd.ntmps29
 go_wp2_with (first | ((with_reducible refine gate_dst (N := 6) rfl ?_); refine bxE 6 #[.slice none 0 0, .int .i64 0] 34 ?_; intro gb176 hg w4 hbox hb; have BK176 := mk0 (hbox); have GW176 := gE (uL HB.out) hg; have GE176 := gE (uL HB.out) hg; replace HB := hbB (uL HB.out) hb; clear hb hbox hg) | ((with_reducible refine gate_dst (N := 10) rfl ?_); refine Kd.R_lit k86 _ 86 ?hg (N := 10) ?hd (xs := ([(⟨a0, a1⟩ : S86)] : List (S86))) (inner := [.string a0, .int .i64 a1]) (ok := fun _ => True) (okp := fun _ => True) ?hr ?hp (fun _ hk => hk) trivial (Below.refl _ _) (Nat.le_refl _) (by simp) ?_; (case hd => rfl); (case hg => rfl); (case hr => first | (go_simp; done) | (go_simp; rfl)); (case hp => exact (Reps.c2 (show Kd.M k86 _ _ _ (⟨a0, a1⟩ : S86) [.string a0, .int .i64 a1] from (k86_mkM _ _ _ (⟨a0, a1⟩ : S86) )) (Reps.none _ _))); intro v178 w5 ho6 hb hg_ hnew_; clear hg_ hnew_; (first | rw [← Ny177.out] at ho6 | (simp only [Int.reduceToNat] at ho6; rw [← Ny177.out] at ho6)); have HO179 := mk0 (Kd.R_lower ho6 (below_size bH)); replace BK176 := bB BK176 hb; replace HB := hbB bH hb; clear hb ho6; obtain ⟨Ao7, co7, eo7⟩ := Kd.R_slice HO179.out; subst eo7; obtain ⟨hcz8_0, hcz8_1, hfz8_0, hfz8_1⟩ := cL2 BK176))
 refine bodyPost_ret (results_cell_row rfl _ _ gb176 34 #[.slice Ao7 y177.length co7, .int .i64 a2] (0, 0) _ rfl (by (with_reducible repeat (first | refine blk_drewN ?_ _ | refine blk_drew ?_ | refine blk_alloc ?_ _)); refine blk_put (cs := #[.slice Ao7 y177.length co7, .int .i64 0]) ?_ 1 _ rfl; (with_reducible repeat (first | refine blk_drewN ?_ _ | refine blk_drew ?_ | refine blk_alloc ?_ _)); refine blk_put (cs := #[.slice none 0 0, .int .i64 0]) ?_ 0 _ rfl; (with_reducible repeat (first | refine blk_drewN ?_ _ | refine blk_drew ?_ | refine blk_alloc ?_ _)); exact BK176.out) Tryd.underlying34 rfl (by kernel_rfl)) rfl ?_
 exact ⟨_, rE, uR (Kd.R_mono (Kd.R_far (p := ⟨gb176, 1, none⟩) (Kd.R_far (p := ⟨gb176, 0, none⟩) (Kd.R_types HO179.out BK176.out (by decide)) (fun _ hk => hk.2) (.slice Ao7 y177.length co7)) (fun _ hk => hk.2) (.int .i64 a2)) (fun _ hk => trivial)), bH⟩

/-! ### furrowlaw11_few: function 10 -/
def furrowlaw11_few.f (l0_0 : List Int) (a0_1 : Int) : Option (Bool) := some (decide ((l0_0.length : Int) ≤ 20))
set_option maxHeartbeats 8000000 in
set_option maxRecDepth 100000 in
theorem furrowlaw11_few.calls (A0_0 : Option Addr) (c0_0 : Nat) (l0_0 : List Int) (a0_1 : Int) (r : Bool) (w : World) (hr0_0 : Kd.C (Kd.int .i64) w A0_0 l0_0.length l0_0) (hc0_0 : l0_0.length ≤ c0_0) (h : furrowlaw11_few.f l0_0 a0_1 = some r) :
  Calls Tryd.prog 10 #[.agg #[.slice A0_0 l0_0.length c0_0, .int .i64 a0_1]] w fun e w' => e = .returned (.bool r) ∧ Below w.heap.size w w' := by
 have hu24 := Tryd.underlying24
 have HR0_0 := mk0 hr0_0
 have HC0_0 := mk0 hc0_0
 clear hr0_0 hc0_0
 have HB := mk0 (Below.refl w.heap.size w)
 have H : (some (decide ((l0_0.length : Int) ≤ 20))) = some r := h
 clear h
 obtain rfl := Option.some.inj H
 go_enter Tryd.func10, Tryd.ntmps10
 go_wp2_with (first | ((with_reducible refine gate_dst (N := 1) rfl ?_); refine bxE 1 #[.slice A0_0 l0_0.length c0_0, .int .i64 a0_1] 24 ?_; intro gb255 hg w2 hbox hb; have BK255 := mk0 (hbox); have GW255 := gE (uL HB.out) hg; have GE255 := gE (uL HB.out) hg; replace HB := hbB (uL HB.out) hb; clear hb hbox hg; obtain ⟨hcz3_0, hcz3_1, hfz3_0, hfz3_1⟩ := cL2 BK255))
 go_ret
 exact ⟨rE, bH⟩

/-! ### furrowref14_Const: function 24 -/
def furrowref14_Const.f (a0 : Int) (a1 : Int) : Option (List Int × Int) := if a0 < 0 then (if 0 ≤ 35184372088832 then (some ((List.replicate 0 0), a1)) else (none)) else (if 0 ≤ a0 then (if (a0 : Int).toNat ≤ 35184372088832 then (some ((List.replicate (a0 : Int).toNat 0), a1)) else (none)) else (none))
set_option maxHeartbeats 8000000 in
set_option maxRecDepth 100000 in
theorem furrowref14_Const.calls (a0 : Int) (a1 : Int) (r1 : List Int) (r2 : Int) (w : World) (h : furrowref14_Const.f a0 a1 = some (r1, r2)) :
  Calls Tryd.prog 24 #[.int .i64 a0, .int .i64 a1] w fun e w' => ∃ v0_ : Value, e = .returned (.agg #[v0_, .int .i64 r2]) ∧ Kd.R (Kd.int .i64) 2 w' w.heap.size (fun _ => True) v0_ r1 ∧ Below w.heap.size w w' := by
 have hu31 := Tryd.underlying31
 have HB := mk0 (Below.refl w.heap.size w)
 have H : (if a0 < 0 then (if 0 ≤ 35184372088832 then (some ((List.replicate 0 0), a1)) else (none)) else (if 0 ≤ a0 then (if (a0 : Int).toNat ≤ 35184372088832 then (some ((List.replicate (a0 : Int).toNat 0), a1)) else (none)) else (none))) = some (r1, r2) := h
 clear h
 by_cases c3 : a0 < 0
 ·rw [if_pos c3] at H
  have c3b0 : decide (a0 < 0) = true := decide_eq_true c3; clear c3
  by_cases c4 : 0 ≤ 35184372088832
  ·rw [if_pos c4] at H
   have c4b0 := eq_true c4; have c4b1 : decide (0 ≤ 35184372088832) = true := decide_eq_true c4; clear c4; obtain ⟨y257, hy257⟩ : ∃ y_ : List Int, y_ = (List.replicate 0 0) := ⟨_, rfl⟩; (replace H : (some (y257, a1)) = some (r1, r2) := by first | (rw [hy257]; with_reducible exact H) | (have H2_ := (Option.bind_some _ _).symm.trans H; rw [hy257]; with_reducible exact H2_) | (have H2_ := (Option.bind_some _ _).symm.trans H; with_reducible exact H2_) | with_reducible exact H | (rw [hy257]; exact H) | exact H); have Ny257 := mk0 hy257; clear hy257; simp only [Option.some.injEq, Prod.mk.injEq] at H; obtain ⟨rfl, rfl⟩ := H; go_enter Tryd.func24, Tryd.ntmps24
   go_wp2_with (first | ((with_reducible refine gate_dst (N := 4) rfl ?_); refine bxE 4 #[.slice none 0 0, .int .i64 0] 31 ?_; intro gb256 hg w5 hbox hb; have BK256 := mk0 (hbox); have GW256 := gE (uL HB.out) hg; have GE256 := gE (uL HB.out) hg; replace HB := hbB (uL HB.out) hb; clear hb hbox hg) | ((with_reducible refine gate_dst (N := 8) rfl ?_); refine Kd.R_make (Kd.int .i64) _ 2 rfl (N := 8) rfl 22 _ _ rfl 0 rfl rfl Tryd.underlying22 (.int .i64 0) 8 info2 rfl (by decide) (by omega) 0 (ok := fun _ => True) (okp := fun _ => True) rfl (fun _ hk => hk) trivial (by omega) (by omega) (Below.refl _ _) (Nat.le_refl _) ?_; intro v258 w6 ho7 hb hg_ hnew_; clear hg_ hnew_; (first | rw [← Ny257.out] at ho7 | (simp only [Int.reduceToNat] at ho7; rw [← Ny257.out] at ho7)); have HO259 := mk0 (Kd.R_lower ho7 (below_size bH)); replace BK256 := bB BK256 hb; replace HB := hbB bH hb; clear hb ho7; obtain ⟨Ao8, co8, eo8⟩ := Kd.R_slice HO259.out; subst eo8; obtain ⟨hcz9_0, hcz9_1, hfz9_0, hfz9_1⟩ := cL2 BK256))
   refine bodyPost_ret (results_cell_row rfl _ _ gb256 31 #[.slice Ao8 y257.length co8, .int .i64 a1] (0, 0) _ rfl (by (with_reducible repeat (first | refine blk_drewN ?_ _ | refine blk_drew ?_ | refine blk_alloc ?_ _)); refine blk_put (cs := #[.slice Ao8 y257.length co8, .int .i64 0]) ?_ 1 _ rfl; (with_reducible repeat (first | refine blk_drewN ?_ _ | refine blk_drew ?_ | refine blk_alloc ?_ _)); refine blk_put (cs := #[.slice none 0 0, .int .i64 0]) ?_ 0 _ rfl; (with_reducible repeat (first | refine blk_drewN ?_ _ | refine blk_drew ?_ | refine blk_alloc ?_ _)); exact BK256.out) Tryd.underlying31 rfl (by kernel_rfl)) rfl ?_; exact ⟨_, rE, uR (Kd.R_mono (Kd.R_far (p := ⟨gb256, 1, none⟩) (Kd.R_far (p := ⟨gb256, 0, none⟩) (Kd.R_types HO259.out BK256.out (by decide)) (fun _ hk => hk.2) (.slice Ao8 y257.length co8)) (fun _ hk => hk.2) (.int .i64 a1)) (fun _ hk => trivial)), bH⟩
  ·rw [if_neg c4] at H
   exact absurd H (by simp)
 ·rw [if_neg c3] at H
  have c3b0 : decide (a0 < 0) = false := decide_eq_false c3; clear c3
  by_cases c10 : 0 ≤ a0
  ·rw [if_pos c10] at H
   have c10b0 := eq_true c10; have c10b1 : decide (0 ≤ a0) = true := decide_eq_true c10; clear c10
   by_cases c11 : (a0 : Int).toNat ≤ 35184372088832
   ·rw [if_pos c11] at H
    have c11b0 := eq_true c11; have c11b1 : decide ((a0 : Int).toNat ≤ 35184372088832) = true := decide_eq_true c11; clear c11; obtain ⟨y260, hy260⟩ : ∃ y_ : List Int, y_ = (List.replicate (a0 : Int).toNat 0) := ⟨_, rfl⟩; (replace H : (some (y260, a1)) = some (r1, r2) := by first | (rw [hy260]; with_reducible exact H) | (have H2_ := (Option.bind_some _ _).symm.trans H; rw [hy260]; with_reducible exact H2_) | (have H2_ := (Option.bind_some _ _).symm.trans H; with_reducible exact H2_) | with_reducible exact H | (rw [hy260]; exact H) | exact H); have Ny260 := mk0 hy260; clear hy260; simp only [Option.some.injEq, Prod.mk.injEq] at H; obtain ⟨rfl, rfl⟩ := H; go_enter Tryd.func24, Tryd.ntmps24
    go_wp2_with (first | ((with_reducible refine gate_dst (N := 4) rfl ?_); refine bxE 4 #[.slice none 0 0, .int .i64 0] 31 ?_; intro gb256 hg w12 hbox hb; have BK256 := mk0 (hbox); have GW256 := gE (uL HB.out) hg; have GE256 := gE (uL HB.out) hg; replace HB := hbB (uL HB.out) hb; clear hb hbox hg) | ((with_reducible refine gate_dst (N := 8) rfl ?_); refine Kd.R_make (Kd.int .i64) _ 2 rfl (N := 8) rfl 22 _ _ rfl a0 rfl rfl Tryd.underlying22 (.int .i64 0) 8 info2 rfl (by decide) (by omega) 0 (ok := fun _ => True) (okp := fun _ => True) rfl (fun _ hk => hk) trivial (of_decide_eq_true (by first | (with_reducible assumption) | assumption)) (Nat.le_trans (Nat.mul_le_mul_right _ (of_decide_eq_true (by first | (with_reducible assumption) | assumption) : a0.toNat ≤ 35184372088832)) (by omega)) (Below.refl _ _) (Nat.le_refl _) ?_; intro v261 w13 ho14 hb hg_ hnew_; clear hg_ hnew_; (first | rw [← Ny260.out] at ho14 | (simp only [Int.reduceToNat] at ho14; rw [← Ny260.out] at ho14)); have HO262 := mk0 (Kd.R_lower ho14 (below_size bH)); replace BK256 := bB BK256 hb; replace HB := hbB bH hb; clear hb ho14; obtain ⟨Ao15, co15, eo15⟩ := Kd.R_slice HO262.out; subst eo15; obtain ⟨hcz16_0, hcz16_1, hfz16_0, hfz16_1⟩ := cL2 BK256))
    refine bodyPost_ret (results_cell_row rfl _ _ gb256 31 #[.slice Ao15 y260.length co15, .int .i64 a1] (0, 0) _ rfl (by (with_reducible repeat (first | refine blk_drewN ?_ _ | refine blk_drew ?_ | refine blk_alloc ?_ _)); refine blk_put (cs := #[.slice Ao15 y260.length co15, .int .i64 0]) ?_ 1 _ rfl; (with_reducible repeat (first | refine blk_drewN ?_ _ | refine blk_drew ?_ | refine blk_alloc ?_ _)); refine blk_put (cs := #[.slice none 0 0, .int .i64 0]) ?_ 0 _ rfl; (with_reducible repeat (first | refine blk_drewN ?_ _ | refine blk_drew ?_ | refine blk_alloc ?_ _)); exact BK256.out) Tryd.underlying31 rfl (by kernel_rfl)) rfl ?_; exact ⟨_, rE, uR (Kd.R_mono (Kd.R_far (p := ⟨gb256, 1, none⟩) (Kd.R_far (p := ⟨gb256, 0, none⟩) (Kd.R_types HO262.out BK256.out (by decide)) (fun _ hk => hk.2) (.slice Ao15 y260.length co15)) (fun _ hk => hk.2) (.int .i64 a1)) (fun _ hk => trivial)), bH⟩
   ·rw [if_neg c11] at H
    exact absurd H (by simp)
  ·rw [if_neg c10] at H
   exact absurd H (by simp)

/-! ### furrowref14_unlike: function 35 -/
def furrowref14_unlike.f  : Option ((List (S86)) × Int) := (furrowref4_At.f (⟨#[102, 111, 114, 109]⟩ : ByteArray) 0 1).bind fun bt264 => (some (bt264.1, bt264.2))
set_option maxHeartbeats 8000000 in
set_option maxRecDepth 100000 in
theorem furrowref14_unlike.calls  (r1 : List (S86)) (r2 : Int) (w : World) (h : furrowref14_unlike.f  = some (r1, r2)) :
  Calls Tryd.prog 35 #[] w fun e w' => ∃ v0_ : Value, e = .returned (.agg #[v0_, .int .i64 r2]) ∧ Kd.R k86 86 w' w.heap.size (fun _ => True) v0_ r1 ∧ Below w.heap.size w w' := by
 have hu34 := Tryd.underlying34
 have HB := mk0 (Below.refl w.heap.size w)
 have H : ((furrowref4_At.f (⟨#[102, 111, 114, 109]⟩ : ByteArray) 0 1).bind fun bt264 => (some (bt264.1, bt264.2))) = some (r1, r2) := h
 clear h
 replace H := Option.bind_eq_some_iff.mp H
 obtain ⟨⟨t264, t267⟩, A10, H⟩ := H
 dsimp only at H
 have A1 := mk0 A10
 clear A10
 simp only [Option.some.injEq, Prod.mk.injEq] at H
 obtain ⟨rfl, rfl⟩ := H
 go_enter Tryd.func35, Tryd.ntmps35
 go_wp2_with (first | ((with_reducible refine gate_dst (N := 0) rfl ?_); refine bxE 0 #[.slice none 0 0, .int .i64 0] 34 ?_; intro gb263 hg w2 hbox hb; have BK263 := mk0 (hbox); have GW263 := gE (uL HB.out) hg; have GE263 := gE (uL HB.out) hg; replace HB := hbB (uL HB.out) hb; clear hb hbox hg) | ((with_reducible refine gate_dst (N := 1) rfl ?_); refine gsM (some 1) Tryd.func29 #[.string (⟨#[102, 111, 114, 109]⟩ : ByteArray), .int .i64 0, .int .i64 1] ?_; (with_reducible refine (furrowref4_At.calls (⟨#[102, 111, 114, 109]⟩ : ByteArray) 0 1 t264 t267 _ A1.out).mono ?_); rintro e w3 ⟨v265, rfl, ho0, hb⟩; refine ⟨_, rfl, ?_⟩; have HO266 := mk0 (Kd.R_lower ho0 (below_size bH)); replace BK263 := bB BK263 hb; replace HB := hbB bH hb; (try clear hb); (try clear hb2); (try clear hk); (try clear hi); (try clear ho0); obtain ⟨Ao4, co4, eo4⟩ := Kd.R_slice HO266.out; subst eo4; obtain ⟨hcz5_0, hcz5_1, hfz5_0, hfz5_1⟩ := cL2 BK263))
 refine bodyPost_ret (results_cell_row rfl _ _ gb263 34 #[.slice Ao4 t264.length co4, .int .i64 t267] (0, 0) _ rfl (by (with_reducible repeat (first | refine blk_drewN ?_ _ | refine blk_drew ?_ | refine blk_alloc ?_ _)); refine blk_put (cs := #[.slice Ao4 t264.length co4, .int .i64 0]) ?_ 1 _ rfl; (with_reducible repeat (first | refine blk_drewN ?_ _ | refine blk_drew ?_ | refine blk_alloc ?_ _)); refine blk_put (cs := #[.slice none 0 0, .int .i64 0]) ?_ 0 _ rfl; (with_reducible repeat (first | refine blk_drewN ?_ _ | refine blk_drew ?_ | refine blk_alloc ?_ _)); exact BK263.out) Tryd.underlying34 rfl (by kernel_rfl)) rfl ?_
 exact ⟨_, rE, uR (Kd.R_mono (Kd.R_far (p := ⟨gb263, 1, none⟩) (Kd.R_far (p := ⟨gb263, 0, none⟩) (Kd.R_types HO266.out BK263.out (by decide)) (fun _ hk => hk.2) (.slice Ao4 t264.length co4)) (fun _ hk => hk.2) (.int .i64 t267)) (fun _ hk => trivial)), bH⟩

end Go.Proofs.YtmnifoeodohphaaDoor.X
