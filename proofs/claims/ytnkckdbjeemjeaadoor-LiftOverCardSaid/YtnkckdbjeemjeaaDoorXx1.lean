-- PRINTED by print.py (a twelfth state) out of the translation. Not trusted: Lean checks it.
import Derived.Test.YtnkckdbjeemjeaaDoorXx0
namespace Go.Proofs.YtnkckdbjeemjeaaDoor.X
open Go.Proofs.YtnkckdbjeemjeaaDoor.Flt Go.Proofs.YtnkckdbjeemjeaaDoor.H Go.RowKit Go.Proofs.YtnkckdbjeemjeaaDoorW.PrintWords Go.Proofs.YtnkckdbjeemjeaaDoorW.PrintLast Go.Proofs.YtnkckdbjeemjeaaDoorW.PrintMore
attribute [local go_sem] max2_int min2_int max_two min_two max_three min_three max_four min_four   -- for this text's walks alone
set_option linter.unusedVariables false
set_option linter.unusedSimpArgs false

/-! ### num_Add: function 51 -/
def num_Add.f (a0 : Int) (a1 : Int) : Option (Int × Bool) := if ((decide (a0 < 0)) == (decide (a1 < 0))) = true then (if ((decide ((wrap64 (a0 + a1)) < 0)) != (decide (a0 < 0))) = true then (some (0, false)) else (some (wrap64 (a0 + a1), true))) else (some (wrap64 (a0 + a1), true))
set_option maxHeartbeats 8000000 in
set_option maxRecDepth 100000 in
theorem num_Add.calls (a0 : Int) (a1 : Int) (r1 : Int) (r2 : Bool) (w : World) (h : num_Add.f a0 a1 = some (r1, r2)) :
  Calls Tryd.prog 51 #[.int .i64 a0, .int .i64 a1] w fun e w' => e = .returned (.tuple #[.int .i64 r1, .bool r2]) ∧ Drawn0 w w' := by
 have H : (if ((decide (a0 < 0)) == (decide (a1 < 0))) = true then (if ((decide ((wrap64 (a0 + a1)) < 0)) != (decide (a0 < 0))) = true then (some (0, false)) else (some (wrap64 (a0 + a1), true))) else (some (wrap64 (a0 + a1), true))) = some (r1, r2) := h
 clear h
 by_cases c3 : ((decide (a0 < 0)) == (decide (a1 < 0))) = true
 ·rw [if_pos c3] at H
  have c3b0 : ((decide (a0 < 0)) == (decide (a1 < 0))) = true := c3; (try (have c3b1 : decide ((decide (a0 < 0)) = (decide (a1 < 0))) = true := by (revert c3; generalize ((decide (a0 < 0))) = p_; generalize ((decide (a1 < 0))) = q_; revert p_ q_; decide))); (try (have c3b2 : ((decide (a0 < 0)) == (decide (a1 < 0))) = true := by (revert c3; generalize ((decide (a0 < 0))) = p_; generalize ((decide (a1 < 0))) = q_; revert p_ q_; decide))); clear c3
  by_cases c4 : ((decide ((wrap64 (a0 + a1)) < 0)) != (decide (a0 < 0))) = true
  ·rw [if_pos c4] at H
   have c4b0 : ((decide ((wrap64 (a0 + a1)) < 0)) != (decide (a0 < 0))) = true := c4; (try (have c4b1 : decide ((decide ((wrap64 (a0 + a1)) < 0)) = (decide (a0 < 0))) = false := by (revert c4; generalize ((decide ((wrap64 (a0 + a1)) < 0))) = p_; generalize ((decide (a0 < 0))) = q_; revert p_ q_; decide))); (try (have c4b2 : ((decide ((wrap64 (a0 + a1)) < 0)) == (decide (a0 < 0))) = false := by (revert c4; generalize ((decide ((wrap64 (a0 + a1)) < 0))) = p_; generalize ((decide (a0 < 0))) = q_; revert p_ q_; decide))); (try (have c4b3 : ¬ ((decide ((wrap64 (a0 + a1)) < 0)) = (decide (a0 < 0))) := by (revert c4; generalize ((decide ((wrap64 (a0 + a1)) < 0))) = p_; generalize ((decide (a0 < 0))) = q_; revert p_ q_; decide))); clear c4; simp only [Option.some.injEq, Prod.mk.injEq] at H; obtain ⟨rfl, rfl⟩ := H; go_enter Tryd.func51, Tryd.ntmps51; go_wp2
   all_goals (try (exfalso; rename_i h_; rw [c3b2] at h_; revert h_; decide))
   all_goals (try (exfalso; rename_i h_; rw [c4b2] at h_; revert h_; decide))
   go_ret2
   exact ⟨eK, by repeat (first | exact Drawn0.refl _ | apply Drawn0.step)⟩
  ·rw [if_neg c4] at H
   (have c4b0 : ((decide ((wrap64 (a0 + a1)) < 0)) != (decide (a0 < 0))) = false := by simpa using c4); (try (have c4b1 : decide ((decide ((wrap64 (a0 + a1)) < 0)) = (decide (a0 < 0))) = true := by (revert c4; generalize ((decide ((wrap64 (a0 + a1)) < 0))) = p_; generalize ((decide (a0 < 0))) = q_; revert p_ q_; decide))); (try (have c4b2 : ((decide ((wrap64 (a0 + a1)) < 0)) == (decide (a0 < 0))) = true := by (revert c4; generalize ((decide ((wrap64 (a0 + a1)) < 0))) = p_; generalize ((decide (a0 < 0))) = q_; revert p_ q_; decide))); clear c4; simp only [Option.some.injEq, Prod.mk.injEq] at H; obtain ⟨rfl, rfl⟩ := H; go_enter Tryd.func51, Tryd.ntmps51; go_wp2
   all_goals (try (exfalso; rename_i h_; rw [c3b2] at h_; revert h_; decide))
   all_goals (try (exfalso; rename_i h_; rw [c4b2] at h_; revert h_; decide))
   go_ret2
   exact ⟨eK, by repeat (first | exact Drawn0.refl _ | apply Drawn0.step)⟩
 ·rw [if_neg c3] at H
  (have c3b0 : ((decide (a0 < 0)) == (decide (a1 < 0))) = false := by simpa using c3); (try (have c3b1 : decide ((decide (a0 < 0)) = (decide (a1 < 0))) = false := by (revert c3; generalize ((decide (a0 < 0))) = p_; generalize ((decide (a1 < 0))) = q_; revert p_ q_; decide))); (try (have c3b2 : ((decide (a0 < 0)) == (decide (a1 < 0))) = false := by (revert c3; generalize ((decide (a0 < 0))) = p_; generalize ((decide (a1 < 0))) = q_; revert p_ q_; decide))); (try (have c3b3 : ¬ ((decide (a0 < 0)) = (decide (a1 < 0))) := by (revert c3; generalize ((decide (a0 < 0))) = p_; generalize ((decide (a1 < 0))) = q_; revert p_ q_; decide))); clear c3; simp only [Option.some.injEq, Prod.mk.injEq] at H; obtain ⟨rfl, rfl⟩ := H; go_enter Tryd.func51, Tryd.ntmps51; go_wp2
  all_goals (try (exfalso; rename_i h_; rw [c3b2] at h_; revert h_; decide))
  go_ret2
  exact ⟨eK, by repeat (first | exact Drawn0.refl _ | apply Drawn0.step)⟩

/-! ### bits_Mul64: function 59 -/
def bits_Mul64.f (a0 : Int) (a1 : Int) : Option (Int × Int) := some (IntKind.u64.wrap ((IntKind.u64.wrap ((IntKind.u64.wrap ((a0 / 4294967296) * (a1 / 4294967296))) + ((IntKind.u64.wrap ((IntKind.u64.wrap ((a0 / 4294967296) * (Go.bits .and .u64 a1 4294967295))) + ((IntKind.u64.wrap ((Go.bits .and .u64 a0 4294967295) * (Go.bits .and .u64 a1 4294967295))) / 4294967296))) / 4294967296))) + ((IntKind.u64.wrap ((Go.bits .and .u64 (IntKind.u64.wrap ((IntKind.u64.wrap ((a0 / 4294967296) * (Go.bits .and .u64 a1 4294967295))) + ((IntKind.u64.wrap ((Go.bits .and .u64 a0 4294967295) * (Go.bits .and .u64 a1 4294967295))) / 4294967296))) 4294967295) + (IntKind.u64.wrap ((Go.bits .and .u64 a0 4294967295) * (a1 / 4294967296))))) / 4294967296)), IntKind.u64.wrap (a0 * a1))
set_option maxHeartbeats 8000000 in
set_option maxRecDepth 100000 in
theorem bits_Mul64.calls (a0 : Int) (a1 : Int) (r1 : Int) (r2 : Int) (w : World) (h : bits_Mul64.f a0 a1 = some (r1, r2)) :
  Calls Tryd.prog 59 #[.int .u64 a0, .int .u64 a1] w fun e w' => e = .returned (.tuple #[.int .u64 r1, .int .u64 r2]) ∧ Drawn0 w w' := by
 have H : (some (IntKind.u64.wrap ((IntKind.u64.wrap ((IntKind.u64.wrap ((a0 / 4294967296) * (a1 / 4294967296))) + ((IntKind.u64.wrap ((IntKind.u64.wrap ((a0 / 4294967296) * (Go.bits .and .u64 a1 4294967295))) + ((IntKind.u64.wrap ((Go.bits .and .u64 a0 4294967295) * (Go.bits .and .u64 a1 4294967295))) / 4294967296))) / 4294967296))) + ((IntKind.u64.wrap ((Go.bits .and .u64 (IntKind.u64.wrap ((IntKind.u64.wrap ((a0 / 4294967296) * (Go.bits .and .u64 a1 4294967295))) + ((IntKind.u64.wrap ((Go.bits .and .u64 a0 4294967295) * (Go.bits .and .u64 a1 4294967295))) / 4294967296))) 4294967295) + (IntKind.u64.wrap ((Go.bits .and .u64 a0 4294967295) * (a1 / 4294967296))))) / 4294967296)), IntKind.u64.wrap (a0 * a1))) = some (r1, r2) := h
 clear h
 simp only [Option.some.injEq, Prod.mk.injEq] at H
 obtain ⟨rfl, rfl⟩ := H
 go_enter Tryd.func59, Tryd.ntmps59
 go_wp2
 go_ret2
 exact ⟨eK, by repeat (first | exact Drawn0.refl _ | apply Drawn0.step)⟩

/-! ### num_size: function 60 -/
def num_size.f (a0 : Int) : Option (Int) := if a0 < 0 then (some (IntKind.u64.wrap (-(IntKind.u64.wrap (a0))))) else (some (IntKind.u64.wrap (a0)))
set_option maxHeartbeats 8000000 in
set_option maxRecDepth 100000 in
theorem num_size.calls (a0 : Int) (r : Int) (w : World) (h : num_size.f a0 = some r) :
  Calls Tryd.prog 60 #[.int .i64 a0] w fun e w' => e = .returned (.int .u64 r) ∧ Drawn0 w w' := by
 have H : (if a0 < 0 then (some (IntKind.u64.wrap (-(IntKind.u64.wrap (a0))))) else (some (IntKind.u64.wrap (a0)))) = some r := h
 clear h
 by_cases c2 : a0 < 0
 ·rw [if_pos c2] at H
  have c2b0 := decide_eq_true c2; clear c2; obtain rfl := Option.some.inj H; go_enter Tryd.func60, Tryd.ntmps60; go_wp2; go_ret; exact ⟨eK, by repeat (first | exact Drawn0.refl _ | apply Drawn0.step)⟩
 ·rw [if_neg c2] at H
  have c2b0 := decide_eq_false c2; clear c2; obtain rfl := Option.some.inj H; go_enter Tryd.func60, Tryd.ntmps60; go_wp2; go_ret; exact ⟨eK, by repeat (first | exact Drawn0.refl _ | apply Drawn0.step)⟩

/-! ### num_Mul: function 46 -/
mutual
def num_Mul.j0 : Nat → Int → Int → Bool → Int → Option (Int × Bool)
 | 0, _, _, _, _ => none
 | k + 1, x6, x7, x8, x9 => if x6 > 0 then (num_Mul.j1 k x7 x8 true) else (num_Mul.j1 k x7 x8 (decide (x7 > x9)))
def num_Mul.j1 : Nat → Int → Bool → Bool → Option (Int × Bool)
 | 0, _, _, _ => none
 | k + 1, x7, x8, x32 => if x32 = true then (some (0, false)) else (if x8 = true then (some (wrap64 (IntKind.u64.wrap (-x7)), true)) else (some (wrap64 (x7), true)))
end
def num_Mul.f (k : Nat) (a0 : Int) (a1 : Int) : Option (Int × Bool) := (num_size.f a0).bind fun t101 => ((num_size.f a1).bind fun t102 => ((bits_Mul64.f t101 t102).bind fun bt103 => (if ((decide (a0 < 0)) != (decide (a1 < 0))) = true then (num_Mul.j0 k bt103.1 bt103.2 ((decide (a0 < 0)) != (decide (a1 < 0))) (9223372036854775807 + 1)) else (num_Mul.j0 k bt103.1 bt103.2 ((decide (a0 < 0)) != (decide (a1 < 0))) 9223372036854775807))))
theorem num_Mul.mono_l : ∀ k, (∀ y0 y1 y2 y3, LeO (num_Mul.j0 k y0 y1 y2 y3) (num_Mul.j0 (k + 1) y0 y1 y2 y3)) ∧ (∀ y0 y1 y2, LeO (num_Mul.j1 k y0 y1 y2) (num_Mul.j1 (k + 1) y0 y1 y2))
 | 0 => by refine ⟨?_, ?_⟩ <;> intros <;> exact fun r h => by simp [num_Mul.j0, num_Mul.j1] at h
 | k + 1 => by
  obtain ⟨i0_, i1_⟩ := num_Mul.mono_l k; refine ⟨?_, ?_⟩ <;> intros
  ·unfold num_Mul.j0; exact lO_
  ·unfold num_Mul.j1; exact lO_
theorem num_Mul.mono : ∀ a0 a1 k, LeO (num_Mul.f k a0 a1) (num_Mul.f (k + 1) a0 a1) := by
 intro a0 a1 k
 obtain ⟨i0_, i1_⟩ := num_Mul.mono_l k; unfold num_Mul.f; exact lO_
set_option maxHeartbeats 8000000 in
set_option maxRecDepth 100000 in
theorem num_Mul.calls (k : Nat) (a0 : Int) (a1 : Int) (r1 : Int) (r2 : Bool) (w : World) (h : num_Mul.f k a0 a1 = some (r1, r2)) :
  Calls Tryd.prog 46 #[.int .i64 a0, .int .i64 a1] w fun e w' => e = .returned (.tuple #[.int .i64 r1, .bool r2]) ∧ Drawn0 w w' := by
 have H : ((num_size.f a0).bind fun ab => ((num_size.f a1).bind fun ac => ((bits_Mul64.f ab ac).bind fun ag => (if ((decide (a0 < 0)) != (decide (a1 < 0))) = true then (num_Mul.j0 k ag.1 ag.2 ((decide (a0 < 0)) != (decide (a1 < 0))) (9223372036854775807 + 1)) else (num_Mul.j0 k ag.1 ag.2 ((decide (a0 < 0)) != (decide (a1 < 0))) 9223372036854775807))))) = some (r1, r2) := h
 clear h
 replace H := Option.bind_eq_some_iff.mp H
 obtain ⟨ab, aq, H⟩ := H
 have A3 := mk0 aq
 clear aq
 replace H := Option.bind_eq_some_iff.mp H
 obtain ⟨ac, ar, H⟩ := H
 have A4 := mk0 ar
 clear ar
 replace H := Option.bind_eq_some_iff.mp H
 obtain ⟨⟨ak, ah⟩, au, H⟩ := H
 dsimp only at H
 have A5 := mk0 au
 clear au
 have al := mk0 H
 clear H
 go_enter Tryd.func46, Tryd.ntmps46
 go_upto_if 23 with (first | ((with_reducible refine gate_dst (N := 12) rfl ?_); refine gsM (some 12) Tryd.func60 #[.int .i64 a0] ?_; (with_reducible refine (num_size.calls a0 ab _ A3.out).mono ?_); rintro e w' ⟨rfl, ⟨nd, rfl⟩⟩; refine ⟨_, rfl, ?_⟩) | ((with_reducible refine gate_dst (N := 14) rfl ?_); refine gsM (some 14) Tryd.func60 #[.int .i64 a1] ?_; (with_reducible refine (num_size.calls a1 ac _ A4.out).mono ?_); rintro e w' ⟨rfl, ⟨nd, rfl⟩⟩; refine ⟨_, rfl, ?_⟩) | ((with_reducible refine gate_dst (N := 15) rfl ?_); refine gsM (some 15) Tryd.func59 #[.int .u64 ab, .int .u64 ac] ?_; (with_reducible refine (bits_Mul64.calls ab ac ak ah _ A5.out).mono ?_); rintro e w' ⟨rfl, ⟨nd, rfl⟩⟩; refine ⟨_, rfl, ?_⟩))
 (try simp only [AP])
 go_cut [9] (fun v9 wc => ∃ (kq : Nat) (x9_5 : Int), v9 = .int .u64 x9_5 ∧ Aside0 (num_Mul.j0 kq ak ah ((decide (a0 < 0)) != (decide (a1 < 0))) x9_5 = some (r1, r2)) ∧ Aside0 (kq ≤ k) ∧ Drawn0 w wc)
 case first =>
  have H := al.out; clear al
  by_cases c7 : ((decide (a0 < 0)) != (decide (a1 < 0))) = true
  ·rw [if_pos c7] at H
   have ae : ((decide (a0 < 0)) != (decide (a1 < 0))) = true := c7; (try (have aw : decide ((decide (a0 < 0)) = (decide (a1 < 0))) = false := by (revert c7; generalize ((decide (a0 < 0))) = p_; generalize ((decide (a1 < 0))) = q_; revert p_ q_; decide))); (try (have am : ((decide (a0 < 0)) == (decide (a1 < 0))) = false := by (revert c7; generalize ((decide (a0 < 0))) = p_; generalize ((decide (a1 < 0))) = q_; revert p_ q_; decide))); (try (have az : ¬ ((decide (a0 < 0)) = (decide (a1 < 0))) := by (revert c7; generalize ((decide (a0 < 0))) = p_; generalize ((decide (a1 < 0))) = q_; revert p_ q_; decide))); clear c7; (first | rw [ae] | (simp only [i64_w, i32_w]; rw [ae]) | skip); have H' := mk0 H; clear H; go_wp2
   all_goals (try (exfalso; rename_i h_; rw [am] at h_; revert h_; decide))
   go_meet
   case rel => exact ⟨_, (9223372036854775807 + 1), eK, H', ⟨by first | omega | exact Nat.le_refl _⟩, by repeat (first | exact Drawn0.refl _ | apply Drawn0.step)⟩
  ·rw [if_neg c7] at H
   (have ae : ((decide (a0 < 0)) != (decide (a1 < 0))) = false := by simpa using c7); (try (have aw : decide ((decide (a0 < 0)) = (decide (a1 < 0))) = true := by (revert c7; generalize ((decide (a0 < 0))) = p_; generalize ((decide (a1 < 0))) = q_; revert p_ q_; decide))); (try (have am : ((decide (a0 < 0)) == (decide (a1 < 0))) = true := by (revert c7; generalize ((decide (a0 < 0))) = p_; generalize ((decide (a1 < 0))) = q_; revert p_ q_; decide))); clear c7; (first | rw [ae] | (simp only [i64_w, i32_w]; rw [ae]) | skip); have H' := mk0 H; clear H; go_wp2
   all_goals (try (exfalso; rename_i h_; rw [am] at h_; revert h_; decide))
   go_meet
   case rel => exact ⟨_, (9223372036854775807), eK, H', ⟨by first | omega | exact Nat.le_refl _⟩, by repeat (first | exact Drawn0.refl _ | apply Drawn0.step)⟩
 case rest =>
  clear al; obtain ⟨kq, x9_5, rfl, HA, av, ⟨mc5, rfl⟩⟩ := hcut
  cases kq with
  | zero => exact absurd HA.out (by simp [num_Mul.j0])
  | succ kj5 =>
   have H := HA.out; clear HA; simp only [num_Mul.j0] at H; have ao := mk0 H; clear H
   go_upto_region 6 with (fail)
   go_cut [32] (fun v32 wc => ∃ (kq : Nat) (ai : Bool), v32 = .bool ai ∧ Aside0 (num_Mul.j1 kq ah ((decide (a0 < 0)) != (decide (a1 < 0))) ai = some (r1, r2)) ∧ Aside0 (kq ≤ kj5) ∧ Drawn0 w wc)
   case first =>
    have H := ao.out; clear ao
    by_cases c9 : ak > 0
    ·rw [if_pos c9] at H
     have af := decide_eq_true c9; clear c9; (first | rw [af] | (simp only [i64_w, i32_w]; rw [af]) | skip); have H' := mk0 H; clear H; go_wp2
     go_meet
     case rel => exact ⟨_, (true), eK, H', ⟨by have := av.out; first | omega | exact Nat.le_refl _⟩, by repeat (first | exact Drawn0.refl _ | apply Drawn0.step)⟩
    ·rw [if_neg c9] at H
     have af := decide_eq_false c9; clear c9; (first | rw [af] | (simp only [i64_w, i32_w]; rw [af]) | skip); have H' := mk0 H; clear H; go_wp2
     go_meet
     case rel => exact ⟨_, (decide (ah > x9_5)), eK, H', ⟨by have := av.out; first | omega | exact Nat.le_refl _⟩, by repeat (first | exact Drawn0.refl _ | apply Drawn0.step)⟩
   case rest =>
    clear ao; obtain ⟨kq, ai, rfl, HA, aA, ⟨mc7, rfl⟩⟩ := hcut
    cases kq with
    | zero => exact absurd HA.out (by simp [num_Mul.j1])
    | succ kj7 =>
     have H := HA.out; clear HA; simp only [num_Mul.j1] at H
     by_cases aj : ai = true
     ·subst aj
      replace H := iT H; simp only [Option.some.injEq, Prod.mk.injEq] at H; obtain ⟨rfl, rfl⟩ := H; go_wp2
      go_ret2
      exact ⟨eK, by repeat (first | exact Drawn0.refl _ | apply Drawn0.step)⟩
     ·replace aj := Bool.eq_false_iff.mpr aj
      subst aj; replace H := iF H
      by_cases aa : ((decide (a0 < 0)) != (decide (a1 < 0))) = true
      ·rw [if_pos aa] at H
       have ax : ((decide (a0 < 0)) != (decide (a1 < 0))) = true := aa; (try (have ay : decide ((decide (a0 < 0)) = (decide (a1 < 0))) = false := by (revert aa; generalize ((decide (a0 < 0))) = p_; generalize ((decide (a1 < 0))) = q_; revert p_ q_; decide))); (try (have ap : ((decide (a0 < 0)) == (decide (a1 < 0))) = false := by (revert aa; generalize ((decide (a0 < 0))) = p_; generalize ((decide (a1 < 0))) = q_; revert p_ q_; decide))); (try (have aC : ¬ ((decide (a0 < 0)) = (decide (a1 < 0))) := by (revert aa; generalize ((decide (a0 < 0))) = p_; generalize ((decide (a1 < 0))) = q_; revert p_ q_; decide))); clear aa; simp only [Option.some.injEq, Prod.mk.injEq] at H; obtain ⟨rfl, rfl⟩ := H; go_wp2
       all_goals (try (exfalso; rename_i h_; rw [ap] at h_; revert h_; decide))
       go_ret2
       exact ⟨eK, by repeat (first | exact Drawn0.refl _ | apply Drawn0.step)⟩
      ·rw [if_neg aa] at H
       (have ax : ((decide (a0 < 0)) != (decide (a1 < 0))) = false := by simpa using aa); (try (have ay : decide ((decide (a0 < 0)) = (decide (a1 < 0))) = true := by (revert aa; generalize ((decide (a0 < 0))) = p_; generalize ((decide (a1 < 0))) = q_; revert p_ q_; decide))); (try (have ap : ((decide (a0 < 0)) == (decide (a1 < 0))) = true := by (revert aa; generalize ((decide (a0 < 0))) = p_; generalize ((decide (a1 < 0))) = q_; revert p_ q_; decide))); clear aa; simp only [Option.some.injEq, Prod.mk.injEq] at H; obtain ⟨rfl, rfl⟩ := H; go_wp2
       all_goals (try (exfalso; rename_i h_; rw [ap] at h_; revert h_; decide))
       go_ret2
       exact ⟨eK, by repeat (first | exact Drawn0.refl _ | apply Drawn0.step)⟩

/-! ### lin_Form_part: function 47 -/
def lin_Form_part.f (l0_0 : List Int) (a0_1 : Int) (a1 : Int) : Option (Int) := if a1 < (l0_0.length : Int) then (if 0 ≤ a1 then (some (rd l0_0 a1)) else (none)) else (some a0_1)
set_option maxHeartbeats 8000000 in
set_option maxRecDepth 100000 in
theorem lin_Form_part.calls (A0_0 : Option Addr) (c0_0 : Nat) (l0_0 : List Int) (a0_1 : Int) (a1 : Int) (r : Int) (w : World) (hr0_0 : Kd.C (Kd.int .i64) w A0_0 l0_0.length l0_0) (hc0_0 : l0_0.length ≤ c0_0) (h : lin_Form_part.f l0_0 a0_1 a1 = some r) :
  Calls Tryd.prog 47 #[.agg #[.slice A0_0 l0_0.length c0_0, .int .i64 a0_1], .int .i64 a1] w fun e w' => e = .returned (.int .i64 r) ∧ Below w.heap.size w w' := by
 have hu32 := Tryd.underlying32
 have HR0_0 := mk0 hr0_0
 have HC0_0 := mk0 hc0_0
 clear hr0_0 hc0_0
 have HB := mk0 (Below.refl w.heap.size w)
 have H : (if a1 < (l0_0.length : Int) then (if 0 ≤ a1 then (some (rd l0_0 a1)) else (none)) else (some a0_1)) = some r := h
 clear h
 by_cases c3 : a1 < (l0_0.length : Int)
 ·rw [if_pos c3] at H
  have c3b0 := decide_eq_true c3; clear c3
  by_cases c4 : 0 ≤ a1
  ·rw [if_pos c4] at H
   have c4b0 := decide_eq_true c4; clear c4; obtain rfl := Option.some.inj H; go_enter Tryd.func47, Tryd.ntmps47
   go_wp2_with (first | ((with_reducible refine gate_dst (N := 2) rfl ?_); refine bxE 2 #[.slice A0_0 l0_0.length c0_0, .int .i64 a0_1] 32 ?_; intro gb105 hg w5 hbox hb; have BK105 := mk0 (hbox); have GW105 := gE (uL HB.out) hg; replace HB := hbB (uL HB.out) hb; clear hb hbox hg; obtain ⟨hcz6_0, hcz6_1, hfz6_0, hfz6_1⟩ := cL2 BK105; have p106 : 0 ≤ (a1 : Int) := dY; have q106 : a1 < (l0_0.length : Int) := dY; obtain ⟨ad106, e106, hx106_0⟩ := Kd.at_int HR0_0.out a1 p106 q106; cases e106; replace hx106_0 := oC HB hx106_0; replace p106 := eq_true p106; replace q106 := eq_true q106))
   go_ret; exact ⟨rE, bH⟩
  ·exact nO H c4
 ·rw [if_neg c3] at H
  have c3b0 := decide_eq_false c3; clear c3; obtain rfl := Option.some.inj H; go_enter Tryd.func47, Tryd.ntmps47
  go_wp2_with (first | ((with_reducible refine gate_dst (N := 2) rfl ?_); refine bxE 2 #[.slice A0_0 l0_0.length c0_0, .int .i64 a0_1] 32 ?_; intro gb105 hg w7 hbox hb; have BK105 := mk0 (hbox); have GW105 := gE (uL HB.out) hg; replace HB := hbB (uL HB.out) hb; clear hb hbox hg; obtain ⟨hcz8_0, hcz8_1, hfz8_0, hfz8_1⟩ := cL2 BK105))
  go_ret; exact ⟨rE, bH⟩

/-! ### furrowlaw12_Op: function 6 -/
def furrowlaw12_Op.f (a0 : Int) (a1_0 : Int) (a1_1 : Int) (a1_2 : ByteArray) (l1_3 : List (S26)) (a2_0 : Int) (a2_1 : Int) (a2_2 : ByteArray) (l2_3 : List (S26)) : Option (Int × Int × ByteArray × (List (S26))) := some (a0, 0, (⟨#[]⟩ : ByteArray), (([(⟨a1_0, a1_1, a1_2, l1_3⟩ : S26), (⟨a2_0, a2_1, a2_2, l2_3⟩ : S26)] : List (S26))))
set_option maxHeartbeats 8000000 in
set_option maxRecDepth 100000 in
theorem furrowlaw12_Op.calls (a0 : Int) (a1_0 : Int) (a1_1 : Int) (a1_2 : ByteArray) (P1_3_ : Nat → Prop) (A1_3 : Option Addr) (c1_3 : Nat) (l1_3 : List (S26)) (a2_0 : Int) (a2_1 : Int) (a2_2 : ByteArray) (P2_3_ : Nat → Prop) (A2_3 : Option Addr) (c2_3 : Nat) (l2_3 : List (S26)) (r1 : Int) (r2 : Int) (r3 : ByteArray) (r4 : List (S26)) (w : World) (hs1_3 : Kd.V k26 26 w w.heap.size (fun k_ => P1_3_ k_) (.slice A1_3 l1_3.length c1_3) l1_3) (hs2_3 : Kd.V k26 26 w w.heap.size (fun k_ => P2_3_ k_) (.slice A2_3 l2_3.length c2_3) l2_3) (h : furrowlaw12_Op.f a0 a1_0 a1_1 a1_2 l1_3 a2_0 a2_1 a2_2 l2_3 = some (r1, r2, r3, r4)) :
  Calls Tryd.prog 6 #[.int .i64 a0, .agg #[.int .i64 a1_0, .int .i64 a1_1, .string a1_2, .slice A1_3 l1_3.length c1_3], .agg #[.int .i64 a2_0, .int .i64 a2_1, .string a2_2, .slice A2_3 l2_3.length c2_3]] w fun e w' => ∃ v3_ : Value, e = .returned (.agg #[.int .i64 r1, .int .i64 r2, .string r3, v3_]) ∧ Kd.N k26 26 w' w.heap.size (fun k_ => ((P1_3_ k_ ∨ P2_3_ k_) ∨ w.heap.size ≤ k_)) v3_ r4 ∧ Below w.heap.size w w' := by
 have hu26 := Tryd.underlying26
 have af := mk0 (show Kd.V k26 26 w w.heap.size (fun k_ => ((P1_3_ k_ ∨ P2_3_ k_) ∨ w.heap.size ≤ k_)) (.slice A1_3 l1_3.length c1_3) l1_3 from Kd.V_mono hs1_3 (fun k_ hk => .inl (.inl hk)))
 have ag := mk0 (show Kd.V k26 26 w w.heap.size (fun k_ => ((P1_3_ k_ ∨ P2_3_ k_) ∨ w.heap.size ≤ k_)) (.slice A2_3 l2_3.length c2_3) l2_3 from Kd.V_mono hs2_3 (fun k_ hk => .inl (.inr hk)))
 have HB := mk0 (Below.refl w.heap.size w)
 have H : (some (a0, 0, (⟨#[]⟩ : ByteArray), (([(⟨a1_0, a1_1, a1_2, l1_3⟩ : S26), (⟨a2_0, a2_1, a2_2, l2_3⟩ : S26)] : List (S26))))) = some (r1, r2, r3, r4) := h
 clear h
 obtain ⟨ak, ai⟩ : ∃ y_ : List (S26), y_ = (([(⟨a1_0, a1_1, a1_2, l1_3⟩ : S26), (⟨a2_0, a2_1, a2_2, l2_3⟩ : S26)] : List (S26))) := ⟨_, rfl⟩
 replace H : (some (a0, 0, (⟨#[]⟩ : ByteArray), ak)) = some (r1, r2, r3, r4) := by first | (rw [ai]; with_reducible exact H) | (have H2_ := (Option.bind_some _ _).symm.trans H; rw [ai]; with_reducible exact H2_) | (have H2_ := (Option.bind_some _ _).symm.trans H; with_reducible exact H2_) | with_reducible exact H | (rw [ai]; exact H) | exact H
 have al := mk0 ai
 clear ai
 simp only [Option.some.injEq, Prod.mk.injEq] at H
 obtain ⟨rfl, rfl, rfl, rfl⟩ := H
 go_enter Tryd.func6, Tryd.ntmps6
 go_wp2_with (first | ((with_reducible refine gate_dst (N := 4) rfl ?_); refine bxE 4 #[.int .i64 a1_0, .int .i64 a1_1, .string a1_2, .slice A1_3 l1_3.length c1_3] 26 ?_; intro ac hg w4 hbox hb; replace af := vD af ac hg hb; replace ag := vD ag ac hg hb; have ab := mk0 (hbox); have az := gE (uL HB.out) hg; replace HB := hbB (uL HB.out) hb; clear hb hbox hg) | ((with_reducible refine gate_dst (N := 5) rfl ?_); refine bxE 5 #[.int .i64 a2_0, .int .i64 a2_1, .string a2_2, .slice A2_3 l2_3.length c2_3] 26 ?_; intro ae hg w5 hbox hb; replace af := vD af ae hg hb; replace ag := vD ag ae hg hb; have ah := mk0 (hbox); have aA := gE bH hg; replace HB := hbB bH hb; have aq := nL ab hg; have ar := nG ab hg; replace ab := bB ab hb; clear hb hbox hg) | ((with_reducible refine gate_dst (N := 6) rfl ?_); refine bxE 6 #[.int .i64 0, .int .i64 0, .string (⟨#[]⟩ : ByteArray), .slice none 0 0] 26 ?_; intro aa hg w6 hbox hb; replace af := vD af aa hg hb; replace ag := vD ag aa hg hb; have aj := mk0 (hbox); have aC := gE bH hg; replace HB := hbB bH hb; have au := nL ab hg; have av := nG ab hg; replace ab := bB ab hb; have aw := nL ah hg; have ax := nG ah hg; replace ah := bB ah hb; clear hb hbox hg; have aD := aq.out; have aE := ar.out; have aG := au.out; have aH := av.out; obtain ⟨aI, aJ, aK, aM, aN, aQ, aT, aU⟩ := cL4 ab; have aV := aw.out; have aW := ax.out; obtain ⟨aX, aY, aZ, a_, bf, bg, bh, bi⟩ := cL4 ah) | ((with_reducible refine gate_dst (N := 10) rfl ?_); refine Kd.N_lit k26 _ 26 ?hg (N' := 10) ?hd (xs := ([(⟨a1_0, a1_1, a1_2, l1_3⟩ : S26), (⟨a2_0, a2_1, a2_2, l2_3⟩ : S26)] : List (S26))) (inner := [.int .i64 a1_0, .int .i64 a1_1, .string a1_2, .slice A1_3 l1_3.length c1_3, .int .i64 a2_0, .int .i64 a2_1, .string a2_2, .slice A2_3 l2_3.length c2_3]) (ok := (fun k_ => ((P1_3_ k_ ∨ P2_3_ k_) ∨ w.heap.size ≤ k_) ∧ k_ ≠ ac ∧ k_ ≠ ae ∧ k_ ≠ aa)) (okp := (fun k_ => ((P1_3_ k_ ∨ P2_3_ k_) ∨ w.heap.size ≤ k_) ∧ k_ ≠ ac ∧ k_ ≠ ae ∧ k_ ≠ aa)) ?hr ?hp (fun _ hk => hk) ((show ∀ k_, w6.heap.size ≤ k_ → (fun k_ => ((P1_3_ k_ ∨ P2_3_ k_) ∨ w.heap.size ≤ k_) ∧ k_ ≠ ac ∧ k_ ≠ ae ∧ k_ ≠ aa) k_ from fun k_ hk => ⟨(.inr (Nat.le_trans (below_size bH) hk)), fB ab hk, fB ah hk, fB aj hk⟩) _ (Nat.le_refl _)) (Below.refl _ _) (Nat.le_refl _) (by simp) ?_; (case hd => rfl); (case hg => rfl); (case hr => first | (go_simp; done) | (go_simp; rfl)); (case hp => exact (Reps.c4 (show Kd.FK k26 _ _ (⟨a1_0, a1_1, a1_2, l1_3⟩ : S26) [.int .i64 a1_0, .int .i64 a1_1, .string a1_2, .slice A1_3 l1_3.length c1_3] from (k26_mkF _ _ (⟨a1_0, a1_1, a1_2, l1_3⟩ : S26) (Kd.V_reads' (vP (ok' := (fun k_ => ((P1_3_ k_ ∨ P2_3_ k_) ∨ w.heap.size ≤ k_) ∧ k_ ≠ ac ∧ k_ ≠ ae ∧ k_ ≠ aa)) af)).2.1 (Kd.V_F (vP (ok' := (fun k_ => ((P1_3_ k_ ∨ P2_3_ k_) ∨ w.heap.size ≤ k_) ∧ k_ ≠ ac ∧ k_ ≠ ae ∧ k_ ≠ aa)) af)))) (Reps.c4 (show Kd.FK k26 _ _ (⟨a2_0, a2_1, a2_2, l2_3⟩ : S26) [.int .i64 a2_0, .int .i64 a2_1, .string a2_2, .slice A2_3 l2_3.length c2_3] from (k26_mkF _ _ (⟨a2_0, a2_1, a2_2, l2_3⟩ : S26) (Kd.V_reads' (vP (ok' := (fun k_ => ((P1_3_ k_ ∨ P2_3_ k_) ∨ w.heap.size ≤ k_) ∧ k_ ≠ ac ∧ k_ ≠ ae ∧ k_ ≠ aa)) ag)).2.1 (Kd.V_F (vP (ok' := (fun k_ => ((P1_3_ k_ ∨ P2_3_ k_) ∨ w.heap.size ≤ k_) ∧ k_ ≠ ac ∧ k_ ≠ ae ∧ k_ ≠ aa)) ag)))) (Reps.none _ _)))); intro bj bk ho13 hb hg_ hnew_; clear hg_ hnew_; (first | rw [← al.out] at ho13 | (simp only [Int.reduceToNat] at ho13; rw [← al.out] at ho13)); have am := mk0 (Kd.N_lower ho13 (below_size bH)); replace aj := bB aj hb; replace HB := hbB bH hb; clear hb ho13; obtain ⟨ao, ap, ay⟩ := Kd.N_slice am.out; subst ay; obtain ⟨bl, bm, bn, bo, bp, bq, br, bs⟩ := cL4 aj))
 refine bodyPost_ret (results_cell_row rfl _ _ aa 26 #[.int .i64 a0, .int .i64 0, .string (⟨#[]⟩ : ByteArray), .slice ao ak.length ap] (0, 0) _ rfl (kB) Tryd.underlying26 rfl (by kernel_rfl)) rfl ?_
 exact ⟨_, rE, uN (Kd.N_mono (Kd.N_far (p := ⟨aa, 3, none⟩) (Kd.N_far (p := ⟨aa, 2, none⟩) (Kd.N_far (p := ⟨aa, 1, none⟩) (Kd.N_far (p := ⟨aa, 0, none⟩) (Kd.N_mono am.out (fun k_ hk => (⟨hk, hk.2.2.2⟩ : _ ∧ k_ ≠ aa))) (fun _ hk => hk.2) (.int .i64 a0)) (fun _ hk => hk.2) (.int .i64 0)) (fun _ hk => hk.2) (.string (⟨#[]⟩ : ByteArray))) (fun _ hk => hk.2) (.slice ao ak.length ap)) (fun _ hk => hk.1.1)), bH⟩

/-! ### furrowlaw12_N: function 7 -/
def furrowlaw12_N.f (a0 : Int) : Option (Int × Int × ByteArray × (List (S26))) := some (1, a0, (⟨#[]⟩ : ByteArray), ([] : List (S26)))
set_option maxHeartbeats 8000000 in
set_option maxRecDepth 100000 in
theorem furrowlaw12_N.calls (a0 : Int) (r1 : Int) (r2 : Int) (r3 : ByteArray) (r4 : List (S26)) (w : World) (h : furrowlaw12_N.f a0 = some (r1, r2, r3, r4)) :
  Calls Tryd.prog 7 #[.int .i64 a0] w fun e w' => ∃ v3_ : Value, e = .returned (.agg #[.int .i64 r1, .int .i64 r2, .string r3, v3_]) ∧ Kd.R k26 26 w' w.heap.size (fun _ => True) v3_ r4 ∧ Below w.heap.size w w' := by
 have hu26 := Tryd.underlying26
 have HB := mk0 (Below.refl w.heap.size w)
 have H : (some (1, a0, (⟨#[]⟩ : ByteArray), ([] : List (S26)))) = some (r1, r2, r3, r4) := h
 clear h
 simp only [Option.some.injEq, Prod.mk.injEq] at H
 obtain ⟨rfl, rfl, rfl, rfl⟩ := H
 go_enter Tryd.func7, Tryd.ntmps7
 go_wp2_with (first | ((with_reducible refine gate_dst (N := 2) rfl ?_); refine bxE 2 #[.int .i64 0, .int .i64 0, .string (⟨#[]⟩ : ByteArray), .slice none 0 0] 26 ?_; intro gb113 hg w2 hbox hb; have BK113 := mk0 (hbox); have GW113 := gE (uL HB.out) hg; replace HB := hbB (uL HB.out) hb; clear hb hbox hg; obtain ⟨hcz3_0, hcz3_1, hcz3_2, hcz3_3, hfz3_0, hfz3_1, hfz3_2, hfz3_3⟩ := cL4 BK113))
 refine bodyPost_ret (results_cell_row rfl _ _ gb113 26 #[.int .i64 1, .int .i64 a0, .string (⟨#[]⟩ : ByteArray), .slice none 0 0] (0, 0) _ rfl (kB) Tryd.underlying26 rfl (by kernel_rfl)) rfl ?_
 exact ⟨_, rE, nK, bH⟩

/-! ### furrowlaw12_V: function 8 -/
def furrowlaw12_V.f (a0 : ByteArray) : Option (Int × Int × ByteArray × (List (S26))) := some (2, 0, a0, ([] : List (S26)))
set_option maxHeartbeats 8000000 in
set_option maxRecDepth 100000 in
theorem furrowlaw12_V.calls (a0 : ByteArray) (r1 : Int) (r2 : Int) (r3 : ByteArray) (r4 : List (S26)) (w : World) (h : furrowlaw12_V.f a0 = some (r1, r2, r3, r4)) :
  Calls Tryd.prog 8 #[.string a0] w fun e w' => ∃ v3_ : Value, e = .returned (.agg #[.int .i64 r1, .int .i64 r2, .string r3, v3_]) ∧ Kd.R k26 26 w' w.heap.size (fun _ => True) v3_ r4 ∧ Below w.heap.size w w' := by
 have hu26 := Tryd.underlying26
 have HB := mk0 (Below.refl w.heap.size w)
 have H : (some (2, 0, a0, ([] : List (S26)))) = some (r1, r2, r3, r4) := h
 clear h
 simp only [Option.some.injEq, Prod.mk.injEq] at H
 obtain ⟨rfl, rfl, rfl, rfl⟩ := H
 go_enter Tryd.func8, Tryd.ntmps8
 go_wp2_with (first | ((with_reducible refine gate_dst (N := 2) rfl ?_); refine bxE 2 #[.int .i64 0, .int .i64 0, .string (⟨#[]⟩ : ByteArray), .slice none 0 0] 26 ?_; intro gb114 hg w2 hbox hb; have BK114 := mk0 (hbox); have GW114 := gE (uL HB.out) hg; replace HB := hbB (uL HB.out) hb; clear hb hbox hg; obtain ⟨hcz3_0, hcz3_1, hcz3_2, hcz3_3, hfz3_0, hfz3_1, hfz3_2, hfz3_3⟩ := cL4 BK114))
 refine bodyPost_ret (results_cell_row rfl _ _ gb114 26 #[.int .i64 2, .int .i64 0, .string a0, .slice none 0 0] (0, 0) _ rfl (kB) Tryd.underlying26 rfl (by kernel_rfl)) rfl ?_
 exact ⟨_, rE, nK, bH⟩

/-! ### lin_Const: function 27 -/
def lin_Const.f (a0 : Int) (a1 : Int) : Option (List Int × Int) := if 0 ≤ (mx a0 0) then (if (mx a0 0 : Int).toNat ≤ 35184372088832 then (some ((List.replicate (mx a0 0 : Int).toNat 0), a1)) else (none)) else (none)
set_option maxHeartbeats 8000000 in
set_option maxRecDepth 100000 in
theorem lin_Const.calls (a0 : Int) (a1 : Int) (r1 : List Int) (r2 : Int) (w : World) (h : lin_Const.f a0 a1 = some (r1, r2)) :
  Calls Tryd.prog 27 #[.int .i64 a0, .int .i64 a1] w fun e w' => ∃ v0_ : Value, e = .returned (.agg #[v0_, .int .i64 r2]) ∧ Kd.R (Kd.int .i64) 2 w' w.heap.size (fun _ => True) v0_ r1 ∧ Below w.heap.size w w' := by
 have hu32 := Tryd.underlying32
 have HB := mk0 (Below.refl w.heap.size w)
 have H : (if 0 ≤ (mx a0 0) then (if (mx a0 0 : Int).toNat ≤ 35184372088832 then (some ((List.replicate (mx a0 0 : Int).toNat 0), a1)) else (none)) else (none)) = some (r1, r2) := h
 clear h
 obtain ⟨ji3, hji3⟩ : ∃ j_ : Int, (mx a0 0) = j_ := ⟨_, rfl⟩
 replace H : (if 0 ≤ (ji3) then (if (ji3 : Int).toNat ≤ 35184372088832 then (some ((List.replicate (ji3 : Int).toNat 0), a1)) else (none)) else (none)) = some (r1, r2) := by first | (rw [hji3] at H; exact H) | (simp only [hji3] at H ⊢; exact H)
 (try (have hji3l : 0 ≤ ji3 := by (rw [← hji3]; unfold mx; (repeat' split) <;> omega)))
 (try (have hji3m : 0 ≤ ji3 := by omega))
 have hji3_ : (if a0 < 0 then 0 else a0) = ji3 := hji3
 by_cases c4 : 0 ≤ (ji3)
 ·rw [if_pos c4] at H
  have ak := eq_true c4; have al := decide_eq_true c4; clear c4
  by_cases c5 : (ji3 : Int).toNat ≤ 35184372088832
  ·rw [if_pos c5] at H
   have am := eq_true c5; have ao := decide_eq_true c5; clear c5; obtain ⟨ab, ac⟩ : ∃ y_ : List Int, y_ = (List.replicate (ji3 : Int).toNat 0) := ⟨_, rfl⟩; (replace H : (some (ab, a1)) = some (r1, r2) := by (try rw [ac]); first | with_reducible exact H | with_reducible exact oN H | exact H); have af := mk0 ac; clear ac; simp only [Option.some.injEq, Prod.mk.injEq] at H; obtain ⟨rfl, rfl⟩ := H; go_enter Tryd.func27, Tryd.ntmps27
   go_wp2_with (first | ((with_reducible refine gate_dst (N := 4) rfl ?_); refine bxE 4 #[.slice none 0 0, .int .i64 0] 32 ?_; intro ae hg w6 hbox hb; have aa := mk0 (hbox); have ap := gE (uL HB.out) hg; replace HB := hbB (uL HB.out) hb; clear hb hbox hg) | ((with_reducible refine gate_dst (N := 7) rfl ?_); refine Kd.R_make (Kd.int .i64) _ 2 rfl (N := 7) rfl 30 _ _ rfl ji3 rfl rfl Tryd.underlying30 (.int .i64 0) 8 info2 rfl (by decide) (by omega) 0 (ok := fun _ => True) (okp := fun _ => True) rfl (fun _ hk => hk) trivial (dY) (Nat.le_trans (Nat.mul_le_mul_right _ (dY : ji3.toNat ≤ 35184372088832)) (by omega)) (Below.refl _ _) (Nat.le_refl _) ?_; intro aq w7 ho8 hb hg_ hnew_; clear hg_ hnew_; (first | rw [← af.out] at ho8 | (simp only [Int.reduceToNat] at ho8; rw [← af.out] at ho8)); have ag := mk0 (Kd.R_lower ho8 (below_size bH)); replace aa := bB aa hb; replace HB := hbB bH hb; clear hb ho8; obtain ⟨ah, ai, aj⟩ := Kd.R_slice ag.out; subst aj; obtain ⟨ar, au, av, aw⟩ := cL2 aa))
   refine bodyPost_ret (results_cell_row rfl _ _ ae 32 #[.slice ah ab.length ai, .int .i64 a1] (0, 0) _ rfl (kB) Tryd.underlying32 rfl (by kernel_rfl)) rfl ?_; exact ⟨_, by first | rfl | (simp [errW_none, errW_some] <;> rfl) | (simp only [← hji3]; first | rfl | (simp [errW_none, errW_some] <;> rfl)) | (simp [*, errW_none, errW_some] <;> rfl), uR (Kd.R_mono (Kd.R_far (p := ⟨ae, 1, none⟩) (Kd.R_far (p := ⟨ae, 0, none⟩) (Kd.R_types ag.out aa.out (by decide)) (fun _ hk => hk.2) (.slice ah ab.length ai)) (fun _ hk => hk.2) (.int .i64 a1)) (fun _ hk => trivial)), bH⟩
  ·exact nO H c5
 ·exact nO H c4

end Go.Proofs.YtnkckdbjeemjeaaDoor.X
