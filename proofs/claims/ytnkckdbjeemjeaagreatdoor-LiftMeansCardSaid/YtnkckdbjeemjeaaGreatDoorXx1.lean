-- PRINTED by print.py (a twelfth state) out of the translation. Not trusted: Lean checks it.
import Derived.Test.YtnkckdbjeemjeaaGreatDoorXx0
namespace Go.Proofs.YtnkckdbjeemjeaaGreatDoor.X
open Go.Proofs.YtnkckdbjeemjeaaGreatDoor.Flt Go.Proofs.YtnkckdbjeemjeaaGreatDoor.H Go.RowKit Go.Proofs.YtnkckdbjeemjeaaGreatDoorW.PrintWords Go.Proofs.YtnkckdbjeemjeaaGreatDoorW.PrintLast Go.Proofs.YtnkckdbjeemjeaaGreatDoorW.PrintMore
attribute [local go_sem] max2_int min2_int max_two min_two max_three min_three max_four min_four   -- for this text's walks alone
set_option linter.unusedVariables false
set_option linter.unusedSimpArgs false

/-! ### num_Add: function 84 -/
def num_Add.f (a0 : Int) (a1 : Int) : Option (Int × Bool) := if ((decide (a0 < 0)) == (decide (a1 < 0))) = true then (if ((decide ((wrap64 (a0 + a1)) < 0)) != (decide (a0 < 0))) = true then (some (0, false)) else (some (wrap64 (a0 + a1), true))) else (some (wrap64 (a0 + a1), true))
set_option maxHeartbeats 8000000 in
set_option maxRecDepth 100000 in
theorem num_Add.calls (a0 : Int) (a1 : Int) (r1 : Int) (r2 : Bool) (w : World) (h : num_Add.f a0 a1 = some (r1, r2)) :
  Calls Tryz.prog 84 #[.int .i64 a0, .int .i64 a1] w fun e w' => e = .returned (.tuple #[.int .i64 r1, .bool r2]) ∧ Drawn0 w w' := by
 have H : (if ((decide (a0 < 0)) == (decide (a1 < 0))) = true then (if ((decide ((wrap64 (a0 + a1)) < 0)) != (decide (a0 < 0))) = true then (some (0, false)) else (some (wrap64 (a0 + a1), true))) else (some (wrap64 (a0 + a1), true))) = some (r1, r2) := h
 clear h
 by_cases c3 : ((decide (a0 < 0)) == (decide (a1 < 0))) = true
 ·rw [if_pos c3] at H
  have c3b0 : ((decide (a0 < 0)) == (decide (a1 < 0))) = true := c3; (try (have c3b1 : decide ((decide (a0 < 0)) = (decide (a1 < 0))) = true := by (revert c3; generalize ((decide (a0 < 0))) = p_; generalize ((decide (a1 < 0))) = q_; revert p_ q_; decide))); (try (have c3b2 : ((decide (a0 < 0)) == (decide (a1 < 0))) = true := by (revert c3; generalize ((decide (a0 < 0))) = p_; generalize ((decide (a1 < 0))) = q_; revert p_ q_; decide))); clear c3
  by_cases c4 : ((decide ((wrap64 (a0 + a1)) < 0)) != (decide (a0 < 0))) = true
  ·rw [if_pos c4] at H
   have c4b0 : ((decide ((wrap64 (a0 + a1)) < 0)) != (decide (a0 < 0))) = true := c4; (try (have c4b1 : decide ((decide ((wrap64 (a0 + a1)) < 0)) = (decide (a0 < 0))) = false := by (revert c4; generalize ((decide ((wrap64 (a0 + a1)) < 0))) = p_; generalize ((decide (a0 < 0))) = q_; revert p_ q_; decide))); (try (have c4b2 : ((decide ((wrap64 (a0 + a1)) < 0)) == (decide (a0 < 0))) = false := by (revert c4; generalize ((decide ((wrap64 (a0 + a1)) < 0))) = p_; generalize ((decide (a0 < 0))) = q_; revert p_ q_; decide))); (try (have c4b3 : ¬ ((decide ((wrap64 (a0 + a1)) < 0)) = (decide (a0 < 0))) := by (revert c4; generalize ((decide ((wrap64 (a0 + a1)) < 0))) = p_; generalize ((decide (a0 < 0))) = q_; revert p_ q_; decide))); clear c4; simp only [Option.some.injEq, Prod.mk.injEq] at H; obtain ⟨rfl, rfl⟩ := H; go_enter Tryz.func84, Tryz.ntmps84; go_wp2
   all_goals (try (exfalso; rename_i h_; rw [c3b2] at h_; revert h_; decide))
   all_goals (try (exfalso; rename_i h_; rw [c4b2] at h_; revert h_; decide))
   go_ret2
   exact ⟨eK, by repeat (first | exact Drawn0.refl _ | apply Drawn0.step)⟩
  ·rw [if_neg c4] at H
   (have c4b0 : ((decide ((wrap64 (a0 + a1)) < 0)) != (decide (a0 < 0))) = false := by simpa using c4); (try (have c4b1 : decide ((decide ((wrap64 (a0 + a1)) < 0)) = (decide (a0 < 0))) = true := by (revert c4; generalize ((decide ((wrap64 (a0 + a1)) < 0))) = p_; generalize ((decide (a0 < 0))) = q_; revert p_ q_; decide))); (try (have c4b2 : ((decide ((wrap64 (a0 + a1)) < 0)) == (decide (a0 < 0))) = true := by (revert c4; generalize ((decide ((wrap64 (a0 + a1)) < 0))) = p_; generalize ((decide (a0 < 0))) = q_; revert p_ q_; decide))); clear c4; simp only [Option.some.injEq, Prod.mk.injEq] at H; obtain ⟨rfl, rfl⟩ := H; go_enter Tryz.func84, Tryz.ntmps84; go_wp2
   all_goals (try (exfalso; rename_i h_; rw [c3b2] at h_; revert h_; decide))
   all_goals (try (exfalso; rename_i h_; rw [c4b2] at h_; revert h_; decide))
   go_ret2
   exact ⟨eK, by repeat (first | exact Drawn0.refl _ | apply Drawn0.step)⟩
 ·rw [if_neg c3] at H
  (have c3b0 : ((decide (a0 < 0)) == (decide (a1 < 0))) = false := by simpa using c3); (try (have c3b1 : decide ((decide (a0 < 0)) = (decide (a1 < 0))) = false := by (revert c3; generalize ((decide (a0 < 0))) = p_; generalize ((decide (a1 < 0))) = q_; revert p_ q_; decide))); (try (have c3b2 : ((decide (a0 < 0)) == (decide (a1 < 0))) = false := by (revert c3; generalize ((decide (a0 < 0))) = p_; generalize ((decide (a1 < 0))) = q_; revert p_ q_; decide))); (try (have c3b3 : ¬ ((decide (a0 < 0)) = (decide (a1 < 0))) := by (revert c3; generalize ((decide (a0 < 0))) = p_; generalize ((decide (a1 < 0))) = q_; revert p_ q_; decide))); clear c3; simp only [Option.some.injEq, Prod.mk.injEq] at H; obtain ⟨rfl, rfl⟩ := H; go_enter Tryz.func84, Tryz.ntmps84; go_wp2
  all_goals (try (exfalso; rename_i h_; rw [c3b2] at h_; revert h_; decide))
  go_ret2
  exact ⟨eK, by repeat (first | exact Drawn0.refl _ | apply Drawn0.step)⟩

/-! ### bits_Mul64: function 92 -/
def bits_Mul64.f (a0 : Int) (a1 : Int) : Option (Int × Int) := some (IntKind.u64.wrap ((IntKind.u64.wrap ((IntKind.u64.wrap ((a0 / 4294967296) * (a1 / 4294967296))) + ((IntKind.u64.wrap ((IntKind.u64.wrap ((a0 / 4294967296) * (Go.bits .and .u64 a1 4294967295))) + ((IntKind.u64.wrap ((Go.bits .and .u64 a0 4294967295) * (Go.bits .and .u64 a1 4294967295))) / 4294967296))) / 4294967296))) + ((IntKind.u64.wrap ((Go.bits .and .u64 (IntKind.u64.wrap ((IntKind.u64.wrap ((a0 / 4294967296) * (Go.bits .and .u64 a1 4294967295))) + ((IntKind.u64.wrap ((Go.bits .and .u64 a0 4294967295) * (Go.bits .and .u64 a1 4294967295))) / 4294967296))) 4294967295) + (IntKind.u64.wrap ((Go.bits .and .u64 a0 4294967295) * (a1 / 4294967296))))) / 4294967296)), IntKind.u64.wrap (a0 * a1))
set_option maxHeartbeats 8000000 in
set_option maxRecDepth 100000 in
theorem bits_Mul64.calls (a0 : Int) (a1 : Int) (r1 : Int) (r2 : Int) (w : World) (h : bits_Mul64.f a0 a1 = some (r1, r2)) :
  Calls Tryz.prog 92 #[.int .u64 a0, .int .u64 a1] w fun e w' => e = .returned (.tuple #[.int .u64 r1, .int .u64 r2]) ∧ Drawn0 w w' := by
 have H : (some (IntKind.u64.wrap ((IntKind.u64.wrap ((IntKind.u64.wrap ((a0 / 4294967296) * (a1 / 4294967296))) + ((IntKind.u64.wrap ((IntKind.u64.wrap ((a0 / 4294967296) * (Go.bits .and .u64 a1 4294967295))) + ((IntKind.u64.wrap ((Go.bits .and .u64 a0 4294967295) * (Go.bits .and .u64 a1 4294967295))) / 4294967296))) / 4294967296))) + ((IntKind.u64.wrap ((Go.bits .and .u64 (IntKind.u64.wrap ((IntKind.u64.wrap ((a0 / 4294967296) * (Go.bits .and .u64 a1 4294967295))) + ((IntKind.u64.wrap ((Go.bits .and .u64 a0 4294967295) * (Go.bits .and .u64 a1 4294967295))) / 4294967296))) 4294967295) + (IntKind.u64.wrap ((Go.bits .and .u64 a0 4294967295) * (a1 / 4294967296))))) / 4294967296)), IntKind.u64.wrap (a0 * a1))) = some (r1, r2) := h
 clear h
 simp only [Option.some.injEq, Prod.mk.injEq] at H
 obtain ⟨rfl, rfl⟩ := H
 go_enter Tryz.func92, Tryz.ntmps92
 go_wp2
 go_ret2
 exact ⟨eK, by repeat (first | exact Drawn0.refl _ | apply Drawn0.step)⟩

/-! ### num_size: function 93 -/
def num_size.f (a0 : Int) : Option (Int) := if a0 < 0 then (some (IntKind.u64.wrap (-(IntKind.u64.wrap (a0))))) else (some (IntKind.u64.wrap (a0)))
set_option maxHeartbeats 8000000 in
set_option maxRecDepth 100000 in
theorem num_size.calls (a0 : Int) (r : Int) (w : World) (h : num_size.f a0 = some r) :
  Calls Tryz.prog 93 #[.int .i64 a0] w fun e w' => e = .returned (.int .u64 r) ∧ Drawn0 w w' := by
 have H : (if a0 < 0 then (some (IntKind.u64.wrap (-(IntKind.u64.wrap (a0))))) else (some (IntKind.u64.wrap (a0)))) = some r := h
 clear h
 by_cases c2 : a0 < 0
 ·rw [if_pos c2] at H
  have c2b0 := decide_eq_true c2; clear c2; obtain rfl := Option.some.inj H; go_enter Tryz.func93, Tryz.ntmps93; go_wp2; go_ret; exact ⟨eK, by repeat (first | exact Drawn0.refl _ | apply Drawn0.step)⟩
 ·rw [if_neg c2] at H
  have c2b0 := decide_eq_false c2; clear c2; obtain rfl := Option.some.inj H; go_enter Tryz.func93, Tryz.ntmps93; go_wp2; go_ret; exact ⟨eK, by repeat (first | exact Drawn0.refl _ | apply Drawn0.step)⟩

/-! ### num_Mul: function 79 -/
mutual
def num_Mul.j0 : Nat → Int → Int → Bool → Int → Option (Int × Bool)
 | 0, _, _, _, _ => none
 | k + 1, x6, x7, x8, x9 => if x6 > 0 then (num_Mul.j1 k x7 x8 true) else (num_Mul.j1 k x7 x8 (decide (x7 > x9)))
def num_Mul.j1 : Nat → Int → Bool → Bool → Option (Int × Bool)
 | 0, _, _, _ => none
 | k + 1, x7, x8, x32 => if x32 = true then (some (0, false)) else (if x8 = true then (some (wrap64 (IntKind.u64.wrap (-x7)), true)) else (some (wrap64 (x7), true)))
end
def num_Mul.f (k : Nat) (a0 : Int) (a1 : Int) : Option (Int × Bool) := (num_size.f a0).bind fun t101 => ((num_size.f a1).bind fun t102 => ((bits_Mul64.f t101 t102).bind fun bt103 => (if ((decide (a0 < 0)) != (decide (a1 < 0))) = true then (num_Mul.j0 k bt103.1 bt103.2 ((decide (a0 < 0)) != (decide (a1 < 0))) (9223372036854775807 + 1)) else (num_Mul.j0 k bt103.1 bt103.2 ((decide (a0 < 0)) != (decide (a1 < 0))) 9223372036854775807))))
theorem num_Mul.mono_l : ∀ k, (∀ y0 y1 y2 y3, LeO (num_Mul.j0 k y0 y1 y2 y3) (num_Mul.j0 (k + 1) y0 y1 y2 y3)) ∧ (∀ y0 y1 y2, LeO (num_Mul.j1 k y0 y1 y2) (num_Mul.j1 (k + 1) y0 y1 y2))
 | 0 => by refine ⟨?_, ?_⟩ <;> intros <;> exact fun r h => by simp [num_Mul.j0, num_Mul.j1] at h
 | k + 1 => by
  obtain ⟨i0_, i1_⟩ := num_Mul.mono_l k; refine ⟨?_, ?_⟩ <;> intros
  ·unfold num_Mul.j0; exact lO_
  ·unfold num_Mul.j1; exact lO_
theorem num_Mul.mono : ∀ a0 a1 k, LeO (num_Mul.f k a0 a1) (num_Mul.f (k + 1) a0 a1) := by
 intro a0 a1 k
 obtain ⟨i0_, i1_⟩ := num_Mul.mono_l k; unfold num_Mul.f; exact lO_
set_option maxHeartbeats 8000000 in
set_option maxRecDepth 100000 in
theorem num_Mul.calls (k : Nat) (a0 : Int) (a1 : Int) (r1 : Int) (r2 : Bool) (w : World) (h : num_Mul.f k a0 a1 = some (r1, r2)) :
  Calls Tryz.prog 79 #[.int .i64 a0, .int .i64 a1] w fun e w' => e = .returned (.tuple #[.int .i64 r1, .bool r2]) ∧ Drawn0 w w' := by
 have H : ((num_size.f a0).bind fun ab => ((num_size.f a1).bind fun ac => ((bits_Mul64.f ab ac).bind fun ag => (if ((decide (a0 < 0)) != (decide (a1 < 0))) = true then (num_Mul.j0 k ag.1 ag.2 ((decide (a0 < 0)) != (decide (a1 < 0))) (9223372036854775807 + 1)) else (num_Mul.j0 k ag.1 ag.2 ((decide (a0 < 0)) != (decide (a1 < 0))) 9223372036854775807))))) = some (r1, r2) := h
 clear h
 replace H := Option.bind_eq_some_iff.mp H
 obtain ⟨ab, aq, H⟩ := H
 have A3 := mk0 aq
 clear aq
 replace H := Option.bind_eq_some_iff.mp H
 obtain ⟨ac, ar, H⟩ := H
 have A4 := mk0 ar
 clear ar
 replace H := Option.bind_eq_some_iff.mp H
 obtain ⟨⟨ak, ah⟩, au, H⟩ := H
 dsimp only at H
 have A5 := mk0 au
 clear au
 have al := mk0 H
 clear H
 go_enter Tryz.func79, Tryz.ntmps79
 go_upto_if 23 with (first | ((with_reducible refine gate_dst (N := 12) rfl ?_); refine gsM (some 12) Tryz.func93 #[.int .i64 a0] ?_; (with_reducible refine (num_size.calls a0 ab _ A3.out).mono ?_); rintro e w' ⟨rfl, ⟨nd, rfl⟩⟩; refine ⟨_, rfl, ?_⟩) | ((with_reducible refine gate_dst (N := 14) rfl ?_); refine gsM (some 14) Tryz.func93 #[.int .i64 a1] ?_; (with_reducible refine (num_size.calls a1 ac _ A4.out).mono ?_); rintro e w' ⟨rfl, ⟨nd, rfl⟩⟩; refine ⟨_, rfl, ?_⟩) | ((with_reducible refine gate_dst (N := 15) rfl ?_); refine gsM (some 15) Tryz.func92 #[.int .u64 ab, .int .u64 ac] ?_; (with_reducible refine (bits_Mul64.calls ab ac ak ah _ A5.out).mono ?_); rintro e w' ⟨rfl, ⟨nd, rfl⟩⟩; refine ⟨_, rfl, ?_⟩))
 (try simp only [AP])
 go_cut [9] (fun v9 wc => ∃ (kq : Nat) (x9_5 : Int), v9 = .int .u64 x9_5 ∧ Aside0 (num_Mul.j0 kq ak ah ((decide (a0 < 0)) != (decide (a1 < 0))) x9_5 = some (r1, r2)) ∧ Aside0 (kq ≤ k) ∧ Drawn0 w wc)
 case first =>
  have H := al.out; clear al
  by_cases c7 : ((decide (a0 < 0)) != (decide (a1 < 0))) = true
  ·rw [if_pos c7] at H
   have ae : ((decide (a0 < 0)) != (decide (a1 < 0))) = true := c7; (try (have aw : decide ((decide (a0 < 0)) = (decide (a1 < 0))) = false := by (revert c7; generalize ((decide (a0 < 0))) = p_; generalize ((decide (a1 < 0))) = q_; revert p_ q_; decide))); (try (have am : ((decide (a0 < 0)) == (decide (a1 < 0))) = false := by (revert c7; generalize ((decide (a0 < 0))) = p_; generalize ((decide (a1 < 0))) = q_; revert p_ q_; decide))); (try (have az : ¬ ((decide (a0 < 0)) = (decide (a1 < 0))) := by (revert c7; generalize ((decide (a0 < 0))) = p_; generalize ((decide (a1 < 0))) = q_; revert p_ q_; decide))); clear c7; (first | rw [ae] | (simp only [i64_w, i32_w]; rw [ae]) | skip); have H' := mk0 H; clear H; go_wp2
   all_goals (try (exfalso; rename_i h_; rw [am] at h_; revert h_; decide))
   go_meet
   case rel => exact ⟨_, (9223372036854775807 + 1), eK, H', ⟨by first | omega | exact Nat.le_refl _⟩, by repeat (first | exact Drawn0.refl _ | apply Drawn0.step)⟩
  ·rw [if_neg c7] at H
   (have ae : ((decide (a0 < 0)) != (decide (a1 < 0))) = false := by simpa using c7); (try (have aw : decide ((decide (a0 < 0)) = (decide (a1 < 0))) = true := by (revert c7; generalize ((decide (a0 < 0))) = p_; generalize ((decide (a1 < 0))) = q_; revert p_ q_; decide))); (try (have am : ((decide (a0 < 0)) == (decide (a1 < 0))) = true := by (revert c7; generalize ((decide (a0 < 0))) = p_; generalize ((decide (a1 < 0))) = q_; revert p_ q_; decide))); clear c7; (first | rw [ae] | (simp only [i64_w, i32_w]; rw [ae]) | skip); have H' := mk0 H; clear H; go_wp2
   all_goals (try (exfalso; rename_i h_; rw [am] at h_; revert h_; decide))
   go_meet
   case rel => exact ⟨_, (9223372036854775807), eK, H', ⟨by first | omega | exact Nat.le_refl _⟩, by repeat (first | exact Drawn0.refl _ | apply Drawn0.step)⟩
 case rest =>
  clear al; obtain ⟨kq, x9_5, rfl, HA, av, ⟨mc5, rfl⟩⟩ := hcut
  cases kq with
  | zero => exact absurd HA.out (by simp [num_Mul.j0])
  | succ kj5 =>
   have H := HA.out; clear HA; simp only [num_Mul.j0] at H; have ao := mk0 H; clear H
   go_upto_region 6 with (fail)
   go_cut [32] (fun v32 wc => ∃ (kq : Nat) (ai : Bool), v32 = .bool ai ∧ Aside0 (num_Mul.j1 kq ah ((decide (a0 < 0)) != (decide (a1 < 0))) ai = some (r1, r2)) ∧ Aside0 (kq ≤ kj5) ∧ Drawn0 w wc)
   case first =>
    have H := ao.out; clear ao
    by_cases c9 : ak > 0
    ·rw [if_pos c9] at H
     have af := decide_eq_true c9; clear c9; (first | rw [af] | (simp only [i64_w, i32_w]; rw [af]) | skip); have H' := mk0 H; clear H; go_wp2
     go_meet
     case rel => exact ⟨_, (true), eK, H', ⟨by have := av.out; first | omega | exact Nat.le_refl _⟩, by repeat (first | exact Drawn0.refl _ | apply Drawn0.step)⟩
    ·rw [if_neg c9] at H
     have af := decide_eq_false c9; clear c9; (first | rw [af] | (simp only [i64_w, i32_w]; rw [af]) | skip); have H' := mk0 H; clear H; go_wp2
     go_meet
     case rel => exact ⟨_, (decide (ah > x9_5)), eK, H', ⟨by have := av.out; first | omega | exact Nat.le_refl _⟩, by repeat (first | exact Drawn0.refl _ | apply Drawn0.step)⟩
   case rest =>
    clear ao; obtain ⟨kq, ai, rfl, HA, aA, ⟨mc7, rfl⟩⟩ := hcut
    cases kq with
    | zero => exact absurd HA.out (by simp [num_Mul.j1])
    | succ kj7 =>
     have H := HA.out; clear HA; simp only [num_Mul.j1] at H
     by_cases aj : ai = true
     ·subst aj
      replace H := iT H; simp only [Option.some.injEq, Prod.mk.injEq] at H; obtain ⟨rfl, rfl⟩ := H; go_wp2
      go_ret2
      exact ⟨eK, by repeat (first | exact Drawn0.refl _ | apply Drawn0.step)⟩
     ·replace aj := Bool.eq_false_iff.mpr aj
      subst aj; replace H := iF H
      by_cases aa : ((decide (a0 < 0)) != (decide (a1 < 0))) = true
      ·rw [if_pos aa] at H
       have ax : ((decide (a0 < 0)) != (decide (a1 < 0))) = true := aa; (try (have ay : decide ((decide (a0 < 0)) = (decide (a1 < 0))) = false := by (revert aa; generalize ((decide (a0 < 0))) = p_; generalize ((decide (a1 < 0))) = q_; revert p_ q_; decide))); (try (have ap : ((decide (a0 < 0)) == (decide (a1 < 0))) = false := by (revert aa; generalize ((decide (a0 < 0))) = p_; generalize ((decide (a1 < 0))) = q_; revert p_ q_; decide))); (try (have aC : ¬ ((decide (a0 < 0)) = (decide (a1 < 0))) := by (revert aa; generalize ((decide (a0 < 0))) = p_; generalize ((decide (a1 < 0))) = q_; revert p_ q_; decide))); clear aa; simp only [Option.some.injEq, Prod.mk.injEq] at H; obtain ⟨rfl, rfl⟩ := H; go_wp2
       all_goals (try (exfalso; rename_i h_; rw [ap] at h_; revert h_; decide))
       go_ret2
       exact ⟨eK, by repeat (first | exact Drawn0.refl _ | apply Drawn0.step)⟩
      ·rw [if_neg aa] at H
       (have ax : ((decide (a0 < 0)) != (decide (a1 < 0))) = false := by simpa using aa); (try (have ay : decide ((decide (a0 < 0)) = (decide (a1 < 0))) = true := by (revert aa; generalize ((decide (a0 < 0))) = p_; generalize ((decide (a1 < 0))) = q_; revert p_ q_; decide))); (try (have ap : ((decide (a0 < 0)) == (decide (a1 < 0))) = true := by (revert aa; generalize ((decide (a0 < 0))) = p_; generalize ((decide (a1 < 0))) = q_; revert p_ q_; decide))); clear aa; simp only [Option.some.injEq, Prod.mk.injEq] at H; obtain ⟨rfl, rfl⟩ := H; go_wp2
       all_goals (try (exfalso; rename_i h_; rw [ap] at h_; revert h_; decide))
       go_ret2
       exact ⟨eK, by repeat (first | exact Drawn0.refl _ | apply Drawn0.step)⟩

/-! ### lin_Form_part: function 80 -/
def lin_Form_part.f (l0_0 : List Int) (a0_1 : Int) (a1 : Int) : Option (Int) := if a1 < (l0_0.length : Int) then (if 0 ≤ a1 then (some (rd l0_0 a1)) else (none)) else (some a0_1)
set_option maxHeartbeats 8000000 in
set_option maxRecDepth 100000 in
theorem lin_Form_part.calls (A0_0 : Option Addr) (c0_0 : Nat) (l0_0 : List Int) (a0_1 : Int) (a1 : Int) (r : Int) (w : World) (hr0_0 : Kd.C (Kd.int .i64) w A0_0 l0_0.length l0_0) (hc0_0 : l0_0.length ≤ c0_0) (h : lin_Form_part.f l0_0 a0_1 a1 = some r) :
  Calls Tryz.prog 80 #[.agg #[.slice A0_0 l0_0.length c0_0, .int .i64 a0_1], .int .i64 a1] w fun e w' => e = .returned (.int .i64 r) ∧ Below w.heap.size w w' := by
 have hu46 := Tryz.underlying46
 have HR0_0 := mk0 hr0_0
 have HC0_0 := mk0 hc0_0
 clear hr0_0 hc0_0
 have HB := mk0 (Below.refl w.heap.size w)
 have H : (if a1 < (l0_0.length : Int) then (if 0 ≤ a1 then (some (rd l0_0 a1)) else (none)) else (some a0_1)) = some r := h
 clear h
 by_cases c3 : a1 < (l0_0.length : Int)
 ·rw [if_pos c3] at H
  have c3b0 := decide_eq_true c3; clear c3
  by_cases c4 : 0 ≤ a1
  ·rw [if_pos c4] at H
   have c4b0 := decide_eq_true c4; clear c4; obtain rfl := Option.some.inj H; go_enter Tryz.func80, Tryz.ntmps80
   go_wp2_with (first | ((with_reducible refine gate_dst (N := 2) rfl ?_); refine bxE 2 #[.slice A0_0 l0_0.length c0_0, .int .i64 a0_1] 46 ?_; intro gb105 hg w5 hbox hb; have BK105 := mk0 (hbox); have GW105 := gE (uL HB.out) hg; replace HB := hbB (uL HB.out) hb; clear hb hbox hg; obtain ⟨hcz6_0, hcz6_1, hfz6_0, hfz6_1⟩ := cL2 BK105; have p106 : 0 ≤ (a1 : Int) := dY; have q106 : a1 < (l0_0.length : Int) := dY; obtain ⟨ad106, e106, hx106_0⟩ := Kd.at_int HR0_0.out a1 p106 q106; cases e106; replace hx106_0 := oC HB hx106_0; replace p106 := eq_true p106; replace q106 := eq_true q106))
   go_ret; exact ⟨rE, bH⟩
  ·exact nO H c4
 ·rw [if_neg c3] at H
  have c3b0 := decide_eq_false c3; clear c3; obtain rfl := Option.some.inj H; go_enter Tryz.func80, Tryz.ntmps80
  go_wp2_with (first | ((with_reducible refine gate_dst (N := 2) rfl ?_); refine bxE 2 #[.slice A0_0 l0_0.length c0_0, .int .i64 a0_1] 46 ?_; intro gb105 hg w7 hbox hb; have BK105 := mk0 (hbox); have GW105 := gE (uL HB.out) hg; replace HB := hbB (uL HB.out) hb; clear hb hbox hg; obtain ⟨hcz8_0, hcz8_1, hfz8_0, hfz8_1⟩ := cL2 BK105))
  go_ret; exact ⟨rE, bH⟩


/-! ### lift_Subst: function 9 -/
mutual
def lift_Subst.j0 : Nat → ByteArray → Bool → Int → Int → ByteArray → List (S24) → Int → Int → ByteArray → List (S24) → Option (Int × Int × ByteArray × (List (S24)))
 | 0, _, _, _, _, _, _, _, _, _, _ => none
 | k + 1, x1, x18, x108000, x108001, x108002, x108003, x109000, x109001, x109002, x109003 => if x18 = true then (some (x109000, x109001, x109002, x109003)) else (lift_Subst.l0 k x1 x108003 (x108003.length : Int) 0 x109000 x109001 x109002 x109003 x108000 x108001 x108002 ([] : List (S24)))
def lift_Subst.l0 : Nat → ByteArray → List (S24) → Int → Int → Int → Int → ByteArray → List (S24) → Int → Int → ByteArray → List (S24) → Option (Int × Int × ByteArray × (List (S24)))
 | 0, _, _, _, _, _, _, _, _, _, _, _, _ => none
 | k + 1, x1, x23, x24, x25, x109000, x109001, x109002, x109003, x111000, x111001, x111002, x111003 => if x25 < x24 then (if 0 ≤ x25 then (if x25 < (x23.length : Int) then ((lift_Subst.f k ((rd_T24 x23 x25).f0) ((rd_T24 x23 x25).f1) ((rd_T24 x23 x25).f2) ((rd_T24 x23 x25).f3) x1 x109000 x109001 x109002 x109003).bind fun bt113 => (if x111003.length < 2513169434916 then (lift_Subst.l0 k x1 x23 x24 (wrap64 (x25 + 1)) x109000 x109001 x109002 x109003 x111000 x111001 x111002 (x111003 ++ [(⟨bt113.1, bt113.2.1, bt113.2.2.1, bt113.2.2.2⟩ : S24)])) else (none))) else (none)) else (none)) else (some (x111000, x111001, x111002, x111003))
def lift_Subst.f : Nat → Int → Int → ByteArray → List (S24) → ByteArray → Int → Int → ByteArray → List (S24) → Option (Int × Int × ByteArray × (List (S24)))
 | 0, _, _, _, _, _, _, _, _, _ => none
 | k + 1, a0_0, a0_1, a0_2, l0_3, a1, a2_0, a2_1, a2_2, l2_3 => if a0_0 = 2 then (lift_Subst.j0 k a1 (a0_2.toList == a1.toList) a0_0 a0_1 a0_2 l0_3 a2_0 a2_1 a2_2 l2_3) else (lift_Subst.j0 k a1 false a0_0 a0_1 a0_2 l0_3 a2_0 a2_1 a2_2 l2_3)
end
theorem lift_Subst.mono_l : ∀ k, (∀ y0 y1 y2 y3 y4 y5 y6 y7 y8, LeO (lift_Subst.f k y0 y1 y2 y3 y4 y5 y6 y7 y8) (lift_Subst.f (k + 1) y0 y1 y2 y3 y4 y5 y6 y7 y8)) ∧ (∀ y0 y1 y2 y3 y4 y5 y6 y7 y8 y9, LeO (lift_Subst.j0 k y0 y1 y2 y3 y4 y5 y6 y7 y8 y9) (lift_Subst.j0 (k + 1) y0 y1 y2 y3 y4 y5 y6 y7 y8 y9)) ∧ (∀ y0 y1 y2 y3 y4 y5 y6 y7 y8 y9 y10 y11, LeO (lift_Subst.l0 k y0 y1 y2 y3 y4 y5 y6 y7 y8 y9 y10 y11) (lift_Subst.l0 (k + 1) y0 y1 y2 y3 y4 y5 y6 y7 y8 y9 y10 y11))
 | 0 => by refine ⟨?_, ?_, ?_⟩ <;> intros <;> exact fun r h => by simp [lift_Subst.f, lift_Subst.j0, lift_Subst.l0] at h
 | k + 1 => by
  obtain ⟨i0_, i1_, i2_⟩ := lift_Subst.mono_l k; refine ⟨?_, ?_, ?_⟩ <;> intros
  ·unfold lift_Subst.f; exact lO_
  ·unfold lift_Subst.j0; exact lO_
  ·unfold lift_Subst.l0; exact lO_
theorem lift_Subst.mono : ∀ a0 a1 a2 a3 a4 a5 a6 a7 a8 k, LeO (lift_Subst.f k a0 a1 a2 a3 a4 a5 a6 a7 a8) (lift_Subst.f (k + 1) a0 a1 a2 a3 a4 a5 a6 a7 a8) := by
 intro a0 a1 a2 a3 a4 a5 a6 a7 a8 k
 obtain ⟨ih0, ih1, ih2⟩ := lift_Subst.mono_l k
 exact ih0 a0 a1 a2 a3 a4 a5 a6 a7 a8
def lift_Subst.T8 : Bool × List (List Nat × List Nat) := (true, [([], []), ([0], [0]), ([], []), ([], []), ([], []), ([2, 3, 4], [2, 3, 4]), ([5], [5]), ([1, 6, 5], [1, 6]), ([0, 1, 2, 3, 4, 5, 6, 7], []), ([8, 7, 7, 0, 1, 2, 3, 4, 5, 6, 7], [7, 8])])
def lift_Subst.B8 : List Nat := [0, 1, 0, 0, 0, 28, 60, 127, 255, 511]
theorem lift_Subst.tab8 : rtab .any (opsOf Tryz.f9 8) = lift_Subst.T8 := by kernel_rfl
theorem lift_Subst.bits8 : waitsOk lift_Subst.T8.2 lift_Subst.B8 = true := by kernel_rfl
set_option maxHeartbeats 8000000 in
set_option maxRecDepth 100000 in
theorem lift_Subst.calls (k : Nat) : ∀ (a0_0 : Int) (a0_1 : Int) (a0_2 : ByteArray) (A0_3 : Option Addr) (c0_3 : Nat) (l0_3 : List (S24)) (a1 : ByteArray) (a2_0 : Int) (a2_1 : Int) (a2_2 : ByteArray) (P2_3_ : Nat → Prop) (A2_3 : Option Addr) (c2_3 : Nat) (l2_3 : List (S24)) (r1 : Int) (r2 : Int) (r3 : ByteArray) (r4 : List (S24)) (w : World) (hr0_3 : Kd.C k24 w A0_3 l0_3.length l0_3) (hc0_3 : l0_3.length ≤ c0_3) (hs2_3 : Kd.V k24 24 w w.heap.size (fun k_ => P2_3_ k_) (.slice A2_3 l2_3.length c2_3) l2_3) (h : lift_Subst.f k a0_0 a0_1 a0_2 l0_3 a1 a2_0 a2_1 a2_2 l2_3 = some (r1, r2, r3, r4)),
  Calls Tryz.prog 9 #[.agg #[.int .i64 a0_0, .int .i64 a0_1, .string a0_2, .slice A0_3 l0_3.length c0_3], .string a1, .agg #[.int .i64 a2_0, .int .i64 a2_1, .string a2_2, .slice A2_3 l2_3.length c2_3]] w fun e w' => ∃ v3_ : Value, e = .returned (.agg #[.int .i64 r1, .int .i64 r2, .string r3, v3_]) ∧ Kd.V k24 24 w' w.heap.size (fun k_ => (P2_3_ k_ ∨ w.heap.size ≤ k_)) v3_ r4 ∧ Below w.heap.size w w' := by
 induction k using Nat.strongRecOn with
 | _ k ih =>
 intro a0_0 a0_1 a0_2 A0_3 c0_3 l0_3 a1 a2_0 a2_1 a2_2 P2_3_ A2_3 c2_3 l2_3 r1 r2 r3 r4 w hr0_3 hc0_3 hs2_3 h
 cases k with
 | zero => exact absurd h (by simp [lift_Subst.f])
 | succ k =>
 simp only [lift_Subst.f] at h
 have hu24 := Tryz.underlying24
 have bL := mk0 hr0_3
 have cG := mk0 hc0_3
 clear hr0_3 hc0_3
 have aw := mk0 (show Kd.V k24 24 w w.heap.size (fun k_ => (P2_3_ k_ ∨ w.heap.size ≤ k_)) (.slice A2_3 l2_3.length c2_3) l2_3 from Kd.V_mono hs2_3 (fun k_ hk => .inl hk))
 have HB := mk0 (Below.refl w.heap.size w)
 have H : (if a0_0 = 2 then (lift_Subst.j0 k a1 (a0_2.toList == a1.toList) a0_0 a0_1 a0_2 l0_3 a2_0 a2_1 a2_2 l2_3) else (lift_Subst.j0 k a1 false a0_0 a0_1 a0_2 l0_3 a2_0 a2_1 a2_2 l2_3)) = some (r1, r2, r3, r4) := h
 clear h
 have aV := mk0 H
 clear H
 go_enter Tryz.func9, Tryz.ntmps9
 go_upto_region 1 with (first | ((with_reducible refine gate_dst (N := 3) rfl ?_); refine bxE 3 #[.int .i64 a0_0, .int .i64 a0_1, .string a0_2, .slice A0_3 l0_3.length c0_3] 24 ?_; intro ao hg w5 hbox hb; replace aw := vD aw ao hg hb; have af := mk0 (hbox); have cH := gE (uL HB.out) hg; replace HB := hbB (uL HB.out) hb; clear hb hbox hg) | ((with_reducible refine gate_dst (N := 5) rfl ?_); refine bxE 5 #[.int .i64 a2_0, .int .i64 a2_1, .string a2_2, .slice A2_3 l2_3.length c2_3] 24 ?_; intro ak hg w6 hbox hb; replace aw := vD aw ak hg hb; have ac := mk0 (hbox); have cI := gE bH hg; replace HB := hbB bH hb; have aK := nL af hg; have aM := nG af hg; replace af := bB af hb; clear hb hbox hg) | ((with_reducible refine gate_dst (N := 6) rfl ?_); refine bxE 6 #[.int .i64 0, .int .i64 0, .string (⟨#[]⟩ : ByteArray), .slice none 0 0] 24 ?_; intro ah hg w7 hbox hb; replace aw := vD aw ah hg hb; have aj := mk0 (hbox); have cJ := gE bH hg; replace HB := hbB bH hb; have az := nL af hg; have aA := nG af hg; replace af := bB af hb; have bn := nL ac hg; have bo := nG ac hg; replace ac := bB ac hb; clear hb hbox hg))
 (try simp only [AP])
 go_cut [18] (fun v18 wc => ∃ (kq : Nat) (aN : Bool), v18 = .bool aN ∧ Aside0 (lift_Subst.j0 kq a1 aN a0_0 a0_1 a0_2 l0_3 a2_0 a2_1 a2_2 l2_3 = some (r1, r2, r3, r4)) ∧ Aside0 (kq ≤ k) ∧ Aside0 (Kd.V k24 24 wc w.heap.size (fun k_ => (P2_3_ k_ ∨ w.heap.size ≤ k_) ∧ k_ ≠ ao ∧ k_ ≠ ak ∧ k_ ≠ ah) (.slice A2_3 l2_3.length c2_3) l2_3) ∧ Aside0 (wc.heap[ao]? = some (.cells #[.int .i64 a0_0, .int .i64 a0_1, .string a0_2, (.slice A0_3 l0_3.length c0_3)] 24 (0, 0))) ∧ Aside0 (wc.heap[ak]? = some (.cells #[.int .i64 a2_0, .int .i64 a2_1, .string a2_2, (.slice A2_3 l2_3.length c2_3)] 24 (0, 0))) ∧ Aside0 (wc.heap[ah]? = some (.cells #[.int .i64 0, .int .i64 0, .string (⟨#[]⟩ : ByteArray), (.slice none 0 0)] 24 (0, 0))) ∧ Aside0 (Below w.heap.size w wc))
 case first =>
  have H := aV.out; clear aV
  by_cases c8 : a0_0 = 2
  ·rw [if_pos c8] at H
   obtain ⟨aC, bM⟩ := yQ c8; clear c8; (first | rw [aC] | (simp only [i64_w, i32_w]; rw [aC]) | skip); have H' := mk0 H; clear H; have cK := aK.out; have cL := aM.out; have cM := az.out; have cN := aA.out; obtain ⟨cO, cP, cR, cS, cT, cU, cV, cW⟩ := cL4 af; go_wp2
   go_meet
   case rel => exact ⟨_, ((a0_2.toList == a1.toList)), eK, H', ⟨by first | omega | exact Nat.le_refl _⟩, ⟨uV (vP aw)⟩, ⟨uB af.out⟩, ⟨uB ac.out⟩, ⟨uB aj.out⟩, ⟨bH⟩⟩
  ·rw [if_neg c8] at H
   obtain ⟨aC, bM⟩ := nQ c8; (first | rw [aC] | (simp only [i64_w, i32_w]; rw [aC]) | skip); have H' := mk0 H; clear H; have cX := aK.out; have cY := aM.out; have cZ := az.out; have c_ := aA.out; obtain ⟨da, db, dc, dd, de, df, dh, di⟩ := cL4 af; go_wp2
   go_meet
   case rel => exact ⟨_, (false), eK, H', ⟨by first | omega | exact Nat.le_refl _⟩, ⟨uV (vP aw)⟩, ⟨uB af.out⟩, ⟨uB ac.out⟩, ⟨uB aj.out⟩, ⟨bH⟩⟩
 case rest =>
  clear aV; obtain ⟨kq, aN, rfl, HA, aW, al, af, ac, aj, HB⟩ := hcut
  cases kq with
  | zero => exact absurd HA.out (by simp [lift_Subst.j0])
  | succ kj3 =>
   have H := HA.out; clear HA; simp only [lift_Subst.j0] at H
   by_cases aD : aN = true
   ·subst aD
    replace H := iT H; simp only [Option.some.injEq, Prod.mk.injEq] at H; obtain ⟨rfl, rfl, rfl, rfl⟩ := H; have dj := aM.out; have dl := aK.out; have dn := bn.out; have dp := bo.out; obtain ⟨dq, dr, dt, du, dv, dw, dz, dA⟩ := cL4 ac; have dB := aA.out; have dC := az.out; obtain ⟨dD, dE, dF, dG, dH, dI, dJ, dK⟩ := cL4 aj; go_wp2; refine bodyPost_ret (results_cell_row rfl _ _ ah 24 #[.int .i64 a2_0, .int .i64 a2_1, .string a2_2, .slice A2_3 l2_3.length c2_3] (0, 0) _ rfl (kB) Tryz.underlying24 rfl (by kernel_rfl)) rfl ?_; exact ⟨_, rE, uV (Kd.V_mono (Kd.V_far (p := ⟨ah, 3, none⟩) (Kd.V_far (p := ⟨ah, 2, none⟩) (Kd.V_far (p := ⟨ah, 1, none⟩) (Kd.V_far (p := ⟨ah, 0, none⟩) (Kd.V_mono al.out (fun k_ hk => (⟨hk, hk.2.2.2⟩ : _ ∧ k_ ≠ ah))) (fun _ hk => hk.2) (.int .i64 a2_0)) (fun _ hk => hk.2) (.int .i64 a2_1)) (fun _ hk => hk.2) (.string a2_2)) (fun _ hk => hk.2) (.slice A2_3 l2_3.length c2_3)) (fun _ hk => hk.1.1)), bH⟩
   ·replace aD := Bool.eq_false_iff.mpr aD
    subst aD; replace H := iF H; have H' := mk0 H; clear H; have dL := aK.out; have dM := aM.out; have dN := az.out; have dO := aA.out; obtain ⟨bO, bP, bQ, bR, bT, bU, bV, bW⟩ := cL4 af
    go_wp2_with (first | ((with_reducible refine gate_dst (N := 7) rfl ?_); refine bxE 7 #[.int .i64 0, .int .i64 0, .string (⟨#[]⟩ : ByteArray), .slice none 0 0] 24 ?_; intro ai hg dP hbox hb; replace al := vD al ai hg hb; have ae := mk0 (hbox); have dQ := gE bH hg; replace HB := hbB bH hb; have aX := nL af hg; have aY := nG af hg; replace af := bB af hb; have aZ := nL ac hg; have a_ := nG ac hg; replace ac := bB ac hb; have bf := nL aj hg; have bg := nG aj hg; replace aj := bB aj hb; clear hb hbox hg; have dR := aY.out; have dS := aX.out; have dT := a_.out; have dU := aZ.out; have dV := bg.out; have dW := bf.out; obtain ⟨bX, bY, bZ, b4, b5, b6, b7, b8⟩ := cL4 ae; obtain ⟨b9, cd, ce, cf, cg, ch, ci, cj⟩ := cL4 af))
    go_loopg [25] kj3 (fun kq v25 w' => ∃ (aa : Int) (au : List (S24)) (ap : Value), v25 = .int .i64 aa ∧ Aside0 (lift_Subst.l0 kq a1 l0_3 (l0_3.length : Int) aa a2_0 a2_1 a2_2 l2_3 a0_0 a0_1 a0_2 au = some (r1, r2, r3, r4)) ∧ Aside0 (kq ≤ kj3) ∧ Aside0 (Kd.V k24 24 w' w.heap.size (fun k_ => (P2_3_ k_ ∨ w.heap.size ≤ k_) ∧ some k_ ≠ (ap : Value).ownBlock ∧ k_ ≠ ao ∧ k_ ≠ ak ∧ k_ ≠ ah ∧ k_ ≠ ai) (.slice A2_3 l2_3.length c2_3) l2_3) ∧ Aside0 (Kd.N k24 24 w' w.heap.size (fun k_ => (P2_3_ k_ ∨ w.heap.size ≤ k_) ∧ k_ ≠ ao ∧ k_ ≠ ak ∧ k_ ≠ ah ∧ k_ ≠ ai) ap au) ∧ Aside0 (w'.heap[ao]? = some (.cells #[.int .i64 a0_0, .int .i64 a0_1, .string a0_2, (.slice A0_3 l0_3.length c0_3)] 24 (0, 0))) ∧ Aside0 (w'.heap[ak]? = some (.cells #[.int .i64 a2_0, .int .i64 a2_1, .string a2_2, (.slice A2_3 l2_3.length c2_3)] 24 (0, 0))) ∧ Aside0 (w'.heap[ah]? = some (.cells #[.int .i64 0, .int .i64 0, .string (⟨#[]⟩ : ByteArray), (.slice none 0 0)] 24 (0, 0))) ∧ Aside0 (w'.heap[ai]? = some (.cells #[.int .i64 a0_0, .int .i64 a0_1, .string a0_2, ap] 24 (0, 0))) ∧ Aside0 (Below w.heap.size w w'))
    case atStart => exact ⟨(0), (([] : List (S24))), (.slice none 0 0), eK, H', ⟨Nat.le_refl _⟩, ⟨uV (Kd.V_mono (Kd.V_far (p := ⟨ai, 3, none⟩) (Kd.V_far (p := ⟨ai, 3, none⟩) (Kd.V_far (p := ⟨ai, 2, none⟩) (Kd.V_far (p := ⟨ai, 1, none⟩) (Kd.V_far (p := ⟨ai, 0, none⟩) (Kd.V_mono al.out (fun k_ hk => (⟨hk, hk.2⟩ : _ ∧ k_ ≠ ai))) (fun _ hk => hk.2) (.int .i64 a0_0)) (fun _ hk => hk.2) (.int .i64 a0_1)) (fun _ hk => hk.2) (.string a0_2)) (fun _ hk => hk.2) (.slice A0_3 l0_3.length c0_3)) (fun _ hk => hk.2) (.slice none 0 0)) (fun _ hk => ⟨hk.1.1.1, ⟨(by simp [Value.ownBlock]), ⟨hk.1.1.2.1, ⟨hk.1.1.2.2.1, ⟨hk.1.1.2.2.2, hk.1.2⟩⟩⟩⟩⟩))⟩, ⟨nK⟩, ⟨kB⟩, ⟨kB⟩, ⟨kB⟩, ⟨kB⟩, ⟨bH⟩⟩
    case round =>
     clear H'; (try clear aD bO bP bQ bR bX bY bZ b4 b9 cd ce cf bT bU bV bW b5 b6 b7 b8 cg ch ci cj); obtain ⟨aa, au, ap, rfl, HA, bh, al, am, af, ac, aj, ae, HB⟩ := hrel
     cases gk with
     | zero => exact absurd HA.out (by simp [lift_Subst.l0])
     | succ k2 =>
      have H := HA.out; clear HA; simp only [lift_Subst.l0] at H
      by_cases ax : aa < (l0_3.length : Int)
      ·rw [if_pos ax] at H
       have ck := decide_eq_true ax; clear ax
       by_cases aQ : 0 ≤ aa
       ·rw [if_pos aQ] at H
        have dX := decide_eq_true aQ; clear aQ
        by_cases aT : aa < (l0_3.length : Int)
        ·rw [if_pos aT] at H
         have dZ := decide_eq_true aT; clear aT; replace H := Option.bind_eq_some_iff.mp H; obtain ⟨⟨aE, aG, aH, aI⟩, bp, H⟩ := H; dsimp only at H; have cl := mk0 bp; clear bp
         by_cases aU : au.length < 2513169434916
         ·rw [if_pos aU] at H
          have cm := mk0 aU; clear aU; obtain ⟨aJ, bi⟩ : ∃ y_ : List (S24), y_ = (au ++ [(⟨aE, aG, aH, aI⟩ : S24)]) := ⟨_, rfl⟩; (replace H : (lift_Subst.l0 k2 a1 l0_3 (l0_3.length : Int) (wrap64 (aa + 1)) a2_0 a2_1 a2_2 l2_3 a0_0 a0_1 a0_2 aJ) = some (r1, r2, r3, r4) := by (try rw [bi]); first | with_reducible exact H | with_reducible exact oN H | exact H); have cn := mk0 bi; clear bi; have H' := mk0 H; clear H; have bj : 0 ≤ (aa : Int) := dY; have bk : aa < (l0_3.length : Int) := dY; obtain ⟨bq, aq, ar, cp, br, bs, bu, bv, bw, bz⟩ := at_T24 bL.out aa bj bk
          cases cp
          replace br := oC HB br; replace bs := oC HB bs; replace bu := oC HB bu; replace bv := oC HB bv; have cq := mk0 bz; have cr := mk0 bw; clear bz bw; replace bj := eq_true bj; replace bk := eq_true bk; (try go_wp2_with (first | ((with_reducible refine gate_dst (N := 9) rfl ?_); refine bxE 9 #[.int .i64 0, .int .i64 0, .string (⟨#[]⟩ : ByteArray), .slice none 0 0] 24 ?_; intro ab hg av hbox hb; replace al := vD al ab hg hb; replace am := nD am ab hg hb; have ag := mk0 (hbox); have d6 := gE bH hg; replace HB := hbB bH hb; have ct := nL af hg; have cu := nG af hg; replace af := bB af hb; have cv := nL ac hg; have cw := nG ac hg; replace ac := bB ac hb; have cx := nL aj hg; have cy := nG aj hg; replace aj := bB aj hb; have bC := nL ae hg; have bE := nG ae hg; replace ae := bB ae hb; clear hb hbox hg; have d7 := cu.out; have d8 := ct.out; have d9 := cw.out; have d_ := cv.out; have ea := cy.out; have eb := cx.out; have ec := bE.out; have ed := bC.out; obtain ⟨ee, ef, eh, ei, ej, em, eo, ep⟩ := cL4 ag))); have n0_ : Aside0 (Kd.V k24 24 ((((av.setCell ⟨ab, 0, none⟩ (.int .i64 ((rd_T24 l0_3 aa).f0))).setCell ⟨ab, 1, none⟩ (.int .i64 ((rd_T24 l0_3 aa).f1))).setCell ⟨ab, 2, none⟩ (.string ((rd_T24 l0_3 aa).f2))).setCell ⟨ab, 3, none⟩ (.slice aq ((rd_T24 l0_3 aa).f3).length ar)) w.heap.size (fun k_ => (P2_3_ k_ ∨ w.heap.size ≤ k_) ∧ some k_ ≠ (ap : Value).ownBlock ∧ k_ ≠ ao ∧ k_ ≠ ak ∧ k_ ≠ ah ∧ k_ ≠ ai ∧ k_ ≠ ab) (.slice A2_3 l2_3.length c2_3) l2_3) := ⟨uV (Kd.V_mono (Kd.V_far (p := ⟨ab, 3, none⟩) (Kd.V_far (p := ⟨ab, 2, none⟩) (Kd.V_far (p := ⟨ab, 1, none⟩) (Kd.V_far (p := ⟨ab, 0, none⟩) (Kd.V_mono al.out (fun k_ hk => (⟨hk, hk.2⟩ : _ ∧ k_ ≠ ab))) (fun _ hk => hk.2) (.int .i64 ((rd_T24 l0_3 aa).f0))) (fun _ hk => hk.2) (.int .i64 ((rd_T24 l0_3 aa).f1))) (fun _ hk => hk.2) (.string ((rd_T24 l0_3 aa).f2))) (fun _ hk => hk.2) (.slice aq ((rd_T24 l0_3 aa).f3).length ar)) (fun _ hk => ⟨hk.1.1.1, ⟨hk.1.1.2.1, ⟨hk.1.1.2.2.1, ⟨hk.1.1.2.2.2.1, ⟨hk.1.1.2.2.2.2.1, ⟨hk.1.1.2.2.2.2.2, hk.1.2⟩⟩⟩⟩⟩⟩))⟩; have n1_ : Aside0 (Kd.N k24 24 ((((av.setCell ⟨ab, 0, none⟩ (.int .i64 ((rd_T24 l0_3 aa).f0))).setCell ⟨ab, 1, none⟩ (.int .i64 ((rd_T24 l0_3 aa).f1))).setCell ⟨ab, 2, none⟩ (.string ((rd_T24 l0_3 aa).f2))).setCell ⟨ab, 3, none⟩ (.slice aq ((rd_T24 l0_3 aa).f3).length ar)) w.heap.size (fun k_ => (P2_3_ k_ ∨ w.heap.size ≤ k_) ∧ k_ ≠ ao ∧ k_ ≠ ak ∧ k_ ≠ ah ∧ k_ ≠ ai ∧ k_ ≠ ab) ap au) := ⟨uN (Kd.N_mono (Kd.N_far (p := ⟨ab, 3, none⟩) (Kd.N_far (p := ⟨ab, 2, none⟩) (Kd.N_far (p := ⟨ab, 1, none⟩) (Kd.N_far (p := ⟨ab, 0, none⟩) (Kd.N_mono am.out (fun k_ hk => (⟨hk, hk.2⟩ : _ ∧ k_ ≠ ab))) (fun _ hk => hk.2) (.int .i64 ((rd_T24 l0_3 aa).f0))) (fun _ hk => hk.2) (.int .i64 ((rd_T24 l0_3 aa).f1))) (fun _ hk => hk.2) (.string ((rd_T24 l0_3 aa).f2))) (fun _ hk => hk.2) (.slice aq ((rd_T24 l0_3 aa).f3).length ar)) (fun _ hk => ⟨hk.1.1.1, ⟨hk.1.1.2.1, ⟨hk.1.1.2.2.1, ⟨hk.1.1.2.2.2.1, ⟨hk.1.1.2.2.2.2, hk.1.2⟩⟩⟩⟩⟩))⟩; have n2_ : Aside0 (((((av.setCell ⟨ab, 0, none⟩ (.int .i64 ((rd_T24 l0_3 aa).f0))).setCell ⟨ab, 1, none⟩ (.int .i64 ((rd_T24 l0_3 aa).f1))).setCell ⟨ab, 2, none⟩ (.string ((rd_T24 l0_3 aa).f2))).setCell ⟨ab, 3, none⟩ (.slice aq ((rd_T24 l0_3 aa).f3).length ar)).heap[ao]? = some (.cells #[.int .i64 a0_0, .int .i64 a0_1, .string a0_2, .slice (some bq) l0_3.length c0_3] 24 (0, 0))) := ⟨kB⟩; have n3_ : Aside0 (((((av.setCell ⟨ab, 0, none⟩ (.int .i64 ((rd_T24 l0_3 aa).f0))).setCell ⟨ab, 1, none⟩ (.int .i64 ((rd_T24 l0_3 aa).f1))).setCell ⟨ab, 2, none⟩ (.string ((rd_T24 l0_3 aa).f2))).setCell ⟨ab, 3, none⟩ (.slice aq ((rd_T24 l0_3 aa).f3).length ar)).heap[ak]? = some (.cells #[.int .i64 a2_0, .int .i64 a2_1, .string a2_2, .slice A2_3 l2_3.length c2_3] 24 (0, 0))) := ⟨kB⟩
          have n4_ : Aside0 (((((av.setCell ⟨ab, 0, none⟩ (.int .i64 ((rd_T24 l0_3 aa).f0))).setCell ⟨ab, 1, none⟩ (.int .i64 ((rd_T24 l0_3 aa).f1))).setCell ⟨ab, 2, none⟩ (.string ((rd_T24 l0_3 aa).f2))).setCell ⟨ab, 3, none⟩ (.slice aq ((rd_T24 l0_3 aa).f3).length ar)).heap[ah]? = some (.cells #[.int .i64 0, .int .i64 0, .string (⟨#[]⟩ : ByteArray), .slice none 0 0] 24 (0, 0))) := ⟨kB⟩; have n5_ : Aside0 (((((av.setCell ⟨ab, 0, none⟩ (.int .i64 ((rd_T24 l0_3 aa).f0))).setCell ⟨ab, 1, none⟩ (.int .i64 ((rd_T24 l0_3 aa).f1))).setCell ⟨ab, 2, none⟩ (.string ((rd_T24 l0_3 aa).f2))).setCell ⟨ab, 3, none⟩ (.slice aq ((rd_T24 l0_3 aa).f3).length ar)).heap[ai]? = some (.cells #[.int .i64 a0_0, .int .i64 a0_1, .string a0_2, ap] 24 (0, 0))) := ⟨kB⟩; have n6_ : Aside0 (((((av.setCell ⟨ab, 0, none⟩ (.int .i64 ((rd_T24 l0_3 aa).f0))).setCell ⟨ab, 1, none⟩ (.int .i64 ((rd_T24 l0_3 aa).f1))).setCell ⟨ab, 2, none⟩ (.string ((rd_T24 l0_3 aa).f2))).setCell ⟨ab, 3, none⟩ (.slice aq ((rd_T24 l0_3 aa).f3).length ar)).heap[ab]? = some (.cells #[.int .i64 ((rd_T24 l0_3 aa).f0), .int .i64 ((rd_T24 l0_3 aa).f1), .string ((rd_T24 l0_3 aa).f2), .slice aq ((rd_T24 l0_3 aa).f3).length ar] 24 (0, 0))) := ⟨kB⟩; have n7_ : Aside0 (Below w.heap.size w ((((av.setCell ⟨ab, 0, none⟩ (.int .i64 ((rd_T24 l0_3 aa).f0))).setCell ⟨ab, 1, none⟩ (.int .i64 ((rd_T24 l0_3 aa).f1))).setCell ⟨ab, 2, none⟩ (.string ((rd_T24 l0_3 aa).f2))).setCell ⟨ab, 3, none⟩ (.slice aq ((rd_T24 l0_3 aa).f3).length ar))) := ⟨bH⟩; (try clear al am af ac aj ae ag HB); generalize ((((av.setCell ⟨ab, 0, none⟩ (.int .i64 ((rd_T24 l0_3 aa).f0))).setCell ⟨ab, 1, none⟩ (.int .i64 ((rd_T24 l0_3 aa).f1))).setCell ⟨ab, 2, none⟩ (.string ((rd_T24 l0_3 aa).f2))).setCell ⟨ab, 3, none⟩ (.slice aq ((rd_T24 l0_3 aa).f3).length ar)) = cz at n0_ n1_ n2_ n3_ n4_ n5_ n6_ n7_ ⊢; have al := n0_; have am := n1_; have af := n2_; have ac := n3_; have aj := n4_; have ae := n5_; have ag := n6_; have HB := n7_; clear n0_ n1_ n2_ n3_ n4_ n5_ n6_ n7_; replace al := mk0 (Kd.V_drew al.out); replace am := mk0 (Kd.N_drew am.out); replace af := mk0 (blk_drew af.out); replace ac := mk0 (blk_drew ac.out); replace aj := mk0 (blk_drew aj.out); replace ae := mk0 (blk_drew ae.out); replace ag := mk0 (blk_drew ag.out); replace HB := mk0 (below_drew1 HB.out); refine start_ (n := 10) (S := fun w' => w'.cell? ⟨ai, 0, none⟩ = some (.int .i64 a0_0) ∧ w'.cell? ⟨ai, 1, none⟩ = some (.int .i64 a0_1) ∧ w'.cell? ⟨ai, 2, none⟩ = some (.string a0_2) ∧ w'.cell? ⟨ai, 3, none⟩ = some (ap) ∧ w'.cell? ⟨ab, 0, none⟩ = some (.int .i64 ((rd_T24 l0_3 aa).f0)) ∧ w'.cell? ⟨ab, 1, none⟩ = some (.int .i64 ((rd_T24 l0_3 aa).f1)) ∧ w'.cell? ⟨ab, 2, none⟩ = some (.string ((rd_T24 l0_3 aa).f2)) ∧ w'.cell? ⟨ab, 3, none⟩ = some (.slice aq ((rd_T24 l0_3 aa).f3).length ar) ∧ w'.cell? ⟨ak, 0, none⟩ = some (.int .i64 a2_0) ∧ w'.cell? ⟨ak, 1, none⟩ = some (.int .i64 a2_1) ∧ w'.cell? ⟨ak, 2, none⟩ = some (.string a2_2) ∧ w'.cell? ⟨ak, 3, none⟩ = some (.slice A2_3 l2_3.length c2_3)) (ds := [9]) (bts 10 0) (by kernel_rfl) rfl rfl ⟨(blk_cell ae.out 0).trans rfl, (blk_cell ae.out 1).trans rfl, (blk_cell ae.out 2).trans rfl, (blk_cell ae.out 3).trans rfl, (blk_cell ag.out 0).trans rfl, (blk_cell ag.out 1).trans rfl, (blk_cell ag.out 2).trans rfl, (blk_cell ag.out 3).trans rfl, (blk_cell ac.out 0).trans rfl, (blk_cell ac.out 1).trans rfl, (blk_cell ac.out 2).trans rfl, (blk_cell ac.out 3).trans rfl⟩ (fun hHeld => ?_); refine with_tabW lift_Subst.tab8 lift_Subst.bits8 (fun HT_ HW_ => ?_)
          generalize cz.drew = eu at al am af ac aj ae ag HB hHeld ⊢; refine qA 0 1 ?_; refine qA 3 9 ?_; refine take_ (i := 1) (N := some 30) (v := ?_) (a' := ?_) (bts 10 11) rfl rfl (take_ofW HT_.out HW_.out (by kernel_rfl)) (fun _ _ _ h => h) (Or.inl ⟨by rfl, ?_⟩) hHeld ?_ ?_; rotate_left
          ·rintro w' ⟨s0, s1, s2, s3, s4, s5, s6, s7, s8, s9, s10, s11⟩
           go_simp; (with_reducible rfl)
          rotate_left
          ·simp only [AP, i64_w, i32_w]
           rfl
          refine take_ (i := 2) (N := some 31) (v := ?_) (a' := ?_) (bts 10 15) rfl rfl (take_ofW HT_.out HW_.out (by kernel_rfl)) (fun _ _ _ h => h) (Or.inl ⟨by rfl, ?_⟩) hHeld ?_ ?_; rotate_left
          ·rintro w' ⟨s0, s1, s2, s3, s4, s5, s6, s7, s8, s9, s10, s11⟩
           go_simp; (with_reducible rfl)
          rotate_left
          ·simp only [AP, i64_w, i32_w]
           rfl
          refine take_ (i := 4) (N := some 33) (v := ?_) (a' := ?_) (bts 10 31) rfl rfl (take_ofW HT_.out HW_.out (by kernel_rfl)) (fun _ _ _ h => h) (Or.inl ⟨by rfl, ?_⟩) hHeld ?_ ?_; rotate_left
          ·rintro w' ⟨s0, s1, s2, s3, s4, s5, s6, s7, s8, s9, s10, s11⟩
           go_simp; (with_reducible rfl)
          rotate_left
          ·simp only [AP, i64_w, i32_w]
           rfl
          refine one_ (i := 5) (N := some 34) (bts 10 63) rfl rfl (one_of HT_.out (by kernel_rfl)) (by decide) (fun K hK => ?_); refine goes_ Tryz.func9 (by kernel_rfl) rfl #[.agg #[.int .i64 ((rd_T24 l0_3 aa).f0), .int .i64 ((rd_T24 l0_3 aa).f1), .string ((rd_T24 l0_3 aa).f2), .slice aq ((rd_T24 l0_3 aa).f3).length ar], .string a1, .agg #[.int .i64 a2_0, .int .i64 a2_1, .string a2_2, .slice A2_3 l2_3.length c2_3]] (by rfl) rfl rfl (by (try simp only [List.map_toArray, List.map_cons, List.map_nil]); first | done | rfl | (simp only [List.length_drop, List.length_take]; rfl)) ?_; (with_reducible refine (ih k2 (by have := aW.out; have := bh.out; omega) ((rd_T24 l0_3 aa).f0) ((rd_T24 l0_3 aa).f1) ((rd_T24 l0_3 aa).f2) _ _ ((rd_T24 l0_3 aa).f3) a1 a2_0 a2_1 a2_2 (fun k_ => ((P2_3_ k_ ∨ w.heap.size ≤ k_) ∧ (some k_ ≠ (ap : Value).ownBlock ∧ (k_ ≠ ao ∧ (k_ ≠ ak ∧ (k_ ≠ ah ∧ (k_ ≠ ai ∧ k_ ≠ ab))))))) _ _ l2_3 aE aG aH aI _ ?side1 ?side2 ?side3 cl.out).mono ?_); (case side1 => exact uC (Kd.C_below cq.out HB.out)); (case side2 => exact cr.out); (case side3 => exact al.out); rintro e ew ⟨ez, rfl, ho0, hb⟩; refine ⟨_, rfl, ?_⟩; replace al := vB al hb; have ay := mk0 (Kd.V_lower (Kd.V_mono (ok' := fun k_ => (P2_3_ k_ ∨ w.heap.size ≤ k_) ∧ some k_ ≠ (ap : Value).ownBlock ∧ k_ ≠ ao ∧ k_ ≠ ak ∧ k_ ≠ ah ∧ k_ ≠ ai ∧ k_ ≠ ab) ho0 (fun k_ hk_ => ⟨Or.elim hk_ (fun hs_ => hs_.1) (fun hn_ => (.inr (Nat.le_trans (below_size bH) hn_))), Or.elim hk_ (fun hs_ => hs_.2.1) (fun hn_ => (Kd.fresh' (Kd.N_lt (uN am.out)) k_ hn_)), Or.elim hk_ (fun hs_ => hs_.2.2.1) (fun hn_ => (Kd.freshB (g := ao) (o := .cells #[.int .i64 a0_0, .int .i64 a0_1, .string a0_2, .slice (some bq) l0_3.length c0_3] 24 (0, 0)) (uB af.out) k_ hn_)), Or.elim hk_ (fun hs_ => hs_.2.2.2.1) (fun hn_ => (Kd.freshB (g := ak) (o := .cells #[.int .i64 a2_0, .int .i64 a2_1, .string a2_2, .slice A2_3 l2_3.length c2_3] 24 (0, 0)) (uB ac.out) k_ hn_)), Or.elim hk_ (fun hs_ => hs_.2.2.2.2.1) (fun hn_ => (Kd.freshB (g := ah) (o := .cells #[.int .i64 0, .int .i64 0, .string (⟨#[]⟩ : ByteArray), .slice none 0 0] 24 (0, 0)) (uB aj.out) k_ hn_)), Or.elim hk_ (fun hs_ => hs_.2.2.2.2.2.1) (fun hn_ => (Kd.freshB (g := ai) (o := .cells #[.int .i64 a0_0, .int .i64 a0_1, .string a0_2, ap] 24 (0, 0)) (uB ae.out) k_ hn_)), Or.elim hk_ (fun hs_ => hs_.2.2.2.2.2.2) (fun hn_ => (Kd.freshB (g := ab) (o := .cells #[.int .i64 ((rd_T24 l0_3 aa).f0), .int .i64 ((rd_T24 l0_3 aa).f1), .string ((rd_T24 l0_3 aa).f2), .slice aq ((rd_T24 l0_3 aa).f3).length ar] 24 (0, 0)) (uB ag.out) k_ hn_))⟩)) (below_size bH)); replace am := nB am hb; replace af := bB af hb; replace ac := bB ac hb; replace aj := bB aj hb; replace ae := bB ae hb; replace ag := bB ag hb; replace HB := hbB bH hb; (try clear hb hk ho0); obtain ⟨cA, cD, bF⟩ := Kd.V_slice ay.out; (first | subst bF | (injection bF with f1_ f2_ f3_; have f4_ := f1_.symm; have f5_ := f3_.symm; clear f1_ f2_ f3_; subst f4_; subst f5_)); refine hK.out _ _ ⟨(blk_cell ae.out 0).trans rfl, (blk_cell ae.out 1).trans rfl, (blk_cell ae.out 2).trans rfl, (blk_cell ae.out 3).trans rfl, (blk_cell ag.out 0).trans rfl, (blk_cell ag.out 1).trans rfl, (blk_cell ag.out 2).trans rfl, (blk_cell ag.out 3).trans rfl, (blk_cell ac.out 0).trans rfl, (blk_cell ac.out 1).trans rfl, (blk_cell ac.out 2).trans rfl, (blk_cell ac.out 3).trans rfl⟩ (fun hHeld => ?_); clear hK K; refine norm_ (a' := ?_) ?_ ?_; rotate_left
          ·show Act.put _ (some 34) _ = _
           simp only [AP, i64_w, i32_w]; rfl
          refine one_ (i := 6) (N := some 35) (bts 10 127) rfl rfl (one_of HT_.out (by kernel_rfl)) (by decide) (fun K hK => ?_); refine value_ (w1 := ?_) (v := ?_) (by rfl) rfl ?_ ?_; rotate_left 2
          ·go_simp
           constructor
           ·rfl
           ·rfl
          refine hK.out _ _ ⟨(blk_cell (blk_alloc ae.out _) 0).trans rfl, (blk_cell (blk_alloc ae.out _) 1).trans rfl, (blk_cell (blk_alloc ae.out _) 2).trans rfl, (blk_cell (blk_alloc ae.out _) 3).trans rfl, (blk_cell (blk_alloc ag.out _) 0).trans rfl, (blk_cell (blk_alloc ag.out _) 1).trans rfl, (blk_cell (blk_alloc ag.out _) 2).trans rfl, (blk_cell (blk_alloc ag.out _) 3).trans rfl, (blk_cell (blk_alloc ac.out _) 0).trans rfl, (blk_cell (blk_alloc ac.out _) 1).trans rfl, (blk_cell (blk_alloc ac.out _) 2).trans rfl, (blk_cell (blk_alloc ac.out _) 3).trans rfl⟩ (fun hHeld => ?_); clear hK K; refine norm_ (a' := ?_) ?_ ?_; rotate_left
          ·show Act.put _ (some 35) _ = _
           simp only [AP, i64_w, i32_w]; rfl
          refine one_ (i := 7) (N := some 36) (bts 10 255) rfl rfl (one_of HT_.out (by kernel_rfl)) (by decide) (fun K hK => ?_); refine Kd.N_append_step k24 (w0 := w) w.heap.size (by rfl) (.tmp 30) (.tmp 35) 22 24 (.agg #[(.int .i64 0), (.int .i64 0), (.string ⟨#[]⟩), (.slice none 0 0)]) 56 rfl Tryz.underlying22 info24 rfl (by decide) (by omega) ap au (⟨aE, aG, aH, aI⟩ : S24) [.int .i64 aE, .int .i64 aG, .string aH, .slice cA aI.length cD] (fun k_ => (P2_3_ k_ ∨ w.heap.size ≤ k_) ∧ k_ ≠ ao ∧ k_ ≠ ak ∧ k_ ≠ ah ∧ k_ ≠ ai ∧ k_ ≠ ab) (fun k_ => ((fun k_ => (P2_3_ k_ ∨ w.heap.size ≤ k_) ∧ k_ ≠ ao ∧ k_ ≠ ak ∧ k_ ≠ ah ∧ k_ ≠ ai ∧ k_ ≠ ab)) k_ ∧ some k_ ≠ (ap : Value).ownBlock) rfl rfl ?aP (fun _ hk => hk) ?aF ?aO ?aB ?aS ?aL ?_; (case aP => exact (k24_mkF _ _ (⟨aE, aG, aH, aI⟩ : S24) (Kd.V_reads' (vP (ok' := (fun k_ => ((fun k_ => (P2_3_ k_ ∨ w.heap.size ≤ k_) ∧ k_ ≠ ao ∧ k_ ≠ ak ∧ k_ ≠ ah ∧ k_ ≠ ai ∧ k_ ≠ ab)) k_ ∧ some k_ ≠ (ap : Value).ownBlock)) ay)).2.1 (Kd.V_F (vP (ok' := (fun k_ => ((fun k_ => (P2_3_ k_ ∨ w.heap.size ≤ k_) ∧ k_ ≠ ao ∧ k_ ≠ ak ∧ k_ ≠ ah ∧ k_ ≠ ai ∧ k_ ≠ ab)) k_ ∧ some k_ ≠ (ap : Value).ownBlock)) ay)))); (case aB => exact bH); (case aF => exact (fun k_ hk => ⟨(.inr (Nat.le_trans (below_size bH) hk)), fB af hk, fB ac hk, fB aj hk, fB ae hk, fB ag hk⟩)); (case aO => exact (uN am.out)); (case aS => exact (below_size bH)); (case aL => have := cm.out; omega); intro eA cE ho hb hg hat; rw [← cn.out] at ho; have n0_ := vA al hg hat; have n1_ := (gB af hg (Kd.N_away am.out (fun _ hk => hk.2.1))); have n2_ := (gB ac hg (Kd.N_away am.out (fun _ hk => hk.2.2.1))); have n3_ := (gB aj hg (Kd.N_away am.out (fun _ hk => hk.2.2.2.1))); have n4_ := (gB ae hg (Kd.N_away am.out (fun _ hk => hk.2.2.2.2.1))); have n5_ := (gB ag hg (Kd.N_away am.out (fun _ hk => hk.2.2.2.2.2))); have n6_ := vA ay hg hat; have n7_ := mk0 (hb); have n8_ := mk0 (ho); clear al af ac aj ae ag ay HB am; have al := n0_; have af := n1_; have ac := n2_; have aj := n3_; have ae := n4_; have ag := n5_; have ay := n6_; have HB := n7_; have bG := n8_; clear n0_ n1_ n2_ n3_ n4_ n5_ n6_ n7_ n8_; clear ho hb hg hat; obtain ⟨bl, bm, bI⟩ := Kd.N_slice bG.out; (first | subst bI | (injection bI with f1_ f2_ f3_; have f4_ := f1_.symm; have f5_ := f3_.symm; clear f1_ f2_ f3_; subst f4_; subst f5_)); refine hK.out _ _ ⟨(blk_cell ae.out 0).trans rfl, (blk_cell ae.out 1).trans rfl, (blk_cell ae.out 2).trans rfl, (blk_cell ae.out 3).trans rfl, (blk_cell ag.out 0).trans rfl, (blk_cell ag.out 1).trans rfl, (blk_cell ag.out 2).trans rfl, (blk_cell ag.out 3).trans rfl, (blk_cell ac.out 0).trans rfl, (blk_cell ac.out 1).trans rfl, (blk_cell ac.out 2).trans rfl, (blk_cell ac.out 3).trans rfl⟩ (fun hHeld => ?_); clear hK K; refine norm_ (a' := ?_) ?_ ?_; rotate_left
          ·show Act.put _ (some 36) _ = _
           simp only [AP, i64_w, i32_w]; rfl
          refine qA 8 511 ?_; refine last_ (i := 9) (N := none) (bts 10 1023) rfl rfl (one_of HT_.out (by kernel_rfl)) (by decide) (fun K hK => ?_); have hs47 : cE.cell? ⟨ai, 3, none⟩ = some (ap) := (blk_cell ae.out 3).trans rfl; have hfs47 := blk_frozen ae.out 3; have eB := aX.out; have eC := aZ.out; have eD := bf.out; have eE := bE.out; have eF := aY.out; have eG := a_.out; have eH := bg.out; have eI := bC.out; refine skip_ (w1 := ?_) (by rfl) rfl ?_ ?_; rotate_left
          ·go_simp
           rfl
          refine hK.out _ _ ?_; clear hK K; refine done_ (done_of HT_.out (by kernel_rfl)) ?_; (try go_wp2)
          go_roundg k2
          case measure => have := aW.out; have := bh.out; omega
          case rel => exact ⟨(wrap64 (aa + 1)), (aJ), (.slice bl aJ.length bm), eK, H', ⟨by have := aW.out; have := bh.out; omega⟩, ⟨uV (vF ⟨ai, 3, none⟩ (.slice bl aJ.length bm) al)⟩, ⟨uN (nF ⟨ai, 3, none⟩ (.slice bl aJ.length bm) bG)⟩, ⟨kB⟩, ⟨kB⟩, ⟨kB⟩, ⟨kB⟩, ⟨bH⟩⟩
         ·exact nO H aU
        ·exact nO H aT
       ·exact nO H aQ
      ·rw [if_neg ax] at H
       have ck := decide_eq_false ax; clear ax; simp only [Option.some.injEq, Prod.mk.injEq] at H; obtain ⟨rfl, rfl, rfl, rfl⟩ := H; have eJ := aY.out; have eL := aX.out; have eM := a_.out; have eN := aZ.out; have eO := bg.out; have eP := bf.out; obtain ⟨eQ, eR, eS, eT, eU, eV, eW, eX⟩ := cL4 ae; have eY := aA.out; have eZ := az.out; have e6 := bo.out; have e7 := bn.out; obtain ⟨e8, e9, fa, fb, fc, fd, fe, ff⟩ := cL4 aj; obtain ⟨bJ, bK, cF⟩ := Kd.N_slice am.out; subst cF; go_wp2; refine bodyPost_ret (results_cell_row rfl _ _ ah 24 #[.int .i64 a0_0, .int .i64 a0_1, .string a0_2, .slice bJ au.length bK] (0, 0) _ rfl (kB) Tryz.underlying24 rfl (by kernel_rfl)) rfl ?_; exact ⟨_, rE, Kd.N_V (uN (Kd.N_mono (Kd.N_far (p := ⟨ah, 3, none⟩) (Kd.N_far (p := ⟨ah, 2, none⟩) (Kd.N_far (p := ⟨ah, 1, none⟩) (Kd.N_far (p := ⟨ah, 0, none⟩) (Kd.N_mono am.out (fun k_ hk => (⟨hk, hk.2.2.2.1⟩ : _ ∧ k_ ≠ ah))) (fun _ hk => hk.2) (.int .i64 a0_0)) (fun _ hk => hk.2) (.int .i64 a0_1)) (fun _ hk => hk.2) (.string a0_2)) (fun _ hk => hk.2) (.slice bJ au.length bK)) (fun _ hk => hk.1.1))), bH⟩

end Go.Proofs.YtnkckdbjeemjeaaGreatDoor.X
