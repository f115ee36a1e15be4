-- PRINTED by print.py (a twelfth state) out of the translation. Not trusted: Lean checks it.
import Derived.Test.YtnkckdbjeemjeaaGreatDoorXx0
namespace Go.Proofs.YtnkckdbjeemjeaaGreatDoor.X
open Go.Proofs.YtnkckdbjeemjeaaGreatDoor.Flt Go.Proofs.YtnkckdbjeemjeaaGreatDoor.H Go.RowKit Go.Proofs.YtnkckdbjeemjeaaGreatDoorW.PrintWords Go.Proofs.YtnkckdbjeemjeaaGreatDoorW.PrintLast Go.Proofs.YtnkckdbjeemjeaaGreatDoorW.PrintMore
attribute [local go_sem] max2_int min2_int max_two min_two max_three min_three max_four min_four   -- for this text's walks alone
set_option linter.unusedVariables false
set_option linter.unusedSimpArgs false

/-! ### num_Add: function 84 -/
def num_Add.f (a0 : Int) (a1 : Int) : Option (Int × Bool) := if ((decide (a0 < 0)) == (decide (a1 < 0))) = true then (if ((decide ((wrap64 (a0 + a1)) < 0)) != (decide (a0 < 0))) = true then (some (0, false)) else (some (wrap64 (a0 + a1), true))) else (some (wrap64 (a0 + a1), true))
set_option maxHeartbeats 8000000 in
set_option maxRecDepth 100000 in
theorem num_Add.calls (a0 : Int) (a1 : Int) (r1 : Int) (r2 : Bool) (w : World) (h : num_Add.f a0 a1 = some (r1, r2)) :
  Calls Tryz.prog 84 #[.int .i64 a0, .int .i64 a1] w fun e w' => e = .returned (.tuple #[.int .i64 r1, .bool r2]) ∧ Drawn0 w w' := by
 have H : (if ((decide (a0 < 0)) == (decide (a1 < 0))) = true then (if ((decide ((wrap64 (a0 + a1)) < 0)) != (decide (a0 < 0))) = true then (some (0, false)) else (some (wrap64 (a0 + a1), true))) else (some (wrap64 (a0 + a1), true))) = some (r1, r2) := h
 clear h
 by_cases c3 : ((decide (a0 < 0)) == (decide (a1 < 0))) = true
 ·rw [if_pos c3] at H
  have c3b0 : ((decide (a0 < 0)) == (decide (a1 < 0))) = true := c3; (try (have c3b1 : decide ((decide (a0 < 0)) = (decide (a1 < 0))) = true := by (revert c3; generalize ((decide (a0 < 0))) = p_; generalize ((decide (a1 < 0))) = q_; revert p_ q_; decide))); (try (have c3b2 : ((decide (a0 < 0)) == (decide (a1 < 0))) = true := by (revert c3; generalize ((decide (a0 < 0))) = p_; generalize ((decide (a1 < 0))) = q_; revert p_ q_; decide))); clear c3
  by_cases c4 : ((decide ((wrap64 (a0 + a1)) < 0)) != (decide (a0 < 0))) = true
  ·rw [if_pos c4] at H
   have c4b0 : ((decide ((wrap64 (a0 + a1)) < 0)) != (decide (a0 < 0))) = true := c4; (try (have c4b1 : decide ((decide ((wrap64 (a0 + a1)) < 0)) = (decide (a0 < 0))) = false := by (revert c4; generalize ((decide ((wrap64 (a0 + a1)) < 0))) = p_; generalize ((decide (a0 < 0))) = q_; revert p_ q_; decide))); (try (have c4b2 : ((decide ((wrap64 (a0 + a1)) < 0)) == (decide (a0 < 0))) = false := by (revert c4; generalize ((decide ((wrap64 (a0 + a1)) < 0))) = p_; generalize ((decide (a0 < 0))) = q_; revert p_ q_; decide))); (try (have c4b3 : ¬ ((decide ((wrap64 (a0 + a1)) < 0)) = (decide (a0 < 0))) := by (revert c4; generalize ((decide ((wrap64 (a0 + a1)) < 0))) = p_; generalize ((decide (a0 < 0))) = q_; revert p_ q_; decide))); clear c4; simp only [Option.some.injEq, Prod.mk.injEq] at H; obtain ⟨rfl, rfl⟩ := H; go_enter Tryz.func84, Tryz.ntmps84; go_wp2
   all_goals (try (exfalso; rename_i h_; rw [c3b2] at h_; revert h_; decide))
   all_goals (try (exfalso; rename_i h_; rw [c4b2] at h_; revert h_; decide))
   go_ret2
   exact ⟨eK, by repeat (first | exact Drawn0.refl _ | apply Drawn0.step)⟩
  ·rw [if_neg c4] at H
   (have c4b0 : ((decide ((wrap64 (a0 + a1)) < 0)) != (decide (a0 < 0))) = false := by simpa using c4); (try (have c4b1 : decide ((decide ((wrap64 (a0 + a1)) < 0)) = (decide (a0 < 0))) = true := by (revert c4; generalize ((decide ((wrap64 (a0 + a1)) < 0))) = p_; generalize ((decide (a0 < 0))) = q_; revert p_ q_; decide))); (try (have c4b2 : ((decide ((wrap64 (a0 + a1)) < 0)) == (decide (a0 < 0))) = true := by (revert c4; generalize ((decide ((wrap64 (a0 + a1)) < 0))) = p_; generalize ((decide (a0 < 0))) = q_; revert p_ q_; decide))); clear c4; simp only [Option.some.injEq, Prod.mk.injEq] at H; obtain ⟨rfl, rfl⟩ := H; go_enter Tryz.func84, Tryz.ntmps84; go_wp2
   all_goals (try (exfalso; rename_i h_; rw [c3b2] at h_; revert h_; decide))
   all_goals (try (exfalso; rename_i h_; rw [c4b2] at h_; revert h_; decide))
   go_ret2
   exact ⟨eK, by repeat (first | exact Drawn0.refl _ | apply Drawn0.step)⟩
 ·rw [if_neg c3] at H
  (have c3b0 : ((decide (a0 < 0)) == (decide (a1 < 0))) = false := by simpa using c3); (try (have c3b1 : decide ((decide (a0 < 0)) = (decide (a1 < 0))) = false := by (revert c3; generalize ((decide (a0 < 0))) = p_; generalize ((decide (a1 < 0))) = q_; revert p_ q_; decide))); (try (have c3b2 : ((decide (a0 < 0)) == (decide (a1 < 0))) = false := by (revert c3; generalize ((decide (a0 < 0))) = p_; generalize ((decide (a1 < 0))) = q_; revert p_ q_; decide))); (try (have c3b3 : ¬ ((decide (a0 < 0)) = (decide (a1 < 0))) := by (revert c3; generalize ((decide (a0 < 0))) = p_; generalize ((decide (a1 < 0))) = q_; revert p_ q_; decide))); clear c3; simp only [Option.some.injEq, Prod.mk.injEq] at H; obtain ⟨rfl, rfl⟩ := H; go_enter Tryz.func84, Tryz.ntmps84; go_wp2
  all_goals (try (exfalso; rename_i h_; rw [c3b2] at h_; revert h_; decide))
  go_ret2
  exact ⟨eK, by repeat (first | exact Drawn0.refl _ | apply Drawn0.step)⟩

/-! ### bits_Mul64: function 92 -/
def bits_Mul64.f (a0 : Int) (a1 : Int) : Option (Int × Int) := some (IntKind.u64.wrap ((IntKind.u64.wrap ((IntKind.u64.wrap ((a0 / 4294967296) * (a1 / 4294967296))) + ((IntKind.u64.wrap ((IntKind.u64.wrap ((a0 / 4294967296) * (Go.bits .and .u64 a1 4294967295))) + ((IntKind.u64.wrap ((Go.bits .and .u64 a0 4294967295) * (Go.bits .and .u64 a1 4294967295))) / 4294967296))) / 4294967296))) + ((IntKind.u64.wrap ((Go.bits .and .u64 (IntKind.u64.wrap ((IntKind.u64.wrap ((a0 / 4294967296) * (Go.bits .and .u64 a1 4294967295))) + ((IntKind.u64.wrap ((Go.bits .and .u64 a0 4294967295) * (Go.bits .and .u64 a1 4294967295))) / 4294967296))) 4294967295) + (IntKind.u64.wrap ((Go.bits .and .u64 a0 4294967295) * (a1 / 4294967296))))) / 4294967296)), IntKind.u64.wrap (a0 * a1))
set_option maxHeartbeats 8000000 in
set_option maxRecDepth 100000 in
theorem bits_Mul64.calls (a0 : Int) (a1 : Int) (r1 : Int) (r2 : Int) (w : World) (h : bits_Mul64.f a0 a1 = some (r1, r2)) :
  Calls Tryz.prog 92 #[.int .u64 a0, .int .u64 a1] w fun e w' => e = .returned (.tuple #[.int .u64 r1, .int .u64 r2]) ∧ Drawn0 w w' := by
 have H : (some (IntKind.u64.wrap ((IntKind.u64.wrap ((IntKind.u64.wrap ((a0 / 4294967296) * (a1 / 4294967296))) + ((IntKind.u64.wrap ((IntKind.u64.wrap ((a0 / 4294967296) * (Go.bits .and .u64 a1 4294967295))) + ((IntKind.u64.wrap ((Go.bits .and .u64 a0 4294967295) * (Go.bits .and .u64 a1 4294967295))) / 4294967296))) / 4294967296))) + ((IntKind.u64.wrap ((Go.bits .and .u64 (IntKind.u64.wrap ((IntKind.u64.wrap ((a0 / 4294967296) * (Go.bits .and .u64 a1 4294967295))) + ((IntKind.u64.wrap ((Go.bits .and .u64 a0 4294967295) * (Go.bits .and .u64 a1 4294967295))) / 4294967296))) 4294967295) + (IntKind.u64.wrap ((Go.bits .and .u64 a0 4294967295) * (a1 / 4294967296))))) / 4294967296)), IntKind.u64.wrap (a0 * a1))) = some (r1, r2) := h
 clear h
 simp only [Option.some.injEq, Prod.mk.injEq] at H
 obtain ⟨rfl, rfl⟩ := H
 go_enter Tryz.func92, Tryz.ntmps92
 go_wp2
 go_ret2
 exact ⟨eK, by repeat (first | exact Drawn0.refl _ | apply Drawn0.step)⟩

/-! ### num_size: function 93 -/
def num_size.f (a0 : Int) : Option (Int) := if a0 < 0 then (some (IntKind.u64.wrap (-(IntKind.u64.wrap (a0))))) else (some (IntKind.u64.wrap (a0)))
set_option maxHeartbeats 8000000 in
set_option maxRecDepth 100000 in
theorem num_size.calls (a0 : Int) (r : Int) (w : World) (h : num_size.f a0 = some r) :
  Calls Tryz.prog 93 #[.int .i64 a0] w fun e w' => e = .returned (.int .u64 r) ∧ Drawn0 w w' := by
 have H : (if a0 < 0 then (some (IntKind.u64.wrap (-(IntKind.u64.wrap (a0))))) else (some (IntKind.u64.wrap (a0)))) = some r := h
 clear h
 by_cases c2 : a0 < 0
 ·rw [if_pos c2] at H
  have c2b0 := decide_eq_true c2; clear c2; obtain rfl := Option.some.inj H; go_enter Tryz.func93, Tryz.ntmps93; go_wp2; go_ret; exact ⟨eK, by repeat (first | exact Drawn0.refl _ | apply Drawn0.step)⟩
 ·rw [if_neg c2] at H
  have c2b0 := decide_eq_false c2; clear c2; obtain rfl := Option.some.inj H; go_enter Tryz.func93, Tryz.ntmps93; go_wp2; go_ret; exact ⟨eK, by repeat (first | exact Drawn0.refl _ | apply Drawn0.step)⟩

/-! ### num_Mul: function 79 -/
mutual
def num_Mul.j0 : Nat → Int → Int → Bool → Int → Option (Int × Bool)
 | 0, _, _, _, _ => none
 | k + 1, x6, x7, x8, x9 => if x6 > 0 then (num_Mul.j1 k x7 x8 true) else (num_Mul.j1 k x7 x8 (decide (x7 > x9)))
def num_Mul.j1 : Nat → Int → Bool → Bool → Option (Int × Bool)
 | 0, _, _, _ => none
 | k + 1, x7, x8, x32 => if x32 = true then (some (0, false)) else (if x8 = true then (some (wrap64 (IntKind.u64.wrap (-x7)), true)) else (some (wrap64 (x7), true)))
end
def num_Mul.f (k : Nat) (a0 : Int) (a1 : Int) : Option (Int × Bool) := (num_size.f a0).bind fun t101 => ((num_size.f a1).bind fun t102 => ((bits_Mul64.f t101 t102).bind fun bt103 => (if ((decide (a0 < 0)) != (decide (a1 < 0))) = true then (num_Mul.j0 k bt103.1 bt103.2 ((decide (a0 < 0)) != (decide (a1 < 0))) (9223372036854775807 + 1)) else (num_Mul.j0 k bt103.1 bt103.2 ((decide (a0 < 0)) != (decide (a1 < 0))) 9223372036854775807))))
theorem num_Mul.mono_l : ∀ k, (∀ y0 y1 y2 y3, LeO (num_Mul.j0 k y0 y1 y2 y3) (num_Mul.j0 (k + 1) y0 y1 y2 y3)) ∧ (∀ y0 y1 y2, LeO (num_Mul.j1 k y0 y1 y2) (num_Mul.j1 (k + 1) y0 y1 y2))
 | 0 => by refine ⟨?_, ?_⟩ <;> intros <;> exact fun r h => by simp [num_Mul.j0, num_Mul.j1] at h
 | k + 1 => by
  obtain ⟨i0_, i1_⟩ := num_Mul.mono_l k; refine ⟨?_, ?_⟩ <;> intros
  ·unfold num_Mul.j0; exact lO_
  ·unfold num_Mul.j1; exact lO_
theorem num_Mul.mono : ∀ a0 a1 k, LeO (num_Mul.f k a0 a1) (num_Mul.f (k + 1) a0 a1) := by
 intro a0 a1 k
 obtain ⟨i0_, i1_⟩ := num_Mul.mono_l k; unfold num_Mul.f; exact lO_
set_option maxHeartbeats 8000000 in
set_option maxRecDepth 100000 in
theorem num_Mul.calls (k : Nat) (a0 : Int) (a1 : Int) (r1 : Int) (r2 : Bool) (w : World) (h : num_Mul.f k a0 a1 = some (r1, r2)) :
  Calls Tryz.prog 79 #[.int .i64 a0, .int .i64 a1] w fun e w' => e = .returned (.tuple #[.int .i64 r1, .bool r2]) ∧ Drawn0 w w' := by
 have H : ((num_size.f a0).bind fun ab => ((num_size.f a1).bind fun ac => ((bits_Mul64.f ab ac).bind fun ag => (if ((decide (a0 < 0)) != (decide (a1 < 0))) = true then (num_Mul.j0 k ag.1 ag.2 ((decide (a0 < 0)) != (decide (a1 < 0))) (9223372036854775807 + 1)) else (num_Mul.j0 k ag.1 ag.2 ((decide (a0 < 0)) != (decide (a1 < 0))) 9223372036854775807))))) = some (r1, r2) := h
 clear h
 replace H := Option.bind_eq_some_iff.mp H
 obtain ⟨ab, aq, H⟩ := H
 have A3 := mk0 aq
 clear aq
 replace H := Option.bind_eq_some_iff.mp H
 obtain ⟨ac, ar, H⟩ := H
 have A4 := mk0 ar
 clear ar
 replace H := Option.bind_eq_some_iff.mp H
 obtain ⟨⟨ak, ah⟩, au, H⟩ := H
 dsimp only at H
 have A5 := mk0 au
 clear au
 have al := mk0 H
 clear H
 go_enter Tryz.func79, Tryz.ntmps79
 go_upto_if 23 with (first | ((with_reducible refine gate_dst (N := 12) rfl ?_); refine gsM (some 12) Tryz.func93 #[.int .i64 a0] ?_; (with_reducible refine (num_size.calls a0 ab _ A3.out).mono ?_); rintro e w' ⟨rfl, ⟨nd, rfl⟩⟩; refine ⟨_, rfl, ?_⟩) | ((with_reducible refine gate_dst (N := 14) rfl ?_); refine gsM (some 14) Tryz.func93 #[.int .i64 a1] ?_; (with_reducible refine (num_size.calls a1 ac _ A4.out).mono ?_); rintro e w' ⟨rfl, ⟨nd, rfl⟩⟩; refine ⟨_, rfl, ?_⟩) | ((with_reducible refine gate_dst (N := 15) rfl ?_); refine gsM (some 15) Tryz.func92 #[.int .u64 ab, .int .u64 ac] ?_; (with_reducible refine (bits_Mul64.calls ab ac ak ah _ A5.out).mono ?_); rintro e w' ⟨rfl, ⟨nd, rfl⟩⟩; refine ⟨_, rfl, ?_⟩))
 (try simp only [AP])
 go_cut [9] (fun v9 wc => ∃ (kq : Nat) (x9_5 : Int), v9 = .int .u64 x9_5 ∧ Aside0 (num_Mul.j0 kq ak ah ((decide (a0 < 0)) != (decide (a1 < 0))) x9_5 = some (r1, r2)) ∧ Aside0 (kq ≤ k) ∧ Drawn0 w wc)
 case first =>
  have H := al.out; clear al
  by_cases c7 : ((decide (a0 < 0)) != (decide (a1 < 0))) = true
  ·rw [if_pos c7] at H
   have ae : ((decide (a0 < 0)) != (decide (a1 < 0))) = true := c7; (try (have aw : decide ((decide (a0 < 0)) = (decide (a1 < 0))) = false := by (revert c7; generalize ((decide (a0 < 0))) = p_; generalize ((decide (a1 < 0))) = q_; revert p_ q_; decide))); (try (have am : ((decide (a0 < 0)) == (decide (a1 < 0))) = false := by (revert c7; generalize ((decide (a0 < 0))) = p_; generalize ((decide (a1 < 0))) = q_; revert p_ q_; decide))); (try (have az : ¬ ((decide (a0 < 0)) = (decide (a1 < 0))) := by (revert c7; generalize ((decide (a0 < 0))) = p_; generalize ((decide (a1 < 0))) = q_; revert p_ q_; decide))); clear c7; (first | rw [ae] | (simp only [i64_w, i32_w]; rw [ae]) | skip); have H' := mk0 H; clear H; go_wp2
   all_goals (try (exfalso; rename_i h_; rw [am] at h_; revert h_; decide))
   go_meet
   case rel => exact ⟨_, (9223372036854775807 + 1), eK, H', ⟨by first | omega | exact Nat.le_refl _⟩, by repeat (first | exact Drawn0.refl _ | apply Drawn0.step)⟩
  ·rw [if_neg c7] at H
   (have ae : ((decide (a0 < 0)) != (decide (a1 < 0))) = false := by simpa using c7); (try (have aw : decide ((decide (a0 < 0)) = (decide (a1 < 0))) = true := by (revert c7; generalize ((decide (a0 < 0))) = p_; generalize ((decide (a1 < 0))) = q_; revert p_ q_; decide))); (try (have am : ((decide (a0 < 0)) == (decide (a1 < 0))) = true := by (revert c7; generalize ((decide (a0 < 0))) = p_; generalize ((decide (a1 < 0))) = q_; revert p_ q_; decide))); clear c7; (first | rw [ae] | (simp only [i64_w, i32_w]; rw [ae]) | skip); have H' := mk0 H; clear H; go_wp2
   all_goals (try (exfalso; rename_i h_; rw [am] at h_; revert h_; decide))
   go_meet
   case rel => exact ⟨_, (9223372036854775807), eK, H', ⟨by first | omega | exact Nat.le_refl _⟩, by repeat (first | exact Drawn0.refl _ | apply Drawn0.step)⟩
 case rest =>
  clear al; obtain ⟨kq, x9_5, rfl, HA, av, ⟨mc5, rfl⟩⟩ := hcut
  cases kq with
  | zero => exact absurd HA.out (by simp [num_Mul.j0])
  | succ kj5 =>
   have H := HA.out; clear HA; simp only [num_Mul.j0] at H; have ao := mk0 H; clear H
   go_upto_region 6 with (fail)
   go_cut [32] (fun v32 wc => ∃ (kq : Nat) (ai : Bool), v32 = .bool ai ∧ Aside0 (num_Mul.j1 kq ah ((decide (a0 < 0)) != (decide (a1 < 0))) ai = some (r1, r2)) ∧ Aside0 (kq ≤ kj5) ∧ Drawn0 w wc)
   case first =>
    have H := ao.out; clear ao
    by_cases c9 : ak > 0
    ·rw [if_pos c9] at H
     have af := decide_eq_true c9; clear c9; (first | rw [af] | (simp only [i64_w, i32_w]; rw [af]) | skip); have H' := mk0 H; clear H; go_wp2
     go_meet
     case rel => exact ⟨_, (true), eK, H', ⟨by have := av.out; first | omega | exact Nat.le_refl _⟩, by repeat (first | exact Drawn0.refl _ | apply Drawn0.step)⟩
    ·rw [if_neg c9] at H
     have af := decide_eq_false c9; clear c9; (first | rw [af] | (simp only [i64_w, i32_w]; rw [af]) | skip); have H' := mk0 H; clear H; go_wp2
     go_meet
     case rel => exact ⟨_, (decide (ah > x9_5)), eK, H', ⟨by have := av.out; first | omega | exact Nat.le_refl _⟩, by repeat (first | exact Drawn0.refl _ | apply Drawn0.step)⟩
   case rest =>
    clear ao; obtain ⟨kq, ai, rfl, HA, aA, ⟨mc7, rfl⟩⟩ := hcut
    cases kq with
    | zero => exact absurd HA.out (by simp [num_Mul.j1])
    | succ kj7 =>
     have H := HA.out; clear HA; simp only [num_Mul.j1] at H
     by_cases aj : ai = true
     ·subst aj
      replace H := iT H; simp only [Option.some.injEq, Prod.mk.injEq] at H; obtain ⟨rfl, rfl⟩ := H; go_wp2
      go_ret2
      exact ⟨eK, by repeat (first | exact Drawn0.refl _ | apply Drawn0.step)⟩
     ·replace aj := Bool.eq_false_iff.mpr aj
      subst aj; replace H := iF H
      by_cases aa : ((decide (a0 < 0)) != (decide (a1 < 0))) = true
      ·rw [if_pos aa] at H
       have ax : ((decide (a0 < 0)) != (decide (a1 < 0))) = true := aa; (try (have ay : decide ((decide (a0 < 0)) = (decide (a1 < 0))) = false := by (revert aa; generalize ((decide (a0 < 0))) = p_; generalize ((decide (a1 < 0))) = q_; revert p_ q_; decide))); (try (have ap : ((decide (a0 < 0)) == (decide (a1 < 0))) = false := by (revert aa; generalize ((decide (a0 < 0))) = p_; generalize ((decide (a1 < 0))) = q_; revert p_ q_; decide))); (try (have aC : ¬ ((decide (a0 < 0)) = (decide (a1 < 0))) := by (revert aa; generalize ((decide (a0 < 0))) = p_; generalize ((decide (a1 < 0))) = q_; revert p_ q_; decide))); clear aa; simp only [Option.some.injEq, Prod.mk.injEq] at H; obtain ⟨rfl, rfl⟩ := H; go_wp2
       all_goals (try (exfalso; rename_i h_; rw [ap] at h_; revert h_; decide))
       go_ret2
       exact ⟨eK, by repeat (first | exact Drawn0.refl _ | apply Drawn0.step)⟩
      ·rw [if_neg aa] at H
       (have ax : ((decide (a0 < 0)) != (decide (a1 < 0))) = false := by simpa using aa); (try (have ay : decide ((decide (a0 < 0)) = (decide (a1 < 0))) = true := by (revert aa; generalize ((decide (a0 < 0))) = p_; generalize ((decide (a1 < 0))) = q_; revert p_ q_; decide))); (try (have ap : ((decide (a0 < 0)) == (decide (a1 < 0))) = true := by (revert aa; generalize ((decide (a0 < 0))) = p_; generalize ((decide (a1 < 0))) = q_; revert p_ q_; decide))); clear aa; simp only [Option.some.injEq, Prod.mk.injEq] at H; obtain ⟨rfl, rfl⟩ := H; go_wp2
       all_goals (try (exfalso; rename_i h_; rw [ap] at h_; revert h_; decide))
       go_ret2
       exact ⟨eK, by repeat (first | exact Drawn0.refl _ | apply Drawn0.step)⟩

/-! ### lin_Form_part: function 80 -/
def lin_Form_part.f (l0_0 : List Int) (a0_1 : Int) (a1 : Int) : Option (Int) := if a1 < (l0_0.length : Int) then (if 0 ≤ a1 then (some (rd l0_0 a1)) else (none)) else (some a0_1)
set_option maxHeartbeats 8000000 in
set_option maxRecDepth 100000 in
theorem lin_Form_part.calls (A0_0 : Option Addr) (c0_0 : Nat) (l0_0 : List Int) (a0_1 : Int) (a1 : Int) (r : Int) (w : World) (hr0_0 : Kd.C (Kd.int .i64) w A0_0 l0_0.length l0_0) (hc0_0 : l0_0.length ≤ c0_0) (h : lin_Form_part.f l0_0 a0_1 a1 = some r) :
  Calls Tryz.prog 80 #[.agg #[.slice A0_0 l0_0.length c0_0, .int .i64 a0_1], .int .i64 a1] w fun e w' => e = .returned (.int .i64 r) ∧ Below w.heap.size w w' := by
 have hu46 := Tryz.underlying46
 have HR0_0 := mk0 hr0_0
 have HC0_0 := mk0 hc0_0
 clear hr0_0 hc0_0
 have HB := mk0 (Below.refl w.heap.size w)
 have H : (if a1 < (l0_0.length : Int) then (if 0 ≤ a1 then (some (rd l0_0 a1)) else (none)) else (some a0_1)) = some r := h
 clear h
 by_cases c3 : a1 < (l0_0.length : Int)
 ·rw [if_pos c3] at H
  have c3b0 := decide_eq_true c3; clear c3
  by_cases c4 : 0 ≤ a1
  ·rw [if_pos c4] at H
   have c4b0 := decide_eq_true c4; clear c4; obtain rfl := Option.some.inj H; go_enter Tryz.func80, Tryz.ntmps80
   go_wp2_with (first | ((with_reducible refine gate_dst (N := 2) rfl ?_); refine bxE 2 #[.slice A0_0 l0_0.length c0_0, .int .i64 a0_1] 46 ?_; intro gb105 hg w5 hbox hb; have BK105 := mk0 (hbox); have GW105 := gE (uL HB.out) hg; have GE105 := gE (uL HB.out) hg; replace HB := hbB (uL HB.out) hb; clear hb hbox hg; obtain ⟨hcz6_0, hcz6_1, hfz6_0, hfz6_1⟩ := cL2 BK105; have p106 : 0 ≤ (a1 : Int) := dY; have q106 : a1 < (l0_0.length : Int) := dY; obtain ⟨ad106, e106, hx106_0⟩ := Kd.at_int HR0_0.out a1 p106 q106; cases e106; replace hx106_0 := oC HB hx106_0; replace p106 := eq_true p106; replace q106 := eq_true q106))
   go_ret; exact ⟨rE, bH⟩
  ·exact nO H c4
 ·rw [if_neg c3] at H
  have c3b0 := decide_eq_false c3; clear c3; obtain rfl := Option.some.inj H; go_enter Tryz.func80, Tryz.ntmps80
  go_wp2_with (first | ((with_reducible refine gate_dst (N := 2) rfl ?_); refine bxE 2 #[.slice A0_0 l0_0.length c0_0, .int .i64 a0_1] 46 ?_; intro gb105 hg w7 hbox hb; have BK105 := mk0 (hbox); have GW105 := gE (uL HB.out) hg; have GE105 := gE (uL HB.out) hg; replace HB := hbB (uL HB.out) hb; clear hb hbox hg; obtain ⟨hcz8_0, hcz8_1, hfz8_0, hfz8_1⟩ := cL2 BK105))
  go_ret; exact ⟨rE, bH⟩

end Go.Proofs.YtnkckdbjeemjeaaGreatDoor.X
