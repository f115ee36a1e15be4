-- PRINTED by print.py (a twelfth state) out of the translation. Not trusted: Lean checks it.
import Derived.Test.YtfjfgcnbokefbaaXx0
import Derived.Test.YtfjfgcnbokefbaaXx1
namespace Go.Proofs.Ytfjfgcnbokefbaa.X
open Go.Proofs.Ytfjfgcnbokefbaa.Flt Go.Proofs.Ytfjfgcnbokefbaa.H Go.RowKit Go.Proofs.YtfjfgcnbokefbaaW.PrintWords Go.Proofs.YtfjfgcnbokefbaaW.PrintLast Go.Proofs.YtfjfgcnbokefbaaW.PrintMore
attribute [local go_sem] max2_int min2_int max_two min_two max_three min_three max_four min_four   -- for this text's walks alone
set_option linter.unusedVariables false
set_option linter.unusedSimpArgs false

/-! ### num_Gcd: function 16 -/
def num_Gcd.l0 : Nat → Int → Int → Option (Int)
  | 0, _, _ => none
  | k + 1, x5, x6 => if x6 > 0 then (if x6 = 0 then (none) else (num_Gcd.l0 k x6 (Int.tmod x5 x6))) else (some x5)
def num_Gcd.f (k : Nat) (a0 : Int) (a1 : Int) : Option (Int) := (num_size.f a0).bind fun t111 => ((num_size.f a1).bind fun t112 => (num_Gcd.l0 k t111 t112))
theorem num_Gcd.mono_l : ∀ k, (∀ y0 y1, LeO (num_Gcd.l0 k y0 y1) (num_Gcd.l0 (k + 1) y0 y1))
  | 0 => fun _ _ r h => by simp [num_Gcd.l0] at h
  | k + 1 => by
    have ih0 := num_Gcd.mono_l k
    · intro y0 y1
      unfold num_Gcd.l0
      repeat' first
      | (with_reducible exact ih0 _ _)
      | (with_reducible exact LeO.refl _)
      | (with_reducible exact LeO.none _)
      | (with_reducible refine LeO.ite ?_ ?_)
      | (with_reducible refine LeO.bind ?_ (fun _ => ?_))
      | exact ih0 _ _
      | exact LeO.none _
      | refine LeO.ite ?_ ?_
      | refine LeO.bind ?_ (fun _ => ?_)
theorem num_Gcd.mono : ∀ a0 a1 k, LeO (num_Gcd.f k a0 a1) (num_Gcd.f (k + 1) a0 a1) := by
  intro a0 a1 k
  have ih0 := num_Gcd.mono_l k
  unfold num_Gcd.f
  repeat' first
      | (with_reducible exact ih0 _ _)
      | (with_reducible exact LeO.refl _)
      | (with_reducible exact LeO.none _)
      | (with_reducible refine LeO.ite ?_ ?_)
      | (with_reducible refine LeO.bind ?_ (fun _ => ?_))
      | exact ih0 _ _
      | exact LeO.none _
      | refine LeO.ite ?_ ?_
      | refine LeO.bind ?_ (fun _ => ?_)
set_option maxHeartbeats 8000000 in
set_option maxRecDepth 100000 in
theorem num_Gcd.calls (k : Nat) (a0 : Int) (a1 : Int) (r : Int) (w : World) (h : num_Gcd.f k a0 a1 = some r) :
    Calls Try.prog 16 #[.int .i64 a0, .int .i64 a1] w fun e w' => e = .returned (.int .u64 r) ∧ Drawn0 w w' := by
  have H : ((num_size.f a0).bind fun t111 => ((num_size.f a1).bind fun t112 => (num_Gcd.l0 k t111 t112))) = some r := h
  clear h
  replace H := Option.bind_eq_some_iff.mp H
  obtain ⟨t111, A30, H⟩ := H
  replace H : ((num_size.f a1).bind fun t112 => (num_Gcd.l0 k t111 t112)) = some r := H
  have A3 := Aside0.mk A30
  clear A30
  replace H := Option.bind_eq_some_iff.mp H
  obtain ⟨t112, A40, H⟩ := H
  replace H : (num_Gcd.l0 k t111 t112) = some r := H
  have A4 := Aside0.mk A40
  clear A40
  have H' := Aside0.mk H
  clear H
  go_enter Try.func16, Try.ntmps16
  go_wp2_with (first | (go_at_call 28; (with_reducible refine (num_size.calls a0 t111 _ A3.out).mono ?_); rintro e w' ⟨rfl, ⟨nd, rfl⟩⟩; (try first | exact ⟨rfl, _, World.drewN_drewN _ _ _⟩ | exact ⟨rfl, _, Eq.trans (World.drewN_drewN _ _ _) (congrArg (World.drewN _) (Nat.add_assoc _ _ _))⟩)) | (go_at_call 28; (with_reducible refine (num_size.calls a1 t112 _ A4.out).mono ?_); rintro e w' ⟨rfl, ⟨nd, rfl⟩⟩; (try first | exact ⟨rfl, _, World.drewN_drewN _ _ _⟩ | exact ⟨rfl, _, Eq.trans (World.drewN_drewN _ _ _) (congrArg (World.drewN _) (Nat.add_assoc _ _ _))⟩)))
  repeat (go_quiet (first | (go_at_call 28; (with_reducible refine (num_size.calls a0 t111 _ A3.out).mono ?_); rintro e w' ⟨rfl, ⟨nd, rfl⟩⟩; (try first | exact ⟨rfl, _, World.drewN_drewN _ _ _⟩ | exact ⟨rfl, _, Eq.trans (World.drewN_drewN _ _ _) (congrArg (World.drewN _) (Nat.add_assoc _ _ _))⟩)) | (go_at_call 28; (with_reducible refine (num_size.calls a1 t112 _ A4.out).mono ?_); rintro e w' ⟨rfl, ⟨nd, rfl⟩⟩; (try first | exact ⟨rfl, _, World.drewN_drewN _ _ _⟩ | exact ⟨rfl, _, Eq.trans (World.drewN_drewN _ _ _) (congrArg (World.drewN _) (Nat.add_assoc _ _ _))⟩))); try go_wp2_with (first | (go_at_call 28; (with_reducible refine (num_size.calls a0 t111 _ A3.out).mono ?_); rintro e w' ⟨rfl, ⟨nd, rfl⟩⟩; (try first | exact ⟨rfl, _, World.drewN_drewN _ _ _⟩ | exact ⟨rfl, _, Eq.trans (World.drewN_drewN _ _ _) (congrArg (World.drewN _) (Nat.add_assoc _ _ _))⟩)) | (go_at_call 28; (with_reducible refine (num_size.calls a1 t112 _ A4.out).mono ?_); rintro e w' ⟨rfl, ⟨nd, rfl⟩⟩; (try first | exact ⟨rfl, _, World.drewN_drewN _ _ _⟩ | exact ⟨rfl, _, Eq.trans (World.drewN_drewN _ _ _) (congrArg (World.drewN _) (Nat.add_assoc _ _ _))⟩))))
  go_loopg [5, 6] k (fun kq v5 v6 w' => ∃ (x5_1 : Int) (x6_1 : Int), v5 = .int .u64 x5_1 ∧ v6 = .int .u64 x6_1 ∧ Aside0 (num_Gcd.l0 kq x5_1 x6_1 = some r) ∧ Aside0 (kq ≤ k) ∧ Drawn0 w w')
  case atStart => exact ⟨(t111), (t112), (by first | rfl | (simp; done) | (simp [*]; done)), (by first | rfl | (simp; done) | (simp [*]; done)), H', ⟨Nat.le_refl _⟩, by repeat (first | exact Drawn0.refl _ | apply Drawn0.step)⟩
  case round =>
    clear H'
    try clear c1
    try clear p2
    obtain ⟨x5_1, x6_1, rfl, rfl, HA, HK1, ⟨m1, rfl⟩⟩ := hrel
    cases gk with
    | zero => exact absurd HA.out (by simp [num_Gcd.l0])
    | succ k1 =>
      have H := HA.out
      clear HA
      simp only [num_Gcd.l0] at H
      by_cases c5 : x6_1 > 0
      · rw [if_pos c5] at H
        have c5b0 : decide (0 < x6_1) = true := decide_eq_true c5
        clear c5
        by_cases c6 : x6_1 = 0
        · rw [if_pos c6] at H
          exact absurd H (by simp)
        · rw [if_neg c6] at H
          have c6b0 : (x6_1 == 0) = false := beq_eq_false_iff_ne.mpr c6
          have c6b1 : (x6_1 != 0) = true := bne_iff_ne.mpr c6
          have H' := Aside0.mk H
          clear H
          go_wp2
          repeat (go_quiet (fail); try go_wp2)
          go_roundg k1
          case measure => have := HK1.out; omega
          case rel => exact ⟨(x6_1), (Int.tmod x5_1 x6_1), (by first | rfl | (simp; done) | (simp [*]; done)), (by first | rfl | (simp; done) | (simp [*]; done)), H', ⟨by have := HK1.out; omega⟩, by repeat (first | exact Drawn0.refl _ | apply Drawn0.step)⟩
      · rw [if_neg c5] at H
        have c5b0 : decide (0 < x6_1) = false := decide_eq_false c5
        clear c5
        obtain rfl := Option.some.inj H
        go_wp2
        repeat (go_quiet (fail); try go_wp2)
        go_ret
        exact ⟨by first | rfl | (simp; done) | (simp [*]; done), by repeat (first | exact Drawn0.refl _ | apply Drawn0.step)⟩

/-! ### num_Add: function 17 -/
def num_Add.f (a0 : Int) (a1 : Int) : Option (Int × Bool) := if ((decide (a0 < 0)) == (decide (a1 < 0))) = true then (if ((decide ((wrap64 (a0 + a1)) < 0)) != (decide (a0 < 0))) = true then (some (0, false)) else (some (wrap64 (a0 + a1), true))) else (some (wrap64 (a0 + a1), true))
set_option maxHeartbeats 8000000 in
set_option maxRecDepth 100000 in
theorem num_Add.calls (a0 : Int) (a1 : Int) (r1 : Int) (r2 : Bool) (w : World) (h : num_Add.f a0 a1 = some (r1, r2)) :
    Calls Try.prog 17 #[.int .i64 a0, .int .i64 a1] w fun e w' => e = .returned (.tuple #[.int .i64 r1, .bool r2]) ∧ Drawn0 w w' := by
  have H : (if ((decide (a0 < 0)) == (decide (a1 < 0))) = true then (if ((decide ((wrap64 (a0 + a1)) < 0)) != (decide (a0 < 0))) = true then (some (0, false)) else (some (wrap64 (a0 + a1), true))) else (some (wrap64 (a0 + a1), true))) = some (r1, r2) := h
  clear h
  by_cases c3 : ((decide (a0 < 0)) == (decide (a1 < 0))) = true
  · rw [if_pos c3] at H
    have c3b0 : ((decide (a0 < 0)) == (decide (a1 < 0))) = true := c3
    (try (have c3b1 : decide ((decide (a0 < 0)) = (decide (a1 < 0))) = true := by (revert c3; generalize ((decide (a0 < 0))) = p_; generalize ((decide (a1 < 0))) = q_; revert p_ q_; decide)))
    (try (have c3b2 : ((decide (a0 < 0)) == (decide (a1 < 0))) = true := by (revert c3; generalize ((decide (a0 < 0))) = p_; generalize ((decide (a1 < 0))) = q_; revert p_ q_; decide)))
    clear c3
    by_cases c4 : ((decide ((wrap64 (a0 + a1)) < 0)) != (decide (a0 < 0))) = true
    · rw [if_pos c4] at H
      have c4b0 : ((decide ((wrap64 (a0 + a1)) < 0)) != (decide (a0 < 0))) = true := c4
      (try (have c4b1 : decide ((decide ((wrap64 (a0 + a1)) < 0)) = (decide (a0 < 0))) = false := by (revert c4; generalize ((decide ((wrap64 (a0 + a1)) < 0))) = p_; generalize ((decide (a0 < 0))) = q_; revert p_ q_; decide)))
      (try (have c4b2 : ((decide ((wrap64 (a0 + a1)) < 0)) == (decide (a0 < 0))) = false := by (revert c4; generalize ((decide ((wrap64 (a0 + a1)) < 0))) = p_; generalize ((decide (a0 < 0))) = q_; revert p_ q_; decide)))
      (try (have c4b3 : ¬ ((decide ((wrap64 (a0 + a1)) < 0)) = (decide (a0 < 0))) := by (revert c4; generalize ((decide ((wrap64 (a0 + a1)) < 0))) = p_; generalize ((decide (a0 < 0))) = q_; revert p_ q_; decide)))
      clear c4
      simp only [Option.some.injEq, Prod.mk.injEq] at H
      obtain ⟨rfl, rfl⟩ := H
      go_enter Try.func17, Try.ntmps17
      go_wp2
      all_goals (try (exfalso; rename_i h_; rw [c3b2] at h_; revert h_; decide))
      all_goals (try (exfalso; rename_i h_; rw [c4b2] at h_; revert h_; decide))
      go_ret2
      exact ⟨by first | rfl | (simp; done) | (simp [*]; done), by repeat (first | exact Drawn0.refl _ | apply Drawn0.step)⟩
    · rw [if_neg c4] at H
      have c4b0 : ((decide ((wrap64 (a0 + a1)) < 0)) != (decide (a0 < 0))) = false := by simpa using c4
      (try (have c4b1 : decide ((decide ((wrap64 (a0 + a1)) < 0)) = (decide (a0 < 0))) = true := by (revert c4; generalize ((decide ((wrap64 (a0 + a1)) < 0))) = p_; generalize ((decide (a0 < 0))) = q_; revert p_ q_; decide)))
      (try (have c4b2 : ((decide ((wrap64 (a0 + a1)) < 0)) == (decide (a0 < 0))) = true := by (revert c4; generalize ((decide ((wrap64 (a0 + a1)) < 0))) = p_; generalize ((decide (a0 < 0))) = q_; revert p_ q_; decide)))
      clear c4
      simp only [Option.some.injEq, Prod.mk.injEq] at H
      obtain ⟨rfl, rfl⟩ := H
      go_enter Try.func17, Try.ntmps17
      go_wp2
      all_goals (try (exfalso; rename_i h_; rw [c3b2] at h_; revert h_; decide))
      all_goals (try (exfalso; rename_i h_; rw [c4b2] at h_; revert h_; decide))
      go_ret2
      exact ⟨by first | rfl | (simp; done) | (simp [*]; done), by repeat (first | exact Drawn0.refl _ | apply Drawn0.step)⟩
  · rw [if_neg c3] at H
    have c3b0 : ((decide (a0 < 0)) == (decide (a1 < 0))) = false := by simpa using c3
    (try (have c3b1 : decide ((decide (a0 < 0)) = (decide (a1 < 0))) = false := by (revert c3; generalize ((decide (a0 < 0))) = p_; generalize ((decide (a1 < 0))) = q_; revert p_ q_; decide)))
    (try (have c3b2 : ((decide (a0 < 0)) == (decide (a1 < 0))) = false := by (revert c3; generalize ((decide (a0 < 0))) = p_; generalize ((decide (a1 < 0))) = q_; revert p_ q_; decide)))
    (try (have c3b3 : ¬ ((decide (a0 < 0)) = (decide (a1 < 0))) := by (revert c3; generalize ((decide (a0 < 0))) = p_; generalize ((decide (a1 < 0))) = q_; revert p_ q_; decide)))
    clear c3
    simp only [Option.some.injEq, Prod.mk.injEq] at H
    obtain ⟨rfl, rfl⟩ := H
    go_enter Try.func17, Try.ntmps17
    go_wp2
    all_goals (try (exfalso; rename_i h_; rw [c3b2] at h_; revert h_; decide))
    go_ret2
    exact ⟨by first | rfl | (simp; done) | (simp [*]; done), by repeat (first | exact Drawn0.refl _ | apply Drawn0.step)⟩

/-! ### furrowlaw1_known: function 9 -/
def furrowlaw1_known.f (k : Nat)  : Option (Bool) := (num_Floor.f k (-7) 2).bind fun bt113 => ((num_Ceil.f k (-7) 2).bind fun bt115 => ((num_Add.f 9223372036854775807 1).bind fun bt117 => (if bt113.1 = (-4) then (if bt113.2 = true then (if bt115.1 = (-3) then (if bt115.2 = true then (if bt117.2 = true then (some false) else ((num_Gcd.f k 12 (-18)).bind fun t119 => (if t119 = 6 then ((num_Times.f 10 1 (-4)).bind fun t120 => (if t120 = 3 then ((num_Last.f 10 1 (-4)).bind fun t121 => (if t121 = 2 then ((num_Times.f 1 0 1).bind fun t122 => (if t122 = 0 then ((num_Last.f 1 0 1).bind fun t123 => (some (t123 == 1))) else (some false))) else (some false))) else (some false))) else (some false)))) else (some false)) else (some false)) else (some false)) else (some false))))
theorem furrowlaw1_known.mono : ∀ k, LeO (furrowlaw1_known.f k ) (furrowlaw1_known.f (k + 1) ) := by
  intro  k
  unfold furrowlaw1_known.f
  repeat' first
      | (with_reducible exact num_Ceil.mono _ _ _)
      | (with_reducible exact num_Floor.mono _ _ _)
      | (with_reducible exact num_Gcd.mono _ _ _)
      | (with_reducible exact LeO.refl _)
      | (with_reducible exact LeO.none _)
      | (with_reducible refine LeO.ite ?_ ?_)
      | (with_reducible refine LeO.bind ?_ (fun _ => ?_))
      | exact num_Ceil.mono _ _ _
      | exact num_Floor.mono _ _ _
      | exact num_Gcd.mono _ _ _
      | exact LeO.none _
      | refine LeO.ite ?_ ?_
      | refine LeO.bind ?_ (fun _ => ?_)
set_option maxHeartbeats 8000000 in
set_option maxRecDepth 100000 in
theorem furrowlaw1_known.calls (k : Nat)  (w : World) (h : furrowlaw1_known.f k  = some true) :
    Calls Try.prog 9 #[] w fun e w' => e = .returned (.bool true) ∧ Drawn0 w w' := by
  have H : ((num_Floor.f k (-7) 2).bind fun bt113 => ((num_Ceil.f k (-7) 2).bind fun bt115 => ((num_Add.f 9223372036854775807 1).bind fun bt117 => (if bt113.1 = (-4) then (if bt113.2 = true then (if bt115.1 = (-3) then (if bt115.2 = true then (if bt117.2 = true then (some false) else ((num_Gcd.f k 12 (-18)).bind fun t119 => (if t119 = 6 then ((num_Times.f 10 1 (-4)).bind fun t120 => (if t120 = 3 then ((num_Last.f 10 1 (-4)).bind fun t121 => (if t121 = 2 then ((num_Times.f 1 0 1).bind fun t122 => (if t122 = 0 then ((num_Last.f 1 0 1).bind fun t123 => (some (t123 == 1))) else (some false))) else (some false))) else (some false))) else (some false)))) else (some false)) else (some false)) else (some false)) else (some false))))) = some true := h
  clear h
  replace H := Option.bind_eq_some_iff.mp H
  obtain ⟨⟨t113, t114⟩, A10, H⟩ := H
  replace H : ((num_Ceil.f k (-7) 2).bind fun bt115 => ((num_Add.f 9223372036854775807 1).bind fun bt117 => (if t113 = (-4) then (if t114 = true then (if bt115.1 = (-3) then (if bt115.2 = true then (if bt117.2 = true then (some false) else ((num_Gcd.f k 12 (-18)).bind fun t119 => (if t119 = 6 then ((num_Times.f 10 1 (-4)).bind fun t120 => (if t120 = 3 then ((num_Last.f 10 1 (-4)).bind fun t121 => (if t121 = 2 then ((num_Times.f 1 0 1).bind fun t122 => (if t122 = 0 then ((num_Last.f 1 0 1).bind fun t123 => (some (t123 == 1))) else (some false))) else (some false))) else (some false))) else (some false)))) else (some false)) else (some false)) else (some false)) else (some false)))) = some true := H
  have A1 := Aside0.mk A10
  clear A10
  replace H := Option.bind_eq_some_iff.mp H
  obtain ⟨⟨t115, t116⟩, A20, H⟩ := H
  replace H : ((num_Add.f 9223372036854775807 1).bind fun bt117 => (if t113 = (-4) then (if t114 = true then (if t115 = (-3) then (if t116 = true then (if bt117.2 = true then (some false) else ((num_Gcd.f k 12 (-18)).bind fun t119 => (if t119 = 6 then ((num_Times.f 10 1 (-4)).bind fun t120 => (if t120 = 3 then ((num_Last.f 10 1 (-4)).bind fun t121 => (if t121 = 2 then ((num_Times.f 1 0 1).bind fun t122 => (if t122 = 0 then ((num_Last.f 1 0 1).bind fun t123 => (some (t123 == 1))) else (some false))) else (some false))) else (some false))) else (some false)))) else (some false)) else (some false)) else (some false)) else (some false))) = some true := H
  have A2 := Aside0.mk A20
  clear A20
  replace H := Option.bind_eq_some_iff.mp H
  obtain ⟨⟨t117, t118⟩, A30, H⟩ := H
  replace H : (if t113 = (-4) then (if t114 = true then (if t115 = (-3) then (if t116 = true then (if t118 = true then (some false) else ((num_Gcd.f k 12 (-18)).bind fun t119 => (if t119 = 6 then ((num_Times.f 10 1 (-4)).bind fun t120 => (if t120 = 3 then ((num_Last.f 10 1 (-4)).bind fun t121 => (if t121 = 2 then ((num_Times.f 1 0 1).bind fun t122 => (if t122 = 0 then ((num_Last.f 1 0 1).bind fun t123 => (some (t123 == 1))) else (some false))) else (some false))) else (some false))) else (some false)))) else (some false)) else (some false)) else (some false)) else (some false)) = some true := H
  have A3 := Aside0.mk A30
  clear A30
  by_cases c4 : t113 = (-4)
  · rw [if_pos c4] at H
    have c4b0 : (t113 == (-4)) = true := beq_iff_eq.mpr c4
    have c4b1 : (t113 != (-4)) = false := bne_eq_false_iff_eq.mpr c4
    clear c4
    by_cases c5 : t114 = true
    · subst c5
      have H1 : (if t115 = (-3) then (if t116 = true then (if t118 = true then (some false) else ((num_Gcd.f k 12 (-18)).bind fun t119 => (if t119 = 6 then ((num_Times.f 10 1 (-4)).bind fun t120 => (if t120 = 3 then ((num_Last.f 10 1 (-4)).bind fun t121 => (if t121 = 2 then ((num_Times.f 1 0 1).bind fun t122 => (if t122 = 0 then ((num_Last.f 1 0 1).bind fun t123 => (some (t123 == 1))) else (some false))) else (some false))) else (some false))) else (some false)))) else (some false)) else (some false)) = some true := by rw [if_pos rfl] at H; exact H
      clear H
      have H := H1
      clear H1
      by_cases c6 : t115 = (-3)
      · rw [if_pos c6] at H
        have c6b0 : (t115 == (-3)) = true := beq_iff_eq.mpr c6
        have c6b1 : (t115 != (-3)) = false := bne_eq_false_iff_eq.mpr c6
        clear c6
        by_cases c7 : t116 = true
        · subst c7
          have H1 : (if t118 = true then (some false) else ((num_Gcd.f k 12 (-18)).bind fun t119 => (if t119 = 6 then ((num_Times.f 10 1 (-4)).bind fun t120 => (if t120 = 3 then ((num_Last.f 10 1 (-4)).bind fun t121 => (if t121 = 2 then ((num_Times.f 1 0 1).bind fun t122 => (if t122 = 0 then ((num_Last.f 1 0 1).bind fun t123 => (some (t123 == 1))) else (some false))) else (some false))) else (some false))) else (some false)))) = some true := by rw [if_pos rfl] at H; exact H
          clear H
          have H := H1
          clear H1
          by_cases c8 : t118 = true
          · subst c8
            have H1 : (some false) = some true := by rw [if_pos rfl] at H; exact H
            clear H
            have H := H1
            clear H1
            exact absurd H (by simp)
          · replace c8 := Bool.eq_false_iff.mpr c8
            subst c8
            have H1 : ((num_Gcd.f k 12 (-18)).bind fun t119 => (if t119 = 6 then ((num_Times.f 10 1 (-4)).bind fun t120 => (if t120 = 3 then ((num_Last.f 10 1 (-4)).bind fun t121 => (if t121 = 2 then ((num_Times.f 1 0 1).bind fun t122 => (if t122 = 0 then ((num_Last.f 1 0 1).bind fun t123 => (some (t123 == 1))) else (some false))) else (some false))) else (some false))) else (some false))) = some true := by rw [if_neg (show ¬ (false = true) by decide)] at H; exact H
            clear H
            have H := H1
            clear H1
            replace H := Option.bind_eq_some_iff.mp H
            obtain ⟨t119, A90, H⟩ := H
            replace H : (if t119 = 6 then ((num_Times.f 10 1 (-4)).bind fun t120 => (if t120 = 3 then ((num_Last.f 10 1 (-4)).bind fun t121 => (if t121 = 2 then ((num_Times.f 1 0 1).bind fun t122 => (if t122 = 0 then ((num_Last.f 1 0 1).bind fun t123 => (some (t123 == 1))) else (some false))) else (some false))) else (some false))) else (some false)) = some true := H
            have A9 := Aside0.mk A90
            clear A90
            by_cases c10 : t119 = 6
            · rw [if_pos c10] at H
              have c10b0 : (t119 == 6) = true := beq_iff_eq.mpr c10
              have c10b1 : (t119 != 6) = false := bne_eq_false_iff_eq.mpr c10
              clear c10
              replace H := Option.bind_eq_some_iff.mp H
              obtain ⟨t120, A110, H⟩ := H
              replace H : (if t120 = 3 then ((num_Last.f 10 1 (-4)).bind fun t121 => (if t121 = 2 then ((num_Times.f 1 0 1).bind fun t122 => (if t122 = 0 then ((num_Last.f 1 0 1).bind fun t123 => (some (t123 == 1))) else (some false))) else (some false))) else (some false)) = some true := H
              have A11 := Aside0.mk A110
              clear A110
              by_cases c12 : t120 = 3
              · rw [if_pos c12] at H
                have c12b0 : (t120 == 3) = true := beq_iff_eq.mpr c12
                have c12b1 : (t120 != 3) = false := bne_eq_false_iff_eq.mpr c12
                clear c12
                replace H := Option.bind_eq_some_iff.mp H
                obtain ⟨t121, A130, H⟩ := H
                replace H : (if t121 = 2 then ((num_Times.f 1 0 1).bind fun t122 => (if t122 = 0 then ((num_Last.f 1 0 1).bind fun t123 => (some (t123 == 1))) else (some false))) else (some false)) = some true := H
                have A13 := Aside0.mk A130
                clear A130
                by_cases c14 : t121 = 2
                · rw [if_pos c14] at H
                  have c14b0 : (t121 == 2) = true := beq_iff_eq.mpr c14
                  have c14b1 : (t121 != 2) = false := bne_eq_false_iff_eq.mpr c14
                  clear c14
                  replace H := Option.bind_eq_some_iff.mp H
                  obtain ⟨t122, A150, H⟩ := H
                  replace H : (if t122 = 0 then ((num_Last.f 1 0 1).bind fun t123 => (some (t123 == 1))) else (some false)) = some true := H
                  have A15 := Aside0.mk A150
                  clear A150
                  by_cases c16 : t122 = 0
                  · rw [if_pos c16] at H
                    have c16b0 : (t122 == 0) = true := beq_iff_eq.mpr c16
                    have c16b1 : (t122 != 0) = false := bne_eq_false_iff_eq.mpr c16
                    clear c16
                    replace H := Option.bind_eq_some_iff.mp H
                    obtain ⟨t123, A170, H⟩ := H
                    replace H : (some (t123 == 1)) = some true := H
                    have A17 := Aside0.mk A170
                    clear A170
                    have HT := Aside0.mk (Option.some.inj H)
                    clear H
                    go_enter Try.func9, Try.ntmps9
                    go_wp2_with (first | ((with_reducible refine gate_callee (f := 14) rfl ?_); refine goesL_ (some 8) rfl rfl Try.func14 (by kernel_rfl) rfl #[.int .i64 (-7), .int .i64 2] rfl (by (try simp only [List.map_toArray, List.map_cons, List.map_nil]); first | done | rfl | (simp only [List.length_drop, List.length_take]; rfl)) ?_; (with_reducible refine (num_Floor.calls k (-7) 2 t113 true _ A1.out).mono ?_); rintro e w' ⟨rfl, ⟨nd, rfl⟩⟩; refine ⟨_, rfl, ?_⟩) | ((with_reducible refine gate_callee (f := 15) rfl ?_); refine goesL_ (some 12) rfl rfl Try.func15 (by kernel_rfl) rfl #[.int .i64 (-7), .int .i64 2] rfl (by (try simp only [List.map_toArray, List.map_cons, List.map_nil]); first | done | rfl | (simp only [List.length_drop, List.length_take]; rfl)) ?_; (with_reducible refine (num_Ceil.calls k (-7) 2 t115 true _ A2.out).mono ?_); rintro e w' ⟨rfl, ⟨nd, rfl⟩⟩; refine ⟨_, rfl, ?_⟩) | ((with_reducible refine gate_callee (f := 17) rfl ?_); refine goesL_ (some 16) rfl rfl Try.func17 (by kernel_rfl) rfl #[.int .i64 9223372036854775807, .int .i64 1] rfl (by (try simp only [List.map_toArray, List.map_cons, List.map_nil]); first | done | rfl | (simp only [List.length_drop, List.length_take]; rfl)) ?_; (with_reducible refine (num_Add.calls 9223372036854775807 1 t117 false _ A3.out).mono ?_); rintro e w' ⟨rfl, ⟨nd, rfl⟩⟩; refine ⟨_, rfl, ?_⟩) | (go_at_call 16; (with_reducible refine (num_Gcd.calls k 12 (-18) t119 _ A9.out).mono ?_); rintro e w' ⟨rfl, ⟨nd, rfl⟩⟩) | (go_at_call 10; (with_reducible refine (num_Times.calls 10 1 (-4) t120 _ A11.out).mono ?_); rintro e w' ⟨rfl, ⟨nd, rfl⟩⟩) | (go_at_call 12; (with_reducible refine (num_Last.calls 10 1 (-4) t121 _ A13.out).mono ?_); rintro e w' ⟨rfl, ⟨nd, rfl⟩⟩) | (go_at_call 10; (with_reducible refine (num_Times.calls 1 0 1 t122 _ A15.out).mono ?_); rintro e w' ⟨rfl, ⟨nd, rfl⟩⟩) | (go_at_call 12; (with_reducible refine (num_Last.calls 1 0 1 t123 _ A17.out).mono ?_); rintro e w' ⟨rfl, ⟨nd, rfl⟩⟩))
                    go_ret
                    exact ⟨by first | rfl | (exact congrArg (fun b_ => Ending.returned (Value.bool b_)) HT.out) | (rw [show _ = _ from HT.out]) | (simp [HT.out]; done) | (simp [show _ = _ from HT.out]; done) | (simp; done) | (simp [*]; done), by repeat (first | exact Drawn0.refl _ | apply Drawn0.step)⟩
                  · rw [if_neg c16] at H
                    have c16b0 : (t122 == 0) = false := beq_eq_false_iff_ne.mpr c16
                    have c16b1 : (t122 != 0) = true := bne_iff_ne.mpr c16
                    exact absurd H (by simp)
                · rw [if_neg c14] at H
                  have c14b0 : (t121 == 2) = false := beq_eq_false_iff_ne.mpr c14
                  have c14b1 : (t121 != 2) = true := bne_iff_ne.mpr c14
                  exact absurd H (by simp)
              · rw [if_neg c12] at H
                have c12b0 : (t120 == 3) = false := beq_eq_false_iff_ne.mpr c12
                have c12b1 : (t120 != 3) = true := bne_iff_ne.mpr c12
                exact absurd H (by simp)
            · rw [if_neg c10] at H
              have c10b0 : (t119 == 6) = false := beq_eq_false_iff_ne.mpr c10
              have c10b1 : (t119 != 6) = true := bne_iff_ne.mpr c10
              exact absurd H (by simp)
        · replace c7 := Bool.eq_false_iff.mpr c7
          subst c7
          have H1 : (some false) = some true := by rw [if_neg (show ¬ (false = true) by decide)] at H; exact H
          clear H
          have H := H1
          clear H1
          exact absurd H (by simp)
      · rw [if_neg c6] at H
        have c6b0 : (t115 == (-3)) = false := beq_eq_false_iff_ne.mpr c6
        have c6b1 : (t115 != (-3)) = true := bne_iff_ne.mpr c6
        exact absurd H (by simp)
    · replace c5 := Bool.eq_false_iff.mpr c5
      subst c5
      have H1 : (some false) = some true := by rw [if_neg (show ¬ (false = true) by decide)] at H; exact H
      clear H
      have H := H1
      clear H1
      exact absurd H (by simp)
  · rw [if_neg c4] at H
    have c4b0 : (t113 == (-4)) = false := beq_eq_false_iff_ne.mpr c4
    have c4b1 : (t113 != (-4)) = true := bne_iff_ne.mpr c4
    exact absurd H (by simp)

/-! ### num_Sub: function 18 -/
def num_Sub.f (a0 : Int) (a1 : Int) : Option (Int × Bool) := if ((decide (a0 < 0)) != (decide (a1 < 0))) = true then (if ((decide ((wrap64 (a0 - a1)) < 0)) != (decide (a0 < 0))) = true then (some (0, false)) else (some (wrap64 (a0 - a1), true))) else (some (wrap64 (a0 - a1), true))
set_option maxHeartbeats 8000000 in
set_option maxRecDepth 100000 in
theorem num_Sub.calls (a0 : Int) (a1 : Int) (r1 : Int) (r2 : Bool) (w : World) (h : num_Sub.f a0 a1 = some (r1, r2)) :
    Calls Try.prog 18 #[.int .i64 a0, .int .i64 a1] w fun e w' => e = .returned (.tuple #[.int .i64 r1, .bool r2]) ∧ Drawn0 w w' := by
  have H : (if ((decide (a0 < 0)) != (decide (a1 < 0))) = true then (if ((decide ((wrap64 (a0 - a1)) < 0)) != (decide (a0 < 0))) = true then (some (0, false)) else (some (wrap64 (a0 - a1), true))) else (some (wrap64 (a0 - a1), true))) = some (r1, r2) := h
  clear h
  by_cases c3 : ((decide (a0 < 0)) != (decide (a1 < 0))) = true
  · rw [if_pos c3] at H
    have c3b0 : ((decide (a0 < 0)) != (decide (a1 < 0))) = true := c3
    (try (have c3b1 : decide ((decide (a0 < 0)) = (decide (a1 < 0))) = false := by (revert c3; generalize ((decide (a0 < 0))) = p_; generalize ((decide (a1 < 0))) = q_; revert p_ q_; decide)))
    (try (have c3b2 : ((decide (a0 < 0)) == (decide (a1 < 0))) = false := by (revert c3; generalize ((decide (a0 < 0))) = p_; generalize ((decide (a1 < 0))) = q_; revert p_ q_; decide)))
    (try (have c3b3 : ¬ ((decide (a0 < 0)) = (decide (a1 < 0))) := by (revert c3; generalize ((decide (a0 < 0))) = p_; generalize ((decide (a1 < 0))) = q_; revert p_ q_; decide)))
    clear c3
    by_cases c4 : ((decide ((wrap64 (a0 - a1)) < 0)) != (decide (a0 < 0))) = true
    · rw [if_pos c4] at H
      have c4b0 : ((decide ((wrap64 (a0 - a1)) < 0)) != (decide (a0 < 0))) = true := c4
      (try (have c4b1 : decide ((decide ((wrap64 (a0 - a1)) < 0)) = (decide (a0 < 0))) = false := by (revert c4; generalize ((decide ((wrap64 (a0 - a1)) < 0))) = p_; generalize ((decide (a0 < 0))) = q_; revert p_ q_; decide)))
      (try (have c4b2 : ((decide ((wrap64 (a0 - a1)) < 0)) == (decide (a0 < 0))) = false := by (revert c4; generalize ((decide ((wrap64 (a0 - a1)) < 0))) = p_; generalize ((decide (a0 < 0))) = q_; revert p_ q_; decide)))
      (try (have c4b3 : ¬ ((decide ((wrap64 (a0 - a1)) < 0)) = (decide (a0 < 0))) := by (revert c4; generalize ((decide ((wrap64 (a0 - a1)) < 0))) = p_; generalize ((decide (a0 < 0))) = q_; revert p_ q_; decide)))
      clear c4
      simp only [Option.some.injEq, Prod.mk.injEq] at H
      obtain ⟨rfl, rfl⟩ := H
      go_enter Try.func18, Try.ntmps18
      go_wp2
      all_goals (try (exfalso; rename_i h_; rw [c3b2] at h_; revert h_; decide))
      all_goals (try (exfalso; rename_i h_; rw [c4b2] at h_; revert h_; decide))
      go_ret2
      exact ⟨by first | rfl | (simp; done) | (simp [*]; done), by repeat (first | exact Drawn0.refl _ | apply Drawn0.step)⟩
    · rw [if_neg c4] at H
      have c4b0 : ((decide ((wrap64 (a0 - a1)) < 0)) != (decide (a0 < 0))) = false := by simpa using c4
      (try (have c4b1 : decide ((decide ((wrap64 (a0 - a1)) < 0)) = (decide (a0 < 0))) = true := by (revert c4; generalize ((decide ((wrap64 (a0 - a1)) < 0))) = p_; generalize ((decide (a0 < 0))) = q_; revert p_ q_; decide)))
      (try (have c4b2 : ((decide ((wrap64 (a0 - a1)) < 0)) == (decide (a0 < 0))) = true := by (revert c4; generalize ((decide ((wrap64 (a0 - a1)) < 0))) = p_; generalize ((decide (a0 < 0))) = q_; revert p_ q_; decide)))
      clear c4
      simp only [Option.some.injEq, Prod.mk.injEq] at H
      obtain ⟨rfl, rfl⟩ := H
      go_enter Try.func18, Try.ntmps18
      go_wp2
      all_goals (try (exfalso; rename_i h_; rw [c3b2] at h_; revert h_; decide))
      all_goals (try (exfalso; rename_i h_; rw [c4b2] at h_; revert h_; decide))
      go_ret2
      exact ⟨by first | rfl | (simp; done) | (simp [*]; done), by repeat (first | exact Drawn0.refl _ | apply Drawn0.step)⟩
  · rw [if_neg c3] at H
    have c3b0 : ((decide (a0 < 0)) != (decide (a1 < 0))) = false := by simpa using c3
    (try (have c3b1 : decide ((decide (a0 < 0)) = (decide (a1 < 0))) = true := by (revert c3; generalize ((decide (a0 < 0))) = p_; generalize ((decide (a1 < 0))) = q_; revert p_ q_; decide)))
    (try (have c3b2 : ((decide (a0 < 0)) == (decide (a1 < 0))) = true := by (revert c3; generalize ((decide (a0 < 0))) = p_; generalize ((decide (a1 < 0))) = q_; revert p_ q_; decide)))
    clear c3
    simp only [Option.some.injEq, Prod.mk.injEq] at H
    obtain ⟨rfl, rfl⟩ := H
    go_enter Try.func18, Try.ntmps18
    go_wp2
    all_goals (try (exfalso; rename_i h_; rw [c3b2] at h_; revert h_; decide))
    go_ret2
    exact ⟨by first | rfl | (simp; done) | (simp [*]; done), by repeat (first | exact Drawn0.refl _ | apply Drawn0.step)⟩

/-! ### bits_Mul64: function 29 -/
def bits_Mul64.f (a0 : Int) (a1 : Int) : Option (Int × Int) := some (IntKind.u64.wrap ((IntKind.u64.wrap ((IntKind.u64.wrap ((a0 / 4294967296) * (a1 / 4294967296))) + ((IntKind.u64.wrap ((IntKind.u64.wrap ((a0 / 4294967296) * (Go.bits .and .u64 a1 4294967295))) + ((IntKind.u64.wrap ((Go.bits .and .u64 a0 4294967295) * (Go.bits .and .u64 a1 4294967295))) / 4294967296))) / 4294967296))) + ((IntKind.u64.wrap ((Go.bits .and .u64 (IntKind.u64.wrap ((IntKind.u64.wrap ((a0 / 4294967296) * (Go.bits .and .u64 a1 4294967295))) + ((IntKind.u64.wrap ((Go.bits .and .u64 a0 4294967295) * (Go.bits .and .u64 a1 4294967295))) / 4294967296))) 4294967295) + (IntKind.u64.wrap ((Go.bits .and .u64 a0 4294967295) * (a1 / 4294967296))))) / 4294967296)), IntKind.u64.wrap (a0 * a1))
set_option maxHeartbeats 8000000 in
set_option maxRecDepth 100000 in
theorem bits_Mul64.calls (a0 : Int) (a1 : Int) (r1 : Int) (r2 : Int) (w : World) (h : bits_Mul64.f a0 a1 = some (r1, r2)) :
    Calls Try.prog 29 #[.int .u64 a0, .int .u64 a1] w fun e w' => e = .returned (.tuple #[.int .u64 r1, .int .u64 r2]) ∧ Drawn0 w w' := by
  have H : (some (IntKind.u64.wrap ((IntKind.u64.wrap ((IntKind.u64.wrap ((a0 / 4294967296) * (a1 / 4294967296))) + ((IntKind.u64.wrap ((IntKind.u64.wrap ((a0 / 4294967296) * (Go.bits .and .u64 a1 4294967295))) + ((IntKind.u64.wrap ((Go.bits .and .u64 a0 4294967295) * (Go.bits .and .u64 a1 4294967295))) / 4294967296))) / 4294967296))) + ((IntKind.u64.wrap ((Go.bits .and .u64 (IntKind.u64.wrap ((IntKind.u64.wrap ((a0 / 4294967296) * (Go.bits .and .u64 a1 4294967295))) + ((IntKind.u64.wrap ((Go.bits .and .u64 a0 4294967295) * (Go.bits .and .u64 a1 4294967295))) / 4294967296))) 4294967295) + (IntKind.u64.wrap ((Go.bits .and .u64 a0 4294967295) * (a1 / 4294967296))))) / 4294967296)), IntKind.u64.wrap (a0 * a1))) = some (r1, r2) := h
  clear h
  simp only [Option.some.injEq, Prod.mk.injEq] at H
  obtain ⟨rfl, rfl⟩ := H
  go_enter Try.func29, Try.ntmps29
  go_wp2
  go_ret2
  exact ⟨by first | rfl | (simp; done) | (simp [*]; done), by repeat (first | exact Drawn0.refl _ | apply Drawn0.step)⟩

end Go.Proofs.Ytfjfgcnbokefbaa.X
