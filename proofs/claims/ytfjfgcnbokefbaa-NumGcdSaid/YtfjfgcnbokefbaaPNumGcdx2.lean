-- PRINTED BY print.sh 35421559b90ae4d0a3588c463048766b98c2df88dd9212a6774a882060cdf62d: not written by this session
import Derived.Test.YtfjfgcnbokefbaaPNumGcdx0
import Derived.Test.YtfjfgcnbokefbaaPNumGcdx1
namespace Go.Proofs.Ytfjfgcnbokefbaa.PNumGcd
open Go.RowKit Go.Proofs.YtfjfgcnbokefbaaW.PrintWords Go.Proofs.YtfjfgcnbokefbaaW.PrintLast Go.Proofs.YtfjfgcnbokefbaaW.PrintMore
attribute [local go_sem] max2_int min2_int max_two min_two max_three min_three max_four min_four   -- for this text's walks alone
set_option linter.unusedVariables false
set_option linter.unusedSimpArgs false

/-! ### furrowlaw1_NumGcd: function 6 -/
mutual
def furrowlaw1_NumGcd.j0 : Nat → Int → Int → Int → Bool → Option (Bool)
  | 0, _, _, _, _ => none
  | k + 1, x5, x6, x7, x23 => if x23 = true then (some (x7 == 0)) else (if x7 = 0 then (furrowlaw1_NumGcd.j1 k x5 x6 x7 true) else (if (wrap64 (x7)) = 0 then (none) else (if (Int.tmod x5 (wrap64 (x7))) = 0 then (if (Int.tmod x6 (wrap64 (x7))) = 0 then ((num_Gcd.f k x6 x5).bind fun t126 => (furrowlaw1_NumGcd.j1 k x5 x6 x7 (t126 != x7))) else (furrowlaw1_NumGcd.j1 k x5 x6 x7 true)) else (furrowlaw1_NumGcd.j1 k x5 x6 x7 true))))
def furrowlaw1_NumGcd.j1 : Nat → Int → Int → Int → Bool → Option (Bool)
  | 0, _, _, _, _ => none
  | k + 1, x5, x6, x7, x48 => if x48 = true then (some false) else (if x5 = 0 then (some true) else (if x5 < 0 then ((num_Gcd.f k x5 (wrap64 (x5 * (Int.tmod x6 1000)))).bind fun t127 => (if t127 = (IntKind.u64.wrap (wrap64 (-x5))) then (if (wrap64 (x7)) = 0 then (none) else ((num_Gcd.f k (wrap64 (Int.tdiv x5 (wrap64 (x7)))) (wrap64 (Int.tdiv x6 (wrap64 (x7))))).bind fun t128 => (some (t128 == 1)))) else (some false))) else ((num_Gcd.f k x5 (wrap64 (x5 * (Int.tmod x6 1000)))).bind fun t129 => (if t129 = (IntKind.u64.wrap (x5)) then (if (wrap64 (x7)) = 0 then (none) else ((num_Gcd.f k (wrap64 (Int.tdiv x5 (wrap64 (x7)))) (wrap64 (Int.tdiv x6 (wrap64 (x7))))).bind fun t130 => (some (t130 == 1)))) else (some false)))))
end
def furrowlaw1_NumGcd.f (k : Nat) (a0 : Int) (a1 : Int) : Option (Bool) := (furrowlaw1_known.f k).bind fun t124 => (if t124 = true then ((num_Gcd.f k (wrap64 (a0)) (wrap64 (a1))).bind fun t125 => (if a0 = 0 then (furrowlaw1_NumGcd.j0 k (wrap64 (a0)) (wrap64 (a1)) t125 (a1 == 0)) else (furrowlaw1_NumGcd.j0 k (wrap64 (a0)) (wrap64 (a1)) t125 false))) else (some false))
theorem furrowlaw1_NumGcd.mono_l : ∀ k, (∀ y0 y1 y2 y3, LeO (furrowlaw1_NumGcd.j0 k y0 y1 y2 y3) (furrowlaw1_NumGcd.j0 (k + 1) y0 y1 y2 y3)) ∧ (∀ y0 y1 y2 y3, LeO (furrowlaw1_NumGcd.j1 k y0 y1 y2 y3) (furrowlaw1_NumGcd.j1 (k + 1) y0 y1 y2 y3))
  | 0 => ⟨fun _ _ _ _ r h => by simp [furrowlaw1_NumGcd.j0] at h, fun _ _ _ _ r h => by simp [furrowlaw1_NumGcd.j1] at h⟩
  | k + 1 => by
    obtain ⟨ih0, ih1⟩ := furrowlaw1_NumGcd.mono_l k
    refine ⟨?_, ?_⟩
    · intro y0 y1 y2 y3
      unfold furrowlaw1_NumGcd.j0
      repeat' first
      | (with_reducible exact ih0 _ _ _ _)
      | (with_reducible exact ih1 _ _ _ _)
      | (with_reducible exact furrowlaw1_known.mono _)
      | (with_reducible exact num_Gcd.mono _ _ _)
      | (with_reducible exact LeO.refl _)
      | (with_reducible exact LeO.none _)
      | (with_reducible refine LeO.ite ?_ ?_)
      | (with_reducible refine LeO.bind ?_ (fun _ => ?_))
      | exact ih0 _ _ _ _
      | exact ih1 _ _ _ _
      | exact furrowlaw1_known.mono _
      | exact num_Gcd.mono _ _ _
      | exact LeO.none _
      | refine LeO.ite ?_ ?_
      | refine LeO.bind ?_ (fun _ => ?_)
    · intro y0 y1 y2 y3
      unfold furrowlaw1_NumGcd.j1
      repeat' first
      | (with_reducible exact ih0 _ _ _ _)
      | (with_reducible exact ih1 _ _ _ _)
      | (with_reducible exact furrowlaw1_known.mono _)
      | (with_reducible exact num_Gcd.mono _ _ _)
      | (with_reducible exact LeO.refl _)
      | (with_reducible exact LeO.none _)
      | (with_reducible refine LeO.ite ?_ ?_)
      | (with_reducible refine LeO.bind ?_ (fun _ => ?_))
      | exact ih0 _ _ _ _
      | exact ih1 _ _ _ _
      | exact furrowlaw1_known.mono _
      | exact num_Gcd.mono _ _ _
      | exact LeO.none _
      | refine LeO.ite ?_ ?_
      | refine LeO.bind ?_ (fun _ => ?_)
theorem furrowlaw1_NumGcd.mono : ∀ a0 a1 k, LeO (furrowlaw1_NumGcd.f k a0 a1) (furrowlaw1_NumGcd.f (k + 1) a0 a1) := by
  intro a0 a1 k
  obtain ⟨ih0, ih1⟩ := furrowlaw1_NumGcd.mono_l k
  unfold furrowlaw1_NumGcd.f
  repeat' first
      | (with_reducible exact ih0 _ _ _ _)
      | (with_reducible exact ih1 _ _ _ _)
      | (with_reducible exact furrowlaw1_known.mono _)
      | (with_reducible exact num_Gcd.mono _ _ _)
      | (with_reducible exact LeO.refl _)
      | (with_reducible exact LeO.none _)
      | (with_reducible refine LeO.ite ?_ ?_)
      | (with_reducible refine LeO.bind ?_ (fun _ => ?_))
      | exact ih0 _ _ _ _
      | exact ih1 _ _ _ _
      | exact furrowlaw1_known.mono _
      | exact num_Gcd.mono _ _ _
      | exact LeO.none _
      | refine LeO.ite ?_ ?_
      | refine LeO.bind ?_ (fun _ => ?_)
set_option maxHeartbeats 8000000 in
set_option maxRecDepth 100000 in
theorem furrowlaw1_NumGcd.calls (k : Nat) (a0 : Int) (a1 : Int) (r : Bool) (w : World) (h : furrowlaw1_NumGcd.f k a0 a1 = some r) :
    Calls Try.prog 6 #[.int .i32 a0, .int .i32 a1] w fun e w' => e = .returned (.bool r) ∧ Drawn0 w w' := by
  have H : ((furrowlaw1_known.f k).bind fun t124 => (if t124 = true then ((num_Gcd.f k (wrap64 (a0)) (wrap64 (a1))).bind fun t125 => (if a0 = 0 then (furrowlaw1_NumGcd.j0 k (wrap64 (a0)) (wrap64 (a1)) t125 (a1 == 0)) else (furrowlaw1_NumGcd.j0 k (wrap64 (a0)) (wrap64 (a1)) t125 false))) else (some false))) = some r := h
  clear h
  replace H := Option.bind_eq_some_iff.mp H
  obtain ⟨t124, A30, H⟩ := H
  replace H : (if t124 = true then ((num_Gcd.f k (wrap64 (a0)) (wrap64 (a1))).bind fun t125 => (if a0 = 0 then (furrowlaw1_NumGcd.j0 k (wrap64 (a0)) (wrap64 (a1)) t125 (a1 == 0)) else (furrowlaw1_NumGcd.j0 k (wrap64 (a0)) (wrap64 (a1)) t125 false))) else (some false)) = some r := H
  have A3 := Aside0.mk A30
  clear A30
  by_cases c4 : t124 = true
  · subst c4
    have H1 : ((num_Gcd.f k (wrap64 (a0)) (wrap64 (a1))).bind fun t125 => (if a0 = 0 then (furrowlaw1_NumGcd.j0 k (wrap64 (a0)) (wrap64 (a1)) t125 (a1 == 0)) else (furrowlaw1_NumGcd.j0 k (wrap64 (a0)) (wrap64 (a1)) t125 false))) = some r := by rw [if_pos rfl] at H; exact H
    clear H
    have H := H1
    clear H1
    replace H := Option.bind_eq_some_iff.mp H
    obtain ⟨t125, A50, H⟩ := H
    replace H : (if a0 = 0 then (furrowlaw1_NumGcd.j0 k (wrap64 (a0)) (wrap64 (a1)) t125 (a1 == 0)) else (furrowlaw1_NumGcd.j0 k (wrap64 (a0)) (wrap64 (a1)) t125 false)) = some r := H
    have A5 := Aside0.mk A50
    clear A50
    have HC6 := Aside0.mk H
    clear H
    go_enter Try.func6, Try.ntmps6
    go_upto_region 6 with (first | (go_at_call 9; (with_reducible refine (furrowlaw1_known.calls k  true _ A3.out).mono ?_); rintro e w' ⟨rfl, ⟨nd, rfl⟩⟩; (try first | exact ⟨rfl, _, World.drewN_drewN _ _ _⟩ | exact ⟨rfl, _, Eq.trans (World.drewN_drewN _ _ _) (congrArg (World.drewN _) (Nat.add_assoc _ _ _))⟩)) | (go_at_call 16; (with_reducible refine (num_Gcd.calls k (wrap64 (a0)) (wrap64 (a1)) t125 _ A5.out).mono ?_); rintro e w' ⟨rfl, ⟨nd, rfl⟩⟩; (try first | exact ⟨rfl, _, World.drewN_drewN _ _ _⟩ | exact ⟨rfl, _, Eq.trans (World.drewN_drewN _ _ _) (congrArg (World.drewN _) (Nat.add_assoc _ _ _))⟩)))
    repeat (go_quiet (first | (go_at_call 9; (with_reducible refine (furrowlaw1_known.calls k  true _ A3.out).mono ?_); rintro e w' ⟨rfl, ⟨nd, rfl⟩⟩; (try first | exact ⟨rfl, _, World.drewN_drewN _ _ _⟩ | exact ⟨rfl, _, Eq.trans (World.drewN_drewN _ _ _) (congrArg (World.drewN _) (Nat.add_assoc _ _ _))⟩)) | (go_at_call 16; (with_reducible refine (num_Gcd.calls k (wrap64 (a0)) (wrap64 (a1)) t125 _ A5.out).mono ?_); rintro e w' ⟨rfl, ⟨nd, rfl⟩⟩; (try first | exact ⟨rfl, _, World.drewN_drewN _ _ _⟩ | exact ⟨rfl, _, Eq.trans (World.drewN_drewN _ _ _) (congrArg (World.drewN _) (Nat.add_assoc _ _ _))⟩))); go_upto_region 6 with (first | (go_at_call 9; (with_reducible refine (furrowlaw1_known.calls k  true _ A3.out).mono ?_); rintro e w' ⟨rfl, ⟨nd, rfl⟩⟩; (try first | exact ⟨rfl, _, World.drewN_drewN _ _ _⟩ | exact ⟨rfl, _, Eq.trans (World.drewN_drewN _ _ _) (congrArg (World.drewN _) (Nat.add_assoc _ _ _))⟩)) | (go_at_call 16; (with_reducible refine (num_Gcd.calls k (wrap64 (a0)) (wrap64 (a1)) t125 _ A5.out).mono ?_); rintro e w' ⟨rfl, ⟨nd, rfl⟩⟩; (try first | exact ⟨rfl, _, World.drewN_drewN _ _ _⟩ | exact ⟨rfl, _, Eq.trans (World.drewN_drewN _ _ _) (congrArg (World.drewN _) (Nat.add_assoc _ _ _))⟩))))
    (try simp only [Act.put, List.setIfInBounds_toArray, List.set_cons_zero, List.set_cons_succ])
    go_cut [23] (fun v23 wc => ∃ (kq : Nat) (x23_5 : Bool), v23 = .bool x23_5 ∧ Aside0 (furrowlaw1_NumGcd.j0 kq (wrap64 (a0)) (wrap64 (a1)) t125 x23_5 = some r) ∧ Aside0 (kq ≤ k) ∧ Drawn0 w wc)
    case first =>
      have H := HC6.out
      clear HC6
      by_cases c7 : a0 = 0
      · rw [if_pos c7] at H
        have c7b0 : (a0 == 0) = true := beq_iff_eq.mpr c7
        have c7b1 : (a0 != 0) = false := bne_eq_false_iff_eq.mpr c7
        clear c7
        (first | rw [c7b0] | (simp only [i64_w, i32_w]; rw [c7b0]) | skip)
        have H' := Aside0.mk H
        clear H
        go_wp2
        repeat (go_quiet (fail); try go_wp2)
        go_meet
        case rel => exact ⟨_, ((a1 == 0)), (by first | rfl | (simp; done) | (simp [*]; done)), H', ⟨by first | omega | exact Nat.le_refl _⟩, by repeat (first | exact Drawn0.refl _ | apply Drawn0.step)⟩
      · rw [if_neg c7] at H
        have c7b0 : (a0 == 0) = false := beq_eq_false_iff_ne.mpr c7
        have c7b1 : (a0 != 0) = true := bne_iff_ne.mpr c7
        (first | rw [c7b0] | (simp only [i64_w, i32_w]; rw [c7b0]) | skip)
        have H' := Aside0.mk H
        clear H
        go_wp2
        repeat (go_quiet (fail); try go_wp2)
        go_meet
        case rel => exact ⟨_, (false), (by first | rfl | (simp; done) | (simp [*]; done)), H', ⟨by first | omega | exact Nat.le_refl _⟩, by repeat (first | exact Drawn0.refl _ | apply Drawn0.step)⟩
    case rest =>
      clear HC6
      try clear p2
      try clear c4
      try clear c6
      try clear p6
      try clear c7
      try clear c7b0
      try clear c7b1
      obtain ⟨kq, x23_5, rfl, HA, HJ5, ⟨mc5, rfl⟩⟩ := hcut
      cases kq with
      | zero => exact absurd HA.out (by simp [furrowlaw1_NumGcd.j0])
      | succ kj5 =>
        have H := HA.out
        clear HA
        simp only [furrowlaw1_NumGcd.j0] at H
        by_cases c8 : x23_5 = true
        · subst c8
          have H1 : (some (t125 == 0)) = some r := by rw [if_pos rfl] at H; exact H
          clear H
          have H := H1
          clear H1
          obtain rfl := Option.some.inj H
          go_wp2
          repeat (go_quiet (fail); try go_wp2)
          go_ret
          exact ⟨by first | rfl | (simp; done) | (simp [*]; done), by repeat (first | exact Drawn0.refl _ | apply Drawn0.step)⟩
        · replace c8 := Bool.eq_false_iff.mpr c8
          subst c8
          have H1 : (if t125 = 0 then (furrowlaw1_NumGcd.j1 kj5 (wrap64 (a0)) (wrap64 (a1)) t125 true) else (if (wrap64 (t125)) = 0 then (none) else (if (Int.tmod (wrap64 (a0)) (wrap64 (t125))) = 0 then (if (Int.tmod (wrap64 (a1)) (wrap64 (t125))) = 0 then ((num_Gcd.f kj5 (wrap64 (a1)) (wrap64 (a0))).bind fun t126 => (furrowlaw1_NumGcd.j1 kj5 (wrap64 (a0)) (wrap64 (a1)) t125 (t126 != t125))) else (furrowlaw1_NumGcd.j1 kj5 (wrap64 (a0)) (wrap64 (a1)) t125 true)) else (furrowlaw1_NumGcd.j1 kj5 (wrap64 (a0)) (wrap64 (a1)) t125 true)))) = some r := by rw [if_neg (show ¬ (false = true) by decide)] at H; exact H
          clear H
          have H := H1
          clear H1
          have HC9 := Aside0.mk H
          clear H
          go_upto_region 8 with (fail)
          repeat (go_quiet (fail); go_upto_region 8 with (fail))
          go_cut [48] (fun v48 wc => ∃ (kq : Nat) (x48_8 : Bool), v48 = .bool x48_8 ∧ Aside0 (furrowlaw1_NumGcd.j1 kq (wrap64 (a0)) (wrap64 (a1)) t125 x48_8 = some r) ∧ Aside0 (kq ≤ kj5) ∧ Drawn0 w wc)
          case first =>
            have H := HC9.out
            clear HC9
            by_cases c10 : t125 = 0
            · rw [if_pos c10] at H
              have c10b0 : (t125 == 0) = true := beq_iff_eq.mpr c10
              have c10b1 : (t125 != 0) = false := bne_eq_false_iff_eq.mpr c10
              clear c10
              (first | rw [c10b0] | (simp only [i64_w, i32_w]; rw [c10b0]) | skip)
              have H' := Aside0.mk H
              clear H
              go_wp2
              repeat (go_quiet (fail); try go_wp2)
              go_meet
              case rel => exact ⟨_, (true), (by first | rfl | (simp; done) | (simp [*]; done)), H', ⟨by have := HJ5.out; first | omega | exact Nat.le_refl _⟩, by repeat (first | exact Drawn0.refl _ | apply Drawn0.step)⟩
            · rw [if_neg c10] at H
              have c10b0 : (t125 == 0) = false := beq_eq_false_iff_ne.mpr c10
              have c10b1 : (t125 != 0) = true := bne_iff_ne.mpr c10
              (first | rw [c10b0] | (simp only [i64_w, i32_w]; rw [c10b0]) | skip)
              by_cases c11 : (wrap64 (t125)) = 0
              · rw [if_pos c11] at H
                exact absurd H (by simp)
              · rw [if_neg c11] at H
                have c11b0 : ((wrap64 (t125)) == 0) = false := beq_eq_false_iff_ne.mpr c11
                have c11b1 : ((wrap64 (t125)) != 0) = true := bne_iff_ne.mpr c11
                by_cases c12 : (Int.tmod (wrap64 (a0)) (wrap64 (t125))) = 0
                · rw [if_pos c12] at H
                  have c12b0 : ((Int.tmod (wrap64 (a0)) (wrap64 (t125))) == 0) = true := beq_iff_eq.mpr c12
                  have c12b1 : ((Int.tmod (wrap64 (a0)) (wrap64 (t125))) != 0) = false := bne_eq_false_iff_eq.mpr c12
                  clear c12
                  by_cases c13 : (Int.tmod (wrap64 (a1)) (wrap64 (t125))) = 0
                  · rw [if_pos c13] at H
                    have c13b0 : ((Int.tmod (wrap64 (a1)) (wrap64 (t125))) == 0) = true := beq_iff_eq.mpr c13
                    have c13b1 : ((Int.tmod (wrap64 (a1)) (wrap64 (t125))) != 0) = false := bne_eq_false_iff_eq.mpr c13
                    clear c13
                    replace H := Option.bind_eq_some_iff.mp H
                    obtain ⟨t126, A140, H⟩ := H
                    replace H : (furrowlaw1_NumGcd.j1 kj5 (wrap64 (a0)) (wrap64 (a1)) t125 (t126 != t125)) = some r := H
                    have A14 := Aside0.mk A140
                    clear A140
                    have H' := Aside0.mk H
                    clear H
                    go_wp2_with (first | (go_at_call 16; (with_reducible refine (num_Gcd.calls kj5 (wrap64 (a1)) (wrap64 (a0)) t126 _ A14.out).mono ?_); rintro e w' ⟨rfl, ⟨nd, rfl⟩⟩; (try first | exact ⟨rfl, _, World.drewN_drewN _ _ _⟩ | exact ⟨rfl, _, Eq.trans (World.drewN_drewN _ _ _) (congrArg (World.drewN _) (Nat.add_assoc _ _ _))⟩)))
                    repeat (go_quiet (first | (go_at_call 16; (with_reducible refine (num_Gcd.calls kj5 (wrap64 (a1)) (wrap64 (a0)) t126 _ A14.out).mono ?_); rintro e w' ⟨rfl, ⟨nd, rfl⟩⟩; (try first | exact ⟨rfl, _, World.drewN_drewN _ _ _⟩ | exact ⟨rfl, _, Eq.trans (World.drewN_drewN _ _ _) (congrArg (World.drewN _) (Nat.add_assoc _ _ _))⟩))); try go_wp2_with (first | (go_at_call 16; (with_reducible refine (num_Gcd.calls kj5 (wrap64 (a1)) (wrap64 (a0)) t126 _ A14.out).mono ?_); rintro e w' ⟨rfl, ⟨nd, rfl⟩⟩; (try first | exact ⟨rfl, _, World.drewN_drewN _ _ _⟩ | exact ⟨rfl, _, Eq.trans (World.drewN_drewN _ _ _) (congrArg (World.drewN _) (Nat.add_assoc _ _ _))⟩))))
                    go_meet
                    case rel => exact ⟨_, ((t126 != t125)), (by first | rfl | (simp; done) | (simp [*]; done)), H', ⟨by have := HJ5.out; first | omega | exact Nat.le_refl _⟩, by repeat (first | exact Drawn0.refl _ | apply Drawn0.step)⟩
                  · rw [if_neg c13] at H
                    have c13b0 : ((Int.tmod (wrap64 (a1)) (wrap64 (t125))) == 0) = false := beq_eq_false_iff_ne.mpr c13
                    have c13b1 : ((Int.tmod (wrap64 (a1)) (wrap64 (t125))) != 0) = true := bne_iff_ne.mpr c13
                    have H' := Aside0.mk H
                    clear H
                    go_wp2
                    repeat (go_quiet (fail); try go_wp2)
                    go_meet
                    case rel => exact ⟨_, (true), (by first | rfl | (simp; done) | (simp [*]; done)), H', ⟨by have := HJ5.out; first | omega | exact Nat.le_refl _⟩, by repeat (first | exact Drawn0.refl _ | apply Drawn0.step)⟩
                · rw [if_neg c12] at H
                  have c12b0 : ((Int.tmod (wrap64 (a0)) (wrap64 (t125))) == 0) = false := beq_eq_false_iff_ne.mpr c12
                  have c12b1 : ((Int.tmod (wrap64 (a0)) (wrap64 (t125))) != 0) = true := bne_iff_ne.mpr c12
                  have H' := Aside0.mk H
                  clear H
                  go_wp2
                  repeat (go_quiet (fail); try go_wp2)
                  go_meet
                  case rel => exact ⟨_, (true), (by first | rfl | (simp; done) | (simp [*]; done)), H', ⟨by have := HJ5.out; first | omega | exact Nat.le_refl _⟩, by repeat (first | exact Drawn0.refl _ | apply Drawn0.step)⟩
          case rest =>
            clear HC9
            try clear c1
            try clear p2
            try clear c4
            try clear c5
            try clear c6
            try clear p6
            try clear c7
            try clear c7b0
            try clear c7b1
            try clear c8
            try clear c10
            try clear c10b0
            try clear c10b1
            try clear c11
            try clear c11b0
            try clear c11b1
            try clear c12
            try clear c12b0
            try clear c12b1
            try clear c13
            try clear c13b0
            try clear c13b1
            try clear p2
            try clear p6
            obtain ⟨kq, x48_8, rfl, HA, HJ8, ⟨mc8, rfl⟩⟩ := hcut
            cases kq with
            | zero => exact absurd HA.out (by simp [furrowlaw1_NumGcd.j1])
            | succ kj8 =>
              have H := HA.out
              clear HA
              simp only [furrowlaw1_NumGcd.j1] at H
              by_cases c15 : x48_8 = true
              · subst c15
                have H1 : (some false) = some r := by rw [if_pos rfl] at H; exact H
                clear H
                have H := H1
                clear H1
                obtain rfl := Option.some.inj H
                go_wp2
                repeat (go_quiet (fail); try go_wp2)
                go_ret
                exact ⟨by first | rfl | (simp; done) | (simp [*]; done), by repeat (first | exact Drawn0.refl _ | apply Drawn0.step)⟩
              · replace c15 := Bool.eq_false_iff.mpr c15
                subst c15
                have H1 : (if (wrap64 (a0)) = 0 then (some true) else (if (wrap64 (a0)) < 0 then ((num_Gcd.f kj8 (wrap64 (a0)) (wrap64 ((wrap64 (a0)) * (Int.tmod (wrap64 (a1)) 1000)))).bind fun t127 => (if t127 = (IntKind.u64.wrap (wrap64 (-(wrap64 (a0))))) then (if (wrap64 (t125)) = 0 then (none) else ((num_Gcd.f kj8 (wrap64 (Int.tdiv (wrap64 (a0)) (wrap64 (t125)))) (wrap64 (Int.tdiv (wrap64 (a1)) (wrap64 (t125))))).bind fun t128 => (some (t128 == 1)))) else (some false))) else ((num_Gcd.f kj8 (wrap64 (a0)) (wrap64 ((wrap64 (a0)) * (Int.tmod (wrap64 (a1)) 1000)))).bind fun t129 => (if t129 = (IntKind.u64.wrap ((wrap64 (a0)))) then (if (wrap64 (t125)) = 0 then (none) else ((num_Gcd.f kj8 (wrap64 (Int.tdiv (wrap64 (a0)) (wrap64 (t125)))) (wrap64 (Int.tdiv (wrap64 (a1)) (wrap64 (t125))))).bind fun t130 => (some (t130 == 1)))) else (some false))))) = some r := by rw [if_neg (show ¬ (false = true) by decide)] at H; exact H
                clear H
                have H := H1
                clear H1
                by_cases c16 : (wrap64 (a0)) = 0
                · rw [if_pos c16] at H
                  have c16b0 : ((wrap64 (a0)) == 0) = true := beq_iff_eq.mpr c16
                  have c16b1 : ((wrap64 (a0)) != 0) = false := bne_eq_false_iff_eq.mpr c16
                  clear c16
                  obtain rfl := Option.some.inj H
                  go_wp2
                  repeat (go_quiet (fail); try go_wp2)
                  go_ret
                  exact ⟨by first | rfl | (simp; done) | (simp [*]; done), by repeat (first | exact Drawn0.refl _ | apply Drawn0.step)⟩
                · rw [if_neg c16] at H
                  have c16b0 : ((wrap64 (a0)) == 0) = false := beq_eq_false_iff_ne.mpr c16
                  have c16b1 : ((wrap64 (a0)) != 0) = true := bne_iff_ne.mpr c16
                  by_cases c17 : (wrap64 (a0)) < 0
                  · rw [if_pos c17] at H
                    have c17b0 : decide ((wrap64 (a0)) < 0) = true := decide_eq_true c17
                    clear c17
                    replace H := Option.bind_eq_some_iff.mp H
                    obtain ⟨t127, A180, H⟩ := H
                    replace H : (if t127 = (IntKind.u64.wrap (wrap64 (-(wrap64 (a0))))) then (if (wrap64 (t125)) = 0 then (none) else ((num_Gcd.f kj8 (wrap64 (Int.tdiv (wrap64 (a0)) (wrap64 (t125)))) (wrap64 (Int.tdiv (wrap64 (a1)) (wrap64 (t125))))).bind fun t128 => (some (t128 == 1)))) else (some false)) = some r := H
                    have A18 := Aside0.mk A180
                    clear A180
                    by_cases c19 : t127 = (IntKind.u64.wrap (wrap64 (-(wrap64 (a0)))))
                    · rw [if_pos c19] at H
                      have c19b0 : (t127 == (IntKind.u64.wrap (wrap64 (-(wrap64 (a0)))))) = true := beq_iff_eq.mpr c19
                      have c19b1 : (t127 != (IntKind.u64.wrap (wrap64 (-(wrap64 (a0)))))) = false := bne_eq_false_iff_eq.mpr c19
                      clear c19
                      by_cases c20 : (wrap64 (t125)) = 0
                      · rw [if_pos c20] at H
                        exact absurd H (by simp)
                      · rw [if_neg c20] at H
                        have c20b0 : ((wrap64 (t125)) == 0) = false := beq_eq_false_iff_ne.mpr c20
                        have c20b1 : ((wrap64 (t125)) != 0) = true := bne_iff_ne.mpr c20
                        replace H := Option.bind_eq_some_iff.mp H
                        obtain ⟨t128, A210, H⟩ := H
                        replace H : (some (t128 == 1)) = some r := H
                        have A21 := Aside0.mk A210
                        clear A210
                        obtain rfl := Option.some.inj H
                        go_wp2_with (first | (go_at_call 16; (with_reducible refine (num_Gcd.calls kj8 (wrap64 (a0)) (wrap64 ((wrap64 (a0)) * (Int.tmod (wrap64 (a1)) 1000))) t127 _ A18.out).mono ?_); rintro e w' ⟨rfl, ⟨nd, rfl⟩⟩; (try first | exact ⟨rfl, _, World.drewN_drewN _ _ _⟩ | exact ⟨rfl, _, Eq.trans (World.drewN_drewN _ _ _) (congrArg (World.drewN _) (Nat.add_assoc _ _ _))⟩)) | (go_at_call 16; (with_reducible refine (num_Gcd.calls kj8 (wrap64 (Int.tdiv (wrap64 (a0)) (wrap64 (t125)))) (wrap64 (Int.tdiv (wrap64 (a1)) (wrap64 (t125)))) t128 _ A21.out).mono ?_); rintro e w' ⟨rfl, ⟨nd, rfl⟩⟩; (try first | exact ⟨rfl, _, World.drewN_drewN _ _ _⟩ | exact ⟨rfl, _, Eq.trans (World.drewN_drewN _ _ _) (congrArg (World.drewN _) (Nat.add_assoc _ _ _))⟩)))
                        repeat (go_quiet (first | (go_at_call 16; (with_reducible refine (num_Gcd.calls kj8 (wrap64 (a0)) (wrap64 ((wrap64 (a0)) * (Int.tmod (wrap64 (a1)) 1000))) t127 _ A18.out).mono ?_); rintro e w' ⟨rfl, ⟨nd, rfl⟩⟩; (try first | exact ⟨rfl, _, World.drewN_drewN _ _ _⟩ | exact ⟨rfl, _, Eq.trans (World.drewN_drewN _ _ _) (congrArg (World.drewN _) (Nat.add_assoc _ _ _))⟩)) | (go_at_call 16; (with_reducible refine (num_Gcd.calls kj8 (wrap64 (Int.tdiv (wrap64 (a0)) (wrap64 (t125)))) (wrap64 (Int.tdiv (wrap64 (a1)) (wrap64 (t125)))) t128 _ A21.out).mono ?_); rintro e w' ⟨rfl, ⟨nd, rfl⟩⟩; (try first | exact ⟨rfl, _, World.drewN_drewN _ _ _⟩ | exact ⟨rfl, _, Eq.trans (World.drewN_drewN _ _ _) (congrArg (World.drewN _) (Nat.add_assoc _ _ _))⟩))); try go_wp2_with (first | (go_at_call 16; (with_reducible refine (num_Gcd.calls kj8 (wrap64 (a0)) (wrap64 ((wrap64 (a0)) * (Int.tmod (wrap64 (a1)) 1000))) t127 _ A18.out).mono ?_); rintro e w' ⟨rfl, ⟨nd, rfl⟩⟩; (try first | exact ⟨rfl, _, World.drewN_drewN _ _ _⟩ | exact ⟨rfl, _, Eq.trans (World.drewN_drewN _ _ _) (congrArg (World.drewN _) (Nat.add_assoc _ _ _))⟩)) | (go_at_call 16; (with_reducible refine (num_Gcd.calls kj8 (wrap64 (Int.tdiv (wrap64 (a0)) (wrap64 (t125)))) (wrap64 (Int.tdiv (wrap64 (a1)) (wrap64 (t125)))) t128 _ A21.out).mono ?_); rintro e w' ⟨rfl, ⟨nd, rfl⟩⟩; (try first | exact ⟨rfl, _, World.drewN_drewN _ _ _⟩ | exact ⟨rfl, _, Eq.trans (World.drewN_drewN _ _ _) (congrArg (World.drewN _) (Nat.add_assoc _ _ _))⟩))))
                        go_ret
                        exact ⟨by first | rfl | (simp; done) | (simp [*]; done), by repeat (first | exact Drawn0.refl _ | apply Drawn0.step)⟩
                    · rw [if_neg c19] at H
                      have c19b0 : (t127 == (IntKind.u64.wrap (wrap64 (-(wrap64 (a0)))))) = false := beq_eq_false_iff_ne.mpr c19
                      have c19b1 : (t127 != (IntKind.u64.wrap (wrap64 (-(wrap64 (a0)))))) = true := bne_iff_ne.mpr c19
                      obtain rfl := Option.some.inj H
                      go_wp2_with (first | (go_at_call 16; (with_reducible refine (num_Gcd.calls kj8 (wrap64 (a0)) (wrap64 ((wrap64 (a0)) * (Int.tmod (wrap64 (a1)) 1000))) t127 _ A18.out).mono ?_); rintro e w' ⟨rfl, ⟨nd, rfl⟩⟩; (try first | exact ⟨rfl, _, World.drewN_drewN _ _ _⟩ | exact ⟨rfl, _, Eq.trans (World.drewN_drewN _ _ _) (congrArg (World.drewN _) (Nat.add_assoc _ _ _))⟩)))
                      repeat (go_quiet (first | (go_at_call 16; (with_reducible refine (num_Gcd.calls kj8 (wrap64 (a0)) (wrap64 ((wrap64 (a0)) * (Int.tmod (wrap64 (a1)) 1000))) t127 _ A18.out).mono ?_); rintro e w' ⟨rfl, ⟨nd, rfl⟩⟩; (try first | exact ⟨rfl, _, World.drewN_drewN _ _ _⟩ | exact ⟨rfl, _, Eq.trans (World.drewN_drewN _ _ _) (congrArg (World.drewN _) (Nat.add_assoc _ _ _))⟩))); try go_wp2_with (first | (go_at_call 16; (with_reducible refine (num_Gcd.calls kj8 (wrap64 (a0)) (wrap64 ((wrap64 (a0)) * (Int.tmod (wrap64 (a1)) 1000))) t127 _ A18.out).mono ?_); rintro e w' ⟨rfl, ⟨nd, rfl⟩⟩; (try first | exact ⟨rfl, _, World.drewN_drewN _ _ _⟩ | exact ⟨rfl, _, Eq.trans (World.drewN_drewN _ _ _) (congrArg (World.drewN _) (Nat.add_assoc _ _ _))⟩))))
                      go_ret
                      exact ⟨by first | rfl | (simp; done) | (simp [*]; done), by repeat (first | exact Drawn0.refl _ | apply Drawn0.step)⟩
                  · rw [if_neg c17] at H
                    have c17b0 : decide ((wrap64 (a0)) < 0) = false := decide_eq_false c17
                    clear c17
                    replace H := Option.bind_eq_some_iff.mp H
                    obtain ⟨t129, A220, H⟩ := H
                    replace H : (if t129 = (IntKind.u64.wrap ((wrap64 (a0)))) then (if (wrap64 (t125)) = 0 then (none) else ((num_Gcd.f kj8 (wrap64 (Int.tdiv (wrap64 (a0)) (wrap64 (t125)))) (wrap64 (Int.tdiv (wrap64 (a1)) (wrap64 (t125))))).bind fun t130 => (some (t130 == 1)))) else (some false)) = some r := H
                    have A22 := Aside0.mk A220
                    clear A220
                    by_cases c23 : t129 = (IntKind.u64.wrap ((wrap64 (a0))))
                    · rw [if_pos c23] at H
                      have c23b0 : (t129 == (IntKind.u64.wrap ((wrap64 (a0))))) = true := beq_iff_eq.mpr c23
                      have c23b1 : (t129 != (IntKind.u64.wrap ((wrap64 (a0))))) = false := bne_eq_false_iff_eq.mpr c23
                      clear c23
                      by_cases c24 : (wrap64 (t125)) = 0
                      · rw [if_pos c24] at H
                        exact absurd H (by simp)
                      · rw [if_neg c24] at H
                        have c24b0 : ((wrap64 (t125)) == 0) = false := beq_eq_false_iff_ne.mpr c24
                        have c24b1 : ((wrap64 (t125)) != 0) = true := bne_iff_ne.mpr c24
                        replace H := Option.bind_eq_some_iff.mp H
                        obtain ⟨t130, A250, H⟩ := H
                        replace H : (some (t130 == 1)) = some r := H
                        have A25 := Aside0.mk A250
                        clear A250
                        obtain rfl := Option.some.inj H
                        go_wp2_with (first | (go_at_call 16; (with_reducible refine (num_Gcd.calls kj8 (wrap64 (a0)) (wrap64 ((wrap64 (a0)) * (Int.tmod (wrap64 (a1)) 1000))) t129 _ A22.out).mono ?_); rintro e w' ⟨rfl, ⟨nd, rfl⟩⟩; (try first | exact ⟨rfl, _, World.drewN_drewN _ _ _⟩ | exact ⟨rfl, _, Eq.trans (World.drewN_drewN _ _ _) (congrArg (World.drewN _) (Nat.add_assoc _ _ _))⟩)) | (go_at_call 16; (with_reducible refine (num_Gcd.calls kj8 (wrap64 (Int.tdiv (wrap64 (a0)) (wrap64 (t125)))) (wrap64 (Int.tdiv (wrap64 (a1)) (wrap64 (t125)))) t130 _ A25.out).mono ?_); rintro e w' ⟨rfl, ⟨nd, rfl⟩⟩; (try first | exact ⟨rfl, _, World.drewN_drewN _ _ _⟩ | exact ⟨rfl, _, Eq.trans (World.drewN_drewN _ _ _) (congrArg (World.drewN _) (Nat.add_assoc _ _ _))⟩)))
                        repeat (go_quiet (first | (go_at_call 16; (with_reducible refine (num_Gcd.calls kj8 (wrap64 (a0)) (wrap64 ((wrap64 (a0)) * (Int.tmod (wrap64 (a1)) 1000))) t129 _ A22.out).mono ?_); rintro e w' ⟨rfl, ⟨nd, rfl⟩⟩; (try first | exact ⟨rfl, _, World.drewN_drewN _ _ _⟩ | exact ⟨rfl, _, Eq.trans (World.drewN_drewN _ _ _) (congrArg (World.drewN _) (Nat.add_assoc _ _ _))⟩)) | (go_at_call 16; (with_reducible refine (num_Gcd.calls kj8 (wrap64 (Int.tdiv (wrap64 (a0)) (wrap64 (t125)))) (wrap64 (Int.tdiv (wrap64 (a1)) (wrap64 (t125)))) t130 _ A25.out).mono ?_); rintro e w' ⟨rfl, ⟨nd, rfl⟩⟩; (try first | exact ⟨rfl, _, World.drewN_drewN _ _ _⟩ | exact ⟨rfl, _, Eq.trans (World.drewN_drewN _ _ _) (congrArg (World.drewN _) (Nat.add_assoc _ _ _))⟩))); try go_wp2_with (first | (go_at_call 16; (with_reducible refine (num_Gcd.calls kj8 (wrap64 (a0)) (wrap64 ((wrap64 (a0)) * (Int.tmod (wrap64 (a1)) 1000))) t129 _ A22.out).mono ?_); rintro e w' ⟨rfl, ⟨nd, rfl⟩⟩; (try first | exact ⟨rfl, _, World.drewN_drewN _ _ _⟩ | exact ⟨rfl, _, Eq.trans (World.drewN_drewN _ _ _) (congrArg (World.drewN _) (Nat.add_assoc _ _ _))⟩)) | (go_at_call 16; (with_reducible refine (num_Gcd.calls kj8 (wrap64 (Int.tdiv (wrap64 (a0)) (wrap64 (t125)))) (wrap64 (Int.tdiv (wrap64 (a1)) (wrap64 (t125)))) t130 _ A25.out).mono ?_); rintro e w' ⟨rfl, ⟨nd, rfl⟩⟩; (try first | exact ⟨rfl, _, World.drewN_drewN _ _ _⟩ | exact ⟨rfl, _, Eq.trans (World.drewN_drewN _ _ _) (congrArg (World.drewN _) (Nat.add_assoc _ _ _))⟩))))
                        go_ret
                        exact ⟨by first | rfl | (simp; done) | (simp [*]; done), by repeat (first | exact Drawn0.refl _ | apply Drawn0.step)⟩
                    · rw [if_neg c23] at H
                      have c23b0 : (t129 == (IntKind.u64.wrap ((wrap64 (a0))))) = false := beq_eq_false_iff_ne.mpr c23
                      have c23b1 : (t129 != (IntKind.u64.wrap ((wrap64 (a0))))) = true := bne_iff_ne.mpr c23
                      obtain rfl := Option.some.inj H
                      go_wp2_with (first | (go_at_call 16; (with_reducible refine (num_Gcd.calls kj8 (wrap64 (a0)) (wrap64 ((wrap64 (a0)) * (Int.tmod (wrap64 (a1)) 1000))) t129 _ A22.out).mono ?_); rintro e w' ⟨rfl, ⟨nd, rfl⟩⟩; (try first | exact ⟨rfl, _, World.drewN_drewN _ _ _⟩ | exact ⟨rfl, _, Eq.trans (World.drewN_drewN _ _ _) (congrArg (World.drewN _) (Nat.add_assoc _ _ _))⟩)))
                      repeat (go_quiet (first | (go_at_call 16; (with_reducible refine (num_Gcd.calls kj8 (wrap64 (a0)) (wrap64 ((wrap64 (a0)) * (Int.tmod (wrap64 (a1)) 1000))) t129 _ A22.out).mono ?_); rintro e w' ⟨rfl, ⟨nd, rfl⟩⟩; (try first | exact ⟨rfl, _, World.drewN_drewN _ _ _⟩ | exact ⟨rfl, _, Eq.trans (World.drewN_drewN _ _ _) (congrArg (World.drewN _) (Nat.add_assoc _ _ _))⟩))); try go_wp2_with (first | (go_at_call 16; (with_reducible refine (num_Gcd.calls kj8 (wrap64 (a0)) (wrap64 ((wrap64 (a0)) * (Int.tmod (wrap64 (a1)) 1000))) t129 _ A22.out).mono ?_); rintro e w' ⟨rfl, ⟨nd, rfl⟩⟩; (try first | exact ⟨rfl, _, World.drewN_drewN _ _ _⟩ | exact ⟨rfl, _, Eq.trans (World.drewN_drewN _ _ _) (congrArg (World.drewN _) (Nat.add_assoc _ _ _))⟩))))
                      go_ret
                      exact ⟨by first | rfl | (simp; done) | (simp [*]; done), by repeat (first | exact Drawn0.refl _ | apply Drawn0.step)⟩
  · replace c4 := Bool.eq_false_iff.mpr c4
    subst c4
    have H1 : (some false) = some r := by rw [if_neg (show ¬ (false = true) by decide)] at H; exact H
    clear H
    have H := H1
    clear H1
    obtain rfl := Option.some.inj H
    go_enter Try.func6, Try.ntmps6
    go_wp2_with (first | (go_at_call 9; (with_reducible refine (furrowlaw1_known.calls k  false _ A3.out).mono ?_); rintro e w' ⟨rfl, ⟨nd, rfl⟩⟩; (try first | exact ⟨rfl, _, World.drewN_drewN _ _ _⟩ | exact ⟨rfl, _, Eq.trans (World.drewN_drewN _ _ _) (congrArg (World.drewN _) (Nat.add_assoc _ _ _))⟩)))
    repeat (go_quiet (first | (go_at_call 9; (with_reducible refine (furrowlaw1_known.calls k  false _ A3.out).mono ?_); rintro e w' ⟨rfl, ⟨nd, rfl⟩⟩; (try first | exact ⟨rfl, _, World.drewN_drewN _ _ _⟩ | exact ⟨rfl, _, Eq.trans (World.drewN_drewN _ _ _) (congrArg (World.drewN _) (Nat.add_assoc _ _ _))⟩))); try go_wp2_with (first | (go_at_call 9; (with_reducible refine (furrowlaw1_known.calls k  false _ A3.out).mono ?_); rintro e w' ⟨rfl, ⟨nd, rfl⟩⟩; (try first | exact ⟨rfl, _, World.drewN_drewN _ _ _⟩ | exact ⟨rfl, _, Eq.trans (World.drewN_drewN _ _ _) (congrArg (World.drewN _) (Nat.add_assoc _ _ _))⟩))))
    go_ret
    exact ⟨by first | rfl | (simp; done) | (simp [*]; done), by repeat (first | exact Drawn0.refl _ | apply Drawn0.step)⟩

/-- THE ONE PURE STATEMENT of furrowlaw1_NumGcd: yours. -/
def furrowlaw1_NumGcd.Pure : Prop := ∀ (a0 : Int) (a1 : Int), (Lit.int .i32 a0).wf = true → (Lit.int .i32 a1).wf = true → ∃ k, furrowlaw1_NumGcd.f k a0 a1 = some true
theorem furrowlaw1_NumGcd.walk (P : furrowlaw1_NumGcd.Pure) (a0 : Int) (a1 : Int) (w : World) (w0 : (Lit.int .i32 a0).wf = true) (w1 : (Lit.int .i32 a1).wf = true) :
    Calls Try.prog 6 #[.int .i32 a0, .int .i32 a1] w fun e w' => e = .returned (.bool true) ∧ Below w.heap.size w w' := by
  obtain ⟨k, h⟩ := P a0 a1 w0 w1
  refine (furrowlaw1_NumGcd.calls k a0 a1 true w h).mono ?_
  rintro e w' ⟨rfl, hd⟩
  exact ⟨rfl, hd.below⟩

end Go.Proofs.Ytfjfgcnbokefbaa.PNumGcd
