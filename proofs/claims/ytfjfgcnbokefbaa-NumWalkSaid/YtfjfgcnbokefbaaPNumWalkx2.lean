-- PRINTED BY print.sh 35421559b90ae4d0a3588c463048766b98c2df88dd9212a6774a882060cdf62d: not written by this session
import Derived.Test.YtfjfgcnbokefbaaPNumWalkx0
import Derived.Test.YtfjfgcnbokefbaaPNumWalkx1
namespace Go.Proofs.Ytfjfgcnbokefbaa.PNumWalk
open Go.RowKit Go.Proofs.YtfjfgcnbokefbaaW.PrintWords Go.Proofs.YtfjfgcnbokefbaaW.PrintLast Go.Proofs.YtfjfgcnbokefbaaW.PrintMore
attribute [local go_sem] max2_int min2_int max_two min_two max_three min_three max_four min_four   -- for this text's walks alone
set_option linter.unusedVariables false
set_option linter.unusedSimpArgs false

/-! ### furrowlaw1_NumWalk: function 4 -/
def furrowlaw1_NumWalk.l0 : Nat → Int → Int → Int → Int → Int → Int → Option (Bool)
  | 0, _, _, _, _, _, _ => none
  | k + 1, x0, x1, x7, x8, x9, x10 => if x9 > 0 then (if x10 ≤ (wrap64 (x1)) then (furrowlaw1_NumWalk.l0 k x0 x1 (IntKind.u64.wrap (x7 + 1)) x10 x9 (wrap64 (x10 + x9))) else (if x9 < 0 then (if x10 ≥ (wrap64 (x1)) then (furrowlaw1_NumWalk.l0 k x0 x1 (IntKind.u64.wrap (x7 + 1)) x10 x9 (wrap64 (x10 + x9))) else ((num_Times.f (wrap64 (x0)) (wrap64 (x1)) x9).bind fun t126 => (if t126 = x7 then ((num_Last.f (wrap64 (x0)) (wrap64 (x1)) x9).bind fun t127 => (some (t127 == x8))) else (some false)))) else ((num_Times.f (wrap64 (x0)) (wrap64 (x1)) x9).bind fun t128 => (if t128 = x7 then ((num_Last.f (wrap64 (x0)) (wrap64 (x1)) x9).bind fun t129 => (some (t129 == x8))) else (some false))))) else (if x9 < 0 then (if x10 ≥ (wrap64 (x1)) then (furrowlaw1_NumWalk.l0 k x0 x1 (IntKind.u64.wrap (x7 + 1)) x10 x9 (wrap64 (x10 + x9))) else ((num_Times.f (wrap64 (x0)) (wrap64 (x1)) x9).bind fun t130 => (if t130 = x7 then ((num_Last.f (wrap64 (x0)) (wrap64 (x1)) x9).bind fun t131 => (some (t131 == x8))) else (some false)))) else ((num_Times.f (wrap64 (x0)) (wrap64 (x1)) x9).bind fun t132 => (if t132 = x7 then ((num_Last.f (wrap64 (x0)) (wrap64 (x1)) x9).bind fun t133 => (some (t133 == x8))) else (some false))))
def furrowlaw1_NumWalk.f (k : Nat) (a0 : Int) (a1 : Int) (a2 : Int) : Option (Bool) := (furrowlaw1_known.f k).bind fun t124 => (if t124 = true then (if a2 = 0 then ((num_Times.f (wrap64 (a0)) (wrap64 (a1)) 0).bind fun t125 => (some (t125 == 0))) else (furrowlaw1_NumWalk.l0 k a0 a1 0 (wrap64 (a0)) (wrap64 (a2)) (wrap64 (a0)))) else (some false))
theorem furrowlaw1_NumWalk.mono_l : ∀ k, (∀ y0 y1 y2 y3 y4 y5, LeO (furrowlaw1_NumWalk.l0 k y0 y1 y2 y3 y4 y5) (furrowlaw1_NumWalk.l0 (k + 1) y0 y1 y2 y3 y4 y5))
  | 0 => fun _ _ _ _ _ _ r h => by simp [furrowlaw1_NumWalk.l0] at h
  | k + 1 => by
    have ih0 := furrowlaw1_NumWalk.mono_l k
    · intro y0 y1 y2 y3 y4 y5
      unfold furrowlaw1_NumWalk.l0
      repeat' first
      | (with_reducible exact ih0 _ _ _ _ _ _)
      | (with_reducible exact furrowlaw1_known.mono _)
      | (with_reducible exact LeO.refl _)
      | (with_reducible exact LeO.none _)
      | (with_reducible refine LeO.ite ?_ ?_)
      | (with_reducible refine LeO.bind ?_ (fun _ => ?_))
      | exact ih0 _ _ _ _ _ _
      | exact furrowlaw1_known.mono _
      | exact LeO.none _
      | refine LeO.ite ?_ ?_
      | refine LeO.bind ?_ (fun _ => ?_)
theorem furrowlaw1_NumWalk.mono : ∀ a0 a1 a2 k, LeO (furrowlaw1_NumWalk.f k a0 a1 a2) (furrowlaw1_NumWalk.f (k + 1) a0 a1 a2) := by
  intro a0 a1 a2 k
  have ih0 := furrowlaw1_NumWalk.mono_l k
  unfold furrowlaw1_NumWalk.f
  repeat' first
      | (with_reducible exact ih0 _ _ _ _ _ _)
      | (with_reducible exact furrowlaw1_known.mono _)
      | (with_reducible exact LeO.refl _)
      | (with_reducible exact LeO.none _)
      | (with_reducible refine LeO.ite ?_ ?_)
      | (with_reducible refine LeO.bind ?_ (fun _ => ?_))
      | exact ih0 _ _ _ _ _ _
      | exact furrowlaw1_known.mono _
      | exact LeO.none _
      | refine LeO.ite ?_ ?_
      | refine LeO.bind ?_ (fun _ => ?_)
set_option maxHeartbeats 8000000 in
set_option maxRecDepth 100000 in
theorem furrowlaw1_NumWalk.calls (k : Nat) (a0 : Int) (a1 : Int) (a2 : Int) (r : Bool) (w : World) (h : furrowlaw1_NumWalk.f k a0 a1 a2 = some r) :
    Calls Try.prog 4 #[.int .i16 a0, .int .i16 a1, .int .i16 a2] w fun e w' => e = .returned (.bool r) ∧ Drawn0 w w' := by
  have H : ((furrowlaw1_known.f k).bind fun t124 => (if t124 = true then (if a2 = 0 then ((num_Times.f (wrap64 (a0)) (wrap64 (a1)) 0).bind fun t125 => (some (t125 == 0))) else (furrowlaw1_NumWalk.l0 k a0 a1 0 (wrap64 (a0)) (wrap64 (a2)) (wrap64 (a0)))) else (some false))) = some r := h
  clear h
  replace H := Option.bind_eq_some_iff.mp H
  obtain ⟨t124, A40, H⟩ := H
  replace H : (if t124 = true then (if a2 = 0 then ((num_Times.f (wrap64 (a0)) (wrap64 (a1)) 0).bind fun t125 => (some (t125 == 0))) else (furrowlaw1_NumWalk.l0 k a0 a1 0 (wrap64 (a0)) (wrap64 (a2)) (wrap64 (a0)))) else (some false)) = some r := H
  have A4 := Aside0.mk A40
  clear A40
  by_cases c5 : t124 = true
  · subst c5
    have H1 : (if a2 = 0 then ((num_Times.f (wrap64 (a0)) (wrap64 (a1)) 0).bind fun t125 => (some (t125 == 0))) else (furrowlaw1_NumWalk.l0 k a0 a1 0 (wrap64 (a0)) (wrap64 (a2)) (wrap64 (a0)))) = some r := by rw [if_pos rfl] at H; exact H
    clear H
    have H := H1
    clear H1
    by_cases c6 : a2 = 0
    · rw [if_pos c6] at H
      have c6b0 : (a2 == 0) = true := beq_iff_eq.mpr c6
      have c6b1 : (a2 != 0) = false := bne_eq_false_iff_eq.mpr c6
      clear c6
      replace H := Option.bind_eq_some_iff.mp H
      obtain ⟨t125, A70, H⟩ := H
      replace H : (some (t125 == 0)) = some r := H
      have A7 := Aside0.mk A70
      clear A70
      obtain rfl := Option.some.inj H
      go_enter Try.func4, Try.ntmps4
      go_wp2_with (first | ((with_reducible refine gate_callee (f := 9) rfl ?_); refine goesL_ (some 11) rfl rfl Try.func9 (by kernel_rfl) rfl #[] rfl (by (try simp only [List.map_toArray, List.map_cons, List.map_nil]); first | done | rfl | (simp only [List.length_drop, List.length_take]; rfl)) ?_; (with_reducible refine (furrowlaw1_known.calls k  true _ A4.out).mono ?_); rintro e w' ⟨rfl, ⟨nd, rfl⟩⟩; refine ⟨_, rfl, ?_⟩) | ((with_reducible refine gate_callee (f := 10) rfl ?_); refine goesL_ (some 19) rfl rfl Try.func10 (by kernel_rfl) rfl #[.int .i64 (wrap64 (a0)), .int .i64 (wrap64 (a1)), .int .i64 0] rfl (by (try simp only [List.map_toArray, List.map_cons, List.map_nil]); first | done | rfl | (simp only [List.length_drop, List.length_take]; rfl)) ?_; (with_reducible refine (num_Times.calls (wrap64 (a0)) (wrap64 (a1)) 0 t125 _ A7.out).mono ?_); rintro e w' ⟨rfl, ⟨nd, rfl⟩⟩; refine ⟨_, rfl, ?_⟩))
      go_ret
      exact ⟨by first | rfl | (simp; done) | (simp [*]; done), by repeat (first | exact Drawn0.refl _ | apply Drawn0.step)⟩
    · rw [if_neg c6] at H
      have c6b0 : (a2 == 0) = false := beq_eq_false_iff_ne.mpr c6
      have c6b1 : (a2 != 0) = true := bne_iff_ne.mpr c6
      have H' := Aside0.mk H
      clear H
      go_enter Try.func4, Try.ntmps4
      go_wp2_with (first | ((with_reducible refine gate_callee (f := 9) rfl ?_); refine goesL_ (some 11) rfl rfl Try.func9 (by kernel_rfl) rfl #[] rfl (by (try simp only [List.map_toArray, List.map_cons, List.map_nil]); first | done | rfl | (simp only [List.length_drop, List.length_take]; rfl)) ?_; (with_reducible refine (furrowlaw1_known.calls k  true _ A4.out).mono ?_); rintro e w' ⟨rfl, ⟨nd, rfl⟩⟩; refine ⟨_, rfl, ?_⟩))
      go_loopg [7, 8, 10] k (fun kq v7 v8 v10 w' => ∃ (x7_1 : Int) (x8_1 : Int) (x10_1 : Int), v7 = .int .u64 x7_1 ∧ v8 = .int .i64 x8_1 ∧ v10 = .int .i64 x10_1 ∧ Aside0 (furrowlaw1_NumWalk.l0 kq a0 a1 x7_1 x8_1 (wrap64 (a2)) x10_1 = some r) ∧ Aside0 (kq ≤ k) ∧ Drawn0 w w')
      case atStart => exact ⟨(0), (wrap64 (a0)), (wrap64 (a0)), (by first | rfl | (simp; done) | (simp [*]; done)), (by first | rfl | (simp; done) | (simp [*]; done)), (by first | rfl | (simp; done) | (simp [*]; done)), H', ⟨Nat.le_refl _⟩, by repeat (first | exact Drawn0.refl _ | apply Drawn0.step)⟩
      case round =>
        clear H'
        try clear c1
        try clear p2
        try clear c4
        try clear c5
        try clear c6
        try clear c6b0
        try clear c6b1
        try clear p6
        obtain ⟨x7_1, x8_1, x10_1, rfl, rfl, rfl, HA, HK1, ⟨m1, rfl⟩⟩ := hrel
        cases gk with
        | zero => exact absurd HA.out (by simp [furrowlaw1_NumWalk.l0])
        | succ k1 =>
          have H := HA.out
          clear HA
          simp only [furrowlaw1_NumWalk.l0] at H
          by_cases c8 : (wrap64 (a2)) > 0
          · rw [if_pos c8] at H
            have c8b0 : decide (0 < (wrap64 (a2))) = true := decide_eq_true c8
            clear c8
            by_cases c9 : x10_1 ≤ (wrap64 (a1))
            · rw [if_pos c9] at H
              have c9b0 : decide (x10_1 ≤ (wrap64 (a1))) = true := decide_eq_true c9
              clear c9
              have H' := Aside0.mk H
              clear H
              go_wp2
              go_roundg k1
              case measure => have := HK1.out; omega
              case rel => exact ⟨(IntKind.u64.wrap (x7_1 + 1)), (x10_1), (wrap64 (x10_1 + (wrap64 (a2)))), (by first | rfl | (simp; done) | (simp [*]; done)), (by first | rfl | (simp; done) | (simp [*]; done)), (by first | rfl | (simp; done) | (simp [*]; done)), H', ⟨by have := HK1.out; omega⟩, by repeat (first | exact Drawn0.refl _ | apply Drawn0.step)⟩
            · rw [if_neg c9] at H
              have c9b0 : decide (x10_1 ≤ (wrap64 (a1))) = false := decide_eq_false c9
              clear c9
              by_cases c10 : (wrap64 (a2)) < 0
              · rw [if_pos c10] at H
                have c10b0 : decide ((wrap64 (a2)) < 0) = true := decide_eq_true c10
                clear c10
                by_cases c11 : x10_1 ≥ (wrap64 (a1))
                · rw [if_pos c11] at H
                  have c11b0 : decide ((wrap64 (a1)) ≤ x10_1) = true := decide_eq_true c11
                  clear c11
                  have H' := Aside0.mk H
                  clear H
                  go_wp2
                  go_roundg k1
                  case measure => have := HK1.out; omega
                  case rel => exact ⟨(IntKind.u64.wrap (x7_1 + 1)), (x10_1), (wrap64 (x10_1 + (wrap64 (a2)))), (by first | rfl | (simp; done) | (simp [*]; done)), (by first | rfl | (simp; done) | (simp [*]; done)), (by first | rfl | (simp; done) | (simp [*]; done)), H', ⟨by have := HK1.out; omega⟩, by repeat (first | exact Drawn0.refl _ | apply Drawn0.step)⟩
                · rw [if_neg c11] at H
                  have c11b0 : decide ((wrap64 (a1)) ≤ x10_1) = false := decide_eq_false c11
                  clear c11
                  replace H := Option.bind_eq_some_iff.mp H
                  obtain ⟨t126, A120, H⟩ := H
                  replace H : (if t126 = x7_1 then ((num_Last.f (wrap64 (a0)) (wrap64 (a1)) (wrap64 (a2))).bind fun t127 => (some (t127 == x8_1))) else (some false)) = some r := H
                  have A12 := Aside0.mk A120
                  clear A120
                  by_cases c13 : t126 = x7_1
                  · rw [if_pos c13] at H
                    have c13b0 : (t126 == x7_1) = true := beq_iff_eq.mpr c13
                    have c13b1 : (t126 != x7_1) = false := bne_eq_false_iff_eq.mpr c13
                    clear c13
                    replace H := Option.bind_eq_some_iff.mp H
                    obtain ⟨t127, A140, H⟩ := H
                    replace H : (some (t127 == x8_1)) = some r := H
                    have A14 := Aside0.mk A140
                    clear A140
                    obtain rfl := Option.some.inj H
                    go_wp2_with (first | ((with_reducible refine gate_callee (f := 10) rfl ?_); refine goesL_ (some 56) rfl rfl Try.func10 (by kernel_rfl) rfl #[.int .i64 (wrap64 (a0)), .int .i64 (wrap64 (a1)), .int .i64 (wrap64 (a2))] rfl (by (try simp only [List.map_toArray, List.map_cons, List.map_nil]); first | done | rfl | (simp only [List.length_drop, List.length_take]; rfl)) ?_; (with_reducible refine (num_Times.calls (wrap64 (a0)) (wrap64 (a1)) (wrap64 (a2)) t126 _ A12.out).mono ?_); rintro e w' ⟨rfl, ⟨nd, rfl⟩⟩; refine ⟨_, rfl, ?_⟩) | (go_at_call 12; (with_reducible refine (num_Last.calls (wrap64 (a0)) (wrap64 (a1)) (wrap64 (a2)) t127 _ A14.out).mono ?_); rintro e w' ⟨rfl, ⟨nd, rfl⟩⟩))
                    go_ret
                    exact ⟨by first | rfl | (simp; done) | (simp [*]; done), by repeat (first | exact Drawn0.refl _ | apply Drawn0.step)⟩
                  · rw [if_neg c13] at H
                    have c13b0 : (t126 == x7_1) = false := beq_eq_false_iff_ne.mpr c13
                    have c13b1 : (t126 != x7_1) = true := bne_iff_ne.mpr c13
                    obtain rfl := Option.some.inj H
                    go_wp2_with (first | ((with_reducible refine gate_callee (f := 10) rfl ?_); refine goesL_ (some 56) rfl rfl Try.func10 (by kernel_rfl) rfl #[.int .i64 (wrap64 (a0)), .int .i64 (wrap64 (a1)), .int .i64 (wrap64 (a2))] rfl (by (try simp only [List.map_toArray, List.map_cons, List.map_nil]); first | done | rfl | (simp only [List.length_drop, List.length_take]; rfl)) ?_; (with_reducible refine (num_Times.calls (wrap64 (a0)) (wrap64 (a1)) (wrap64 (a2)) t126 _ A12.out).mono ?_); rintro e w' ⟨rfl, ⟨nd, rfl⟩⟩; refine ⟨_, rfl, ?_⟩))
                    go_ret
                    exact ⟨by first | rfl | (simp; done) | (simp [*]; done), by repeat (first | exact Drawn0.refl _ | apply Drawn0.step)⟩
              · rw [if_neg c10] at H
                have c10b0 : decide ((wrap64 (a2)) < 0) = false := decide_eq_false c10
                clear c10
                replace H := Option.bind_eq_some_iff.mp H
                obtain ⟨t128, A150, H⟩ := H
                replace H : (if t128 = x7_1 then ((num_Last.f (wrap64 (a0)) (wrap64 (a1)) (wrap64 (a2))).bind fun t129 => (some (t129 == x8_1))) else (some false)) = some r := H
                have A15 := Aside0.mk A150
                clear A150
                by_cases c16 : t128 = x7_1
                · rw [if_pos c16] at H
                  have c16b0 : (t128 == x7_1) = true := beq_iff_eq.mpr c16
                  have c16b1 : (t128 != x7_1) = false := bne_eq_false_iff_eq.mpr c16
                  clear c16
                  replace H := Option.bind_eq_some_iff.mp H
                  obtain ⟨t129, A170, H⟩ := H
                  replace H : (some (t129 == x8_1)) = some r := H
                  have A17 := Aside0.mk A170
                  clear A170
                  obtain rfl := Option.some.inj H
                  go_wp2_with (first | ((with_reducible refine gate_callee (f := 10) rfl ?_); refine goesL_ (some 56) rfl rfl Try.func10 (by kernel_rfl) rfl #[.int .i64 (wrap64 (a0)), .int .i64 (wrap64 (a1)), .int .i64 (wrap64 (a2))] rfl (by (try simp only [List.map_toArray, List.map_cons, List.map_nil]); first | done | rfl | (simp only [List.length_drop, List.length_take]; rfl)) ?_; (with_reducible refine (num_Times.calls (wrap64 (a0)) (wrap64 (a1)) (wrap64 (a2)) t128 _ A15.out).mono ?_); rintro e w' ⟨rfl, ⟨nd, rfl⟩⟩; refine ⟨_, rfl, ?_⟩) | (go_at_call 12; (with_reducible refine (num_Last.calls (wrap64 (a0)) (wrap64 (a1)) (wrap64 (a2)) t129 _ A17.out).mono ?_); rintro e w' ⟨rfl, ⟨nd, rfl⟩⟩))
                  go_ret
                  exact ⟨by first | rfl | (simp; done) | (simp [*]; done), by repeat (first | exact Drawn0.refl _ | apply Drawn0.step)⟩
                · rw [if_neg c16] at H
                  have c16b0 : (t128 == x7_1) = false := beq_eq_false_iff_ne.mpr c16
                  have c16b1 : (t128 != x7_1) = true := bne_iff_ne.mpr c16
                  obtain rfl := Option.some.inj H
                  go_wp2_with (first | ((with_reducible refine gate_callee (f := 10) rfl ?_); refine goesL_ (some 56) rfl rfl Try.func10 (by kernel_rfl) rfl #[.int .i64 (wrap64 (a0)), .int .i64 (wrap64 (a1)), .int .i64 (wrap64 (a2))] rfl (by (try simp only [List.map_toArray, List.map_cons, List.map_nil]); first | done | rfl | (simp only [List.length_drop, List.length_take]; rfl)) ?_; (with_reducible refine (num_Times.calls (wrap64 (a0)) (wrap64 (a1)) (wrap64 (a2)) t128 _ A15.out).mono ?_); rintro e w' ⟨rfl, ⟨nd, rfl⟩⟩; refine ⟨_, rfl, ?_⟩))
                  go_ret
                  exact ⟨by first | rfl | (simp; done) | (simp [*]; done), by repeat (first | exact Drawn0.refl _ | apply Drawn0.step)⟩
          · rw [if_neg c8] at H
            have c8b0 : decide (0 < (wrap64 (a2))) = false := decide_eq_false c8
            clear c8
            by_cases c18 : (wrap64 (a2)) < 0
            · rw [if_pos c18] at H
              have c18b0 : decide ((wrap64 (a2)) < 0) = true := decide_eq_true c18
              clear c18
              by_cases c19 : x10_1 ≥ (wrap64 (a1))
              · rw [if_pos c19] at H
                have c19b0 : decide ((wrap64 (a1)) ≤ x10_1) = true := decide_eq_true c19
                clear c19
                have H' := Aside0.mk H
                clear H
                go_wp2
                go_roundg k1
                case measure => have := HK1.out; omega
                case rel => exact ⟨(IntKind.u64.wrap (x7_1 + 1)), (x10_1), (wrap64 (x10_1 + (wrap64 (a2)))), (by first | rfl | (simp; done) | (simp [*]; done)), (by first | rfl | (simp; done) | (simp [*]; done)), (by first | rfl | (simp; done) | (simp [*]; done)), H', ⟨by have := HK1.out; omega⟩, by repeat (first | exact Drawn0.refl _ | apply Drawn0.step)⟩
              · rw [if_neg c19] at H
                have c19b0 : decide ((wrap64 (a1)) ≤ x10_1) = false := decide_eq_false c19
                clear c19
                replace H := Option.bind_eq_some_iff.mp H
                obtain ⟨t130, A200, H⟩ := H
                replace H : (if t130 = x7_1 then ((num_Last.f (wrap64 (a0)) (wrap64 (a1)) (wrap64 (a2))).bind fun t131 => (some (t131 == x8_1))) else (some false)) = some r := H
                have A20 := Aside0.mk A200
                clear A200
                by_cases c21 : t130 = x7_1
                · rw [if_pos c21] at H
                  have c21b0 : (t130 == x7_1) = true := beq_iff_eq.mpr c21
                  have c21b1 : (t130 != x7_1) = false := bne_eq_false_iff_eq.mpr c21
                  clear c21
                  replace H := Option.bind_eq_some_iff.mp H
                  obtain ⟨t131, A220, H⟩ := H
                  replace H : (some (t131 == x8_1)) = some r := H
                  have A22 := Aside0.mk A220
                  clear A220
                  obtain rfl := Option.some.inj H
                  go_wp2_with (first | ((with_reducible refine gate_callee (f := 10) rfl ?_); refine goesL_ (some 56) rfl rfl Try.func10 (by kernel_rfl) rfl #[.int .i64 (wrap64 (a0)), .int .i64 (wrap64 (a1)), .int .i64 (wrap64 (a2))] rfl (by (try simp only [List.map_toArray, List.map_cons, List.map_nil]); first | done | rfl | (simp only [List.length_drop, List.length_take]; rfl)) ?_; (with_reducible refine (num_Times.calls (wrap64 (a0)) (wrap64 (a1)) (wrap64 (a2)) t130 _ A20.out).mono ?_); rintro e w' ⟨rfl, ⟨nd, rfl⟩⟩; refine ⟨_, rfl, ?_⟩) | (go_at_call 12; (with_reducible refine (num_Last.calls (wrap64 (a0)) (wrap64 (a1)) (wrap64 (a2)) t131 _ A22.out).mono ?_); rintro e w' ⟨rfl, ⟨nd, rfl⟩⟩))
                  go_ret
                  exact ⟨by first | rfl | (simp; done) | (simp [*]; done), by repeat (first | exact Drawn0.refl _ | apply Drawn0.step)⟩
                · rw [if_neg c21] at H
                  have c21b0 : (t130 == x7_1) = false := beq_eq_false_iff_ne.mpr c21
                  have c21b1 : (t130 != x7_1) = true := bne_iff_ne.mpr c21
                  obtain rfl := Option.some.inj H
                  go_wp2_with (first | ((with_reducible refine gate_callee (f := 10) rfl ?_); refine goesL_ (some 56) rfl rfl Try.func10 (by kernel_rfl) rfl #[.int .i64 (wrap64 (a0)), .int .i64 (wrap64 (a1)), .int .i64 (wrap64 (a2))] rfl (by (try simp only [List.map_toArray, List.map_cons, List.map_nil]); first | done | rfl | (simp only [List.length_drop, List.length_take]; rfl)) ?_; (with_reducible refine (num_Times.calls (wrap64 (a0)) (wrap64 (a1)) (wrap64 (a2)) t130 _ A20.out).mono ?_); rintro e w' ⟨rfl, ⟨nd, rfl⟩⟩; refine ⟨_, rfl, ?_⟩))
                  go_ret
                  exact ⟨by first | rfl | (simp; done) | (simp [*]; done), by repeat (first | exact Drawn0.refl _ | apply Drawn0.step)⟩
            · rw [if_neg c18] at H
              have c18b0 : decide ((wrap64 (a2)) < 0) = false := decide_eq_false c18
              clear c18
              replace H := Option.bind_eq_some_iff.mp H
              obtain ⟨t132, A230, H⟩ := H
              replace H : (if t132 = x7_1 then ((num_Last.f (wrap64 (a0)) (wrap64 (a1)) (wrap64 (a2))).bind fun t133 => (some (t133 == x8_1))) else (some false)) = some r := H
              have A23 := Aside0.mk A230
              clear A230
              by_cases c24 : t132 = x7_1
              · rw [if_pos c24] at H
                have c24b0 : (t132 == x7_1) = true := beq_iff_eq.mpr c24
                have c24b1 : (t132 != x7_1) = false := bne_eq_false_iff_eq.mpr c24
                clear c24
                replace H := Option.bind_eq_some_iff.mp H
                obtain ⟨t133, A250, H⟩ := H
                replace H : (some (t133 == x8_1)) = some r := H
                have A25 := Aside0.mk A250
                clear A250
                obtain rfl := Option.some.inj H
                go_wp2_with (first | ((with_reducible refine gate_callee (f := 10) rfl ?_); refine goesL_ (some 56) rfl rfl Try.func10 (by kernel_rfl) rfl #[.int .i64 (wrap64 (a0)), .int .i64 (wrap64 (a1)), .int .i64 (wrap64 (a2))] rfl (by (try simp only [List.map_toArray, List.map_cons, List.map_nil]); first | done | rfl | (simp only [List.length_drop, List.length_take]; rfl)) ?_; (with_reducible refine (num_Times.calls (wrap64 (a0)) (wrap64 (a1)) (wrap64 (a2)) t132 _ A23.out).mono ?_); rintro e w' ⟨rfl, ⟨nd, rfl⟩⟩; refine ⟨_, rfl, ?_⟩) | (go_at_call 12; (with_reducible refine (num_Last.calls (wrap64 (a0)) (wrap64 (a1)) (wrap64 (a2)) t133 _ A25.out).mono ?_); rintro e w' ⟨rfl, ⟨nd, rfl⟩⟩))
                go_ret
                exact ⟨by first | rfl | (simp; done) | (simp [*]; done), by repeat (first | exact Drawn0.refl _ | apply Drawn0.step)⟩
              · rw [if_neg c24] at H
                have c24b0 : (t132 == x7_1) = false := beq_eq_false_iff_ne.mpr c24
                have c24b1 : (t132 != x7_1) = true := bne_iff_ne.mpr c24
                obtain rfl := Option.some.inj H
                go_wp2_with (first | ((with_reducible refine gate_callee (f := 10) rfl ?_); refine goesL_ (some 56) rfl rfl Try.func10 (by kernel_rfl) rfl #[.int .i64 (wrap64 (a0)), .int .i64 (wrap64 (a1)), .int .i64 (wrap64 (a2))] rfl (by (try simp only [List.map_toArray, List.map_cons, List.map_nil]); first | done | rfl | (simp only [List.length_drop, List.length_take]; rfl)) ?_; (with_reducible refine (num_Times.calls (wrap64 (a0)) (wrap64 (a1)) (wrap64 (a2)) t132 _ A23.out).mono ?_); rintro e w' ⟨rfl, ⟨nd, rfl⟩⟩; refine ⟨_, rfl, ?_⟩))
                go_ret
                exact ⟨by first | rfl | (simp; done) | (simp [*]; done), by repeat (first | exact Drawn0.refl _ | apply Drawn0.step)⟩
  · replace c5 := Bool.eq_false_iff.mpr c5
    subst c5
    have H1 : (some false) = some r := by rw [if_neg (show ¬ (false = true) by decide)] at H; exact H
    clear H
    have H := H1
    clear H1
    obtain rfl := Option.some.inj H
    go_enter Try.func4, Try.ntmps4
    go_wp2_with (first | ((with_reducible refine gate_callee (f := 9) rfl ?_); refine goesL_ (some 11) rfl rfl Try.func9 (by kernel_rfl) rfl #[] rfl (by (try simp only [List.map_toArray, List.map_cons, List.map_nil]); first | done | rfl | (simp only [List.length_drop, List.length_take]; rfl)) ?_; (with_reducible refine (furrowlaw1_known.calls k  false _ A4.out).mono ?_); rintro e w' ⟨rfl, ⟨nd, rfl⟩⟩; refine ⟨_, rfl, ?_⟩))
    go_ret
    exact ⟨by first | rfl | (simp; done) | (simp [*]; done), by repeat (first | exact Drawn0.refl _ | apply Drawn0.step)⟩

/-- THE ONE PURE STATEMENT of furrowlaw1_NumWalk: yours. -/
def furrowlaw1_NumWalk.Pure : Prop := ∀ (a0 : Int) (a1 : Int) (a2 : Int), (Lit.int .i16 a0).wf = true → (Lit.int .i16 a1).wf = true → (Lit.int .i16 a2).wf = true → ∃ k, furrowlaw1_NumWalk.f k a0 a1 a2 = some true
theorem furrowlaw1_NumWalk.walk (P : furrowlaw1_NumWalk.Pure) (a0 : Int) (a1 : Int) (a2 : Int) (w : World) (w0 : (Lit.int .i16 a0).wf = true) (w1 : (Lit.int .i16 a1).wf = true) (w2 : (Lit.int .i16 a2).wf = true) :
    Calls Try.prog 4 #[.int .i16 a0, .int .i16 a1, .int .i16 a2] w fun e w' => e = .returned (.bool true) ∧ Below w.heap.size w w' := by
  obtain ⟨k, h⟩ := P a0 a1 a2 w0 w1 w2
  refine (furrowlaw1_NumWalk.calls k a0 a1 a2 true w h).mono ?_
  rintro e w' ⟨rfl, hd⟩
  exact ⟨rfl, hd.below⟩

end Go.Proofs.Ytfjfgcnbokefbaa.PNumWalk
