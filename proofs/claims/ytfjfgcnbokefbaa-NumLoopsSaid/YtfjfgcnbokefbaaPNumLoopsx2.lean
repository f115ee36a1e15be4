-- PRINTED BY print.sh 35421559b90ae4d0a3588c463048766b98c2df88dd9212a6774a882060cdf62d: not written by this session
import Derived.Test.YtfjfgcnbokefbaaPNumLoopsx0
import Derived.Test.YtfjfgcnbokefbaaPNumLoopsx1
namespace Go.Proofs.Ytfjfgcnbokefbaa.PNumLoops
open Go.RowKit Go.Proofs.YtfjfgcnbokefbaaW.PrintWords Go.Proofs.YtfjfgcnbokefbaaW.PrintLast Go.Proofs.YtfjfgcnbokefbaaW.PrintMore
attribute [local go_sem] max2_int min2_int max_two min_two max_three min_three max_four min_four   -- for this text's walks alone
set_option linter.unusedVariables false
set_option linter.unusedSimpArgs false

/-! ### furrowref4_Times: function 11 -/
def furrowref4_Times.j0 : Nat → Int → Int → Int → Bool → Option (Int)
  | 0, _, _, _, _ => none
  | k + 1, x0, x1, x2, x28 => if x28 = true then (some 0) else (if x2 < 0 then ((furrowref4_Size.f x2).bind fun t124 => (if t124 = 0 then (none) else (if (IntKind.u64.wrap (Int.tdiv (IntKind.u64.wrap ((IntKind.u64.wrap (x0)) - (IntKind.u64.wrap (x1)))) t124)) = 18446744073709551615 then (some (IntKind.u64.wrap (Int.tdiv (IntKind.u64.wrap ((IntKind.u64.wrap (x0)) - (IntKind.u64.wrap (x1)))) t124))) else (some (IntKind.u64.wrap ((IntKind.u64.wrap (Int.tdiv (IntKind.u64.wrap ((IntKind.u64.wrap (x0)) - (IntKind.u64.wrap (x1)))) t124)) + 1)))))) else ((furrowref4_Size.f x2).bind fun t125 => (if t125 = 0 then (none) else (if (IntKind.u64.wrap (Int.tdiv (IntKind.u64.wrap ((IntKind.u64.wrap (x1)) - (IntKind.u64.wrap (x0)))) t125)) = 18446744073709551615 then (some (IntKind.u64.wrap (Int.tdiv (IntKind.u64.wrap ((IntKind.u64.wrap (x1)) - (IntKind.u64.wrap (x0)))) t125))) else (some (IntKind.u64.wrap ((IntKind.u64.wrap (Int.tdiv (IntKind.u64.wrap ((IntKind.u64.wrap (x1)) - (IntKind.u64.wrap (x0)))) t125)) + 1)))))))
def furrowref4_Times.f (k : Nat) (a0 : Int) (a1 : Int) (a2 : Int) : Option (Int) := if a2 = 0 then (furrowref4_Times.j0 k a0 a1 a2 true) else (if a2 > 0 then (if a1 < a0 then (furrowref4_Times.j0 k a0 a1 a2 true) else (if a2 < 0 then (furrowref4_Times.j0 k a0 a1 a2 (decide (a1 > a0))) else (furrowref4_Times.j0 k a0 a1 a2 false))) else (if a2 < 0 then (furrowref4_Times.j0 k a0 a1 a2 (decide (a1 > a0))) else (furrowref4_Times.j0 k a0 a1 a2 false)))
theorem furrowref4_Times.mono_l : ∀ k, (∀ y0 y1 y2 y3, LeO (furrowref4_Times.j0 k y0 y1 y2 y3) (furrowref4_Times.j0 (k + 1) y0 y1 y2 y3))
  | 0 => fun _ _ _ _ r h => by simp [furrowref4_Times.j0] at h
  | k + 1 => by
    have ih0 := furrowref4_Times.mono_l k
    · intro y0 y1 y2 y3
      unfold furrowref4_Times.j0
      repeat' first
      | (with_reducible exact ih0 _ _ _ _)
      | (with_reducible exact LeO.refl _)
      | (with_reducible exact LeO.none _)
      | (with_reducible refine LeO.ite ?_ ?_)
      | (with_reducible refine LeO.bind ?_ (fun _ => ?_))
      | exact ih0 _ _ _ _
      | exact LeO.none _
      | refine LeO.ite ?_ ?_
      | refine LeO.bind ?_ (fun _ => ?_)
theorem furrowref4_Times.mono : ∀ a0 a1 a2 k, LeO (furrowref4_Times.f k a0 a1 a2) (furrowref4_Times.f (k + 1) a0 a1 a2) := by
  intro a0 a1 a2 k
  have ih0 := furrowref4_Times.mono_l k
  unfold furrowref4_Times.f
  repeat' first
      | (with_reducible exact ih0 _ _ _ _)
      | (with_reducible exact LeO.refl _)
      | (with_reducible exact LeO.none _)
      | (with_reducible refine LeO.ite ?_ ?_)
      | (with_reducible refine LeO.bind ?_ (fun _ => ?_))
      | exact ih0 _ _ _ _
      | exact LeO.none _
      | refine LeO.ite ?_ ?_
      | refine LeO.bind ?_ (fun _ => ?_)
set_option maxHeartbeats 8000000 in
set_option maxRecDepth 100000 in
theorem furrowref4_Times.calls (k : Nat) (a0 : Int) (a1 : Int) (a2 : Int) (r : Int) (w : World) (h : furrowref4_Times.f k a0 a1 a2 = some r) :
    Calls Try.prog 11 #[.int .i64 a0, .int .i64 a1, .int .i64 a2] w fun e w' => e = .returned (.int .u64 r) ∧ Drawn0 w w' := by
  have H : (if a2 = 0 then (furrowref4_Times.j0 k a0 a1 a2 true) else (if a2 > 0 then (if a1 < a0 then (furrowref4_Times.j0 k a0 a1 a2 true) else (if a2 < 0 then (furrowref4_Times.j0 k a0 a1 a2 (decide (a1 > a0))) else (furrowref4_Times.j0 k a0 a1 a2 false))) else (if a2 < 0 then (furrowref4_Times.j0 k a0 a1 a2 (decide (a1 > a0))) else (furrowref4_Times.j0 k a0 a1 a2 false)))) = some r := h
  clear h
  have HC4 := Aside0.mk H
  clear H
  go_enter Try.func11, Try.ntmps11
  go_upto_region 1 with (fail)
  go_cut [28] (fun v28 wc => ∃ (kq : Nat) (x28_3 : Bool), v28 = .bool x28_3 ∧ Aside0 (furrowref4_Times.j0 kq a0 a1 a2 x28_3 = some r) ∧ Aside0 (kq ≤ k) ∧ Drawn0 w wc)
  case first =>
    have H := HC4.out
    clear HC4
    by_cases c5 : a2 = 0
    · rw [if_pos c5] at H
      have c5b0 : (a2 == 0) = true := beq_iff_eq.mpr c5
      have c5b1 : (a2 != 0) = false := bne_eq_false_iff_eq.mpr c5
      clear c5
      (first | rw [c5b0] | (simp only [i64_w, i32_w]; rw [c5b0]) | skip)
      have H' := Aside0.mk H
      clear H
      go_wp2
      go_meet
      case rel => exact ⟨_, (true), (by first | rfl | (simp; done) | (simp [*]; done)), H', ⟨by first | omega | exact Nat.le_refl _⟩, by repeat (first | exact Drawn0.refl _ | apply Drawn0.step)⟩
    · rw [if_neg c5] at H
      have c5b0 : (a2 == 0) = false := beq_eq_false_iff_ne.mpr c5
      have c5b1 : (a2 != 0) = true := bne_iff_ne.mpr c5
      (first | rw [c5b0] | (simp only [i64_w, i32_w]; rw [c5b0]) | skip)
      by_cases c6 : a2 > 0
      · rw [if_pos c6] at H
        have c6b0 : decide (0 < a2) = true := decide_eq_true c6
        clear c6
        by_cases c7 : a1 < a0
        · rw [if_pos c7] at H
          have c7b0 : decide (a1 < a0) = true := decide_eq_true c7
          clear c7
          have H' := Aside0.mk H
          clear H
          go_wp2
          go_meet
          case rel => exact ⟨_, (true), (by first | rfl | (simp; done) | (simp [*]; done)), H', ⟨by first | omega | exact Nat.le_refl _⟩, by repeat (first | exact Drawn0.refl _ | apply Drawn0.step)⟩
        · rw [if_neg c7] at H
          have c7b0 : decide (a1 < a0) = false := decide_eq_false c7
          clear c7
          by_cases c8 : a2 < 0
          · rw [if_pos c8] at H
            have c8b0 : decide (a2 < 0) = true := decide_eq_true c8
            clear c8
            have H' := Aside0.mk H
            clear H
            go_wp2
            go_meet
            case rel => exact ⟨_, (decide (a1 > a0)), (by first | rfl | (simp; done) | (simp [*]; done)), H', ⟨by first | omega | exact Nat.le_refl _⟩, by repeat (first | exact Drawn0.refl _ | apply Drawn0.step)⟩
          · rw [if_neg c8] at H
            have c8b0 : decide (a2 < 0) = false := decide_eq_false c8
            clear c8
            have H' := Aside0.mk H
            clear H
            go_wp2
            go_meet
            case rel => exact ⟨_, (false), (by first | rfl | (simp; done) | (simp [*]; done)), H', ⟨by first | omega | exact Nat.le_refl _⟩, by repeat (first | exact Drawn0.refl _ | apply Drawn0.step)⟩
      · rw [if_neg c6] at H
        have c6b0 : decide (0 < a2) = false := decide_eq_false c6
        clear c6
        by_cases c9 : a2 < 0
        · rw [if_pos c9] at H
          have c9b0 : decide (a2 < 0) = true := decide_eq_true c9
          clear c9
          have H' := Aside0.mk H
          clear H
          go_wp2
          go_meet
          case rel => exact ⟨_, (decide (a1 > a0)), (by first | rfl | (simp; done) | (simp [*]; done)), H', ⟨by first | omega | exact Nat.le_refl _⟩, by repeat (first | exact Drawn0.refl _ | apply Drawn0.step)⟩
        · rw [if_neg c9] at H
          have c9b0 : decide (a2 < 0) = false := decide_eq_false c9
          clear c9
          have H' := Aside0.mk H
          clear H
          go_wp2
          go_meet
          case rel => exact ⟨_, (false), (by first | rfl | (simp; done) | (simp [*]; done)), H', ⟨by first | omega | exact Nat.le_refl _⟩, by repeat (first | exact Drawn0.refl _ | apply Drawn0.step)⟩
  case rest =>
    clear HC4
    try clear c1
    try clear p2
    try clear c5
    try clear c5b0
    try clear c5b1
    try clear c6
    try clear c6b0
    try clear c7
    try clear c7b0
    try clear c8
    try clear c8b0
    try clear c9
    try clear c9b0
    obtain ⟨kq, x28_3, rfl, HA, HJ3, ⟨mc3, rfl⟩⟩ := hcut
    cases kq with
    | zero => exact absurd HA.out (by simp [furrowref4_Times.j0])
    | succ kj3 =>
      have H := HA.out
      clear HA
      simp only [furrowref4_Times.j0] at H
      by_cases c10 : x28_3 = true
      · subst c10
        have H1 : (some 0) = some r := by rw [if_pos rfl] at H; exact H
        clear H
        have H := H1
        clear H1
        obtain rfl := Option.some.inj H
        go_wp2
        go_ret
        exact ⟨by first | rfl | (simp; done) | (simp [*]; done), by repeat (first | exact Drawn0.refl _ | apply Drawn0.step)⟩
      · replace c10 := Bool.eq_false_iff.mpr c10
        subst c10
        have H1 : (if a2 < 0 then ((furrowref4_Size.f a2).bind fun t124 => (if t124 = 0 then (none) else (if (IntKind.u64.wrap (Int.tdiv (IntKind.u64.wrap ((IntKind.u64.wrap (a0)) - (IntKind.u64.wrap (a1)))) t124)) = 18446744073709551615 then (some (IntKind.u64.wrap (Int.tdiv (IntKind.u64.wrap ((IntKind.u64.wrap (a0)) - (IntKind.u64.wrap (a1)))) t124))) else (some (IntKind.u64.wrap ((IntKind.u64.wrap (Int.tdiv (IntKind.u64.wrap ((IntKind.u64.wrap (a0)) - (IntKind.u64.wrap (a1)))) t124)) + 1)))))) else ((furrowref4_Size.f a2).bind fun t125 => (if t125 = 0 then (none) else (if (IntKind.u64.wrap (Int.tdiv (IntKind.u64.wrap ((IntKind.u64.wrap (a1)) - (IntKind.u64.wrap (a0)))) t125)) = 18446744073709551615 then (some (IntKind.u64.wrap (Int.tdiv (IntKind.u64.wrap ((IntKind.u64.wrap (a1)) - (IntKind.u64.wrap (a0)))) t125))) else (some (IntKind.u64.wrap ((IntKind.u64.wrap (Int.tdiv (IntKind.u64.wrap ((IntKind.u64.wrap (a1)) - (IntKind.u64.wrap (a0)))) t125)) + 1))))))) = some r := by rw [if_neg (show ¬ (false = true) by decide)] at H; exact H
        clear H
        have H := H1
        clear H1
        by_cases c11 : a2 < 0
        · rw [if_pos c11] at H
          have c11b0 : decide (a2 < 0) = true := decide_eq_true c11
          clear c11
          replace H := Option.bind_eq_some_iff.mp H
          obtain ⟨t124, A120, H⟩ := H
          replace H : (if t124 = 0 then (none) else (if (IntKind.u64.wrap (Int.tdiv (IntKind.u64.wrap ((IntKind.u64.wrap (a0)) - (IntKind.u64.wrap (a1)))) t124)) = 18446744073709551615 then (some (IntKind.u64.wrap (Int.tdiv (IntKind.u64.wrap ((IntKind.u64.wrap (a0)) - (IntKind.u64.wrap (a1)))) t124))) else (some (IntKind.u64.wrap ((IntKind.u64.wrap (Int.tdiv (IntKind.u64.wrap ((IntKind.u64.wrap (a0)) - (IntKind.u64.wrap (a1)))) t124)) + 1))))) = some r := H
          have A12 := Aside0.mk A120
          clear A120
          by_cases c13 : t124 = 0
          · rw [if_pos c13] at H
            exact absurd H (by simp)
          · rw [if_neg c13] at H
            have c13b0 : (t124 == 0) = false := beq_eq_false_iff_ne.mpr c13
            have c13b1 : (t124 != 0) = true := bne_iff_ne.mpr c13
            by_cases c14 : (IntKind.u64.wrap (Int.tdiv (IntKind.u64.wrap ((IntKind.u64.wrap (a0)) - (IntKind.u64.wrap (a1)))) t124)) = 18446744073709551615
            · rw [if_pos c14] at H
              have c14b0 : ((IntKind.u64.wrap (Int.tdiv (IntKind.u64.wrap ((IntKind.u64.wrap (a0)) - (IntKind.u64.wrap (a1)))) t124)) == 18446744073709551615) = true := beq_iff_eq.mpr c14
              have c14b1 : ((IntKind.u64.wrap (Int.tdiv (IntKind.u64.wrap ((IntKind.u64.wrap (a0)) - (IntKind.u64.wrap (a1)))) t124)) != 18446744073709551615) = false := bne_eq_false_iff_eq.mpr c14
              clear c14
              obtain rfl := Option.some.inj H
              go_wp2_with (first | ((with_reducible refine gate_callee (f := 27) rfl ?_); refine goesL_ (some 43) rfl rfl Try.func27 (by kernel_rfl) rfl #[.int .i64 a2] rfl (by (try simp only [List.map_toArray, List.map_cons, List.map_nil]); first | done | rfl | (simp only [List.length_drop, List.length_take]; rfl)) ?_; (with_reducible refine (furrowref4_Size.calls a2 t124 _ A12.out).mono ?_); rintro e w' ⟨rfl, ⟨nd, rfl⟩⟩; refine ⟨_, rfl, ?_⟩))
              go_ret
              exact ⟨by first | rfl | (simp; done) | (simp [*]; done), by repeat (first | exact Drawn0.refl _ | apply Drawn0.step)⟩
            · rw [if_neg c14] at H
              have c14b0 : ((IntKind.u64.wrap (Int.tdiv (IntKind.u64.wrap ((IntKind.u64.wrap (a0)) - (IntKind.u64.wrap (a1)))) t124)) == 18446744073709551615) = false := beq_eq_false_iff_ne.mpr c14
              have c14b1 : ((IntKind.u64.wrap (Int.tdiv (IntKind.u64.wrap ((IntKind.u64.wrap (a0)) - (IntKind.u64.wrap (a1)))) t124)) != 18446744073709551615) = true := bne_iff_ne.mpr c14
              obtain rfl := Option.some.inj H
              go_wp2_with (first | ((with_reducible refine gate_callee (f := 27) rfl ?_); refine goesL_ (some 43) rfl rfl Try.func27 (by kernel_rfl) rfl #[.int .i64 a2] rfl (by (try simp only [List.map_toArray, List.map_cons, List.map_nil]); first | done | rfl | (simp only [List.length_drop, List.length_take]; rfl)) ?_; (with_reducible refine (furrowref4_Size.calls a2 t124 _ A12.out).mono ?_); rintro e w' ⟨rfl, ⟨nd, rfl⟩⟩; refine ⟨_, rfl, ?_⟩))
              go_ret
              exact ⟨by first | rfl | (simp; done) | (simp [*]; done), by repeat (first | exact Drawn0.refl _ | apply Drawn0.step)⟩
        · rw [if_neg c11] at H
          have c11b0 : decide (a2 < 0) = false := decide_eq_false c11
          clear c11
          replace H := Option.bind_eq_some_iff.mp H
          obtain ⟨t125, A150, H⟩ := H
          replace H : (if t125 = 0 then (none) else (if (IntKind.u64.wrap (Int.tdiv (IntKind.u64.wrap ((IntKind.u64.wrap (a1)) - (IntKind.u64.wrap (a0)))) t125)) = 18446744073709551615 then (some (IntKind.u64.wrap (Int.tdiv (IntKind.u64.wrap ((IntKind.u64.wrap (a1)) - (IntKind.u64.wrap (a0)))) t125))) else (some (IntKind.u64.wrap ((IntKind.u64.wrap (Int.tdiv (IntKind.u64.wrap ((IntKind.u64.wrap (a1)) - (IntKind.u64.wrap (a0)))) t125)) + 1))))) = some r := H
          have A15 := Aside0.mk A150
          clear A150
          by_cases c16 : t125 = 0
          · rw [if_pos c16] at H
            exact absurd H (by simp)
          · rw [if_neg c16] at H
            have c16b0 : (t125 == 0) = false := beq_eq_false_iff_ne.mpr c16
            have c16b1 : (t125 != 0) = true := bne_iff_ne.mpr c16
            by_cases c17 : (IntKind.u64.wrap (Int.tdiv (IntKind.u64.wrap ((IntKind.u64.wrap (a1)) - (IntKind.u64.wrap (a0)))) t125)) = 18446744073709551615
            · rw [if_pos c17] at H
              have c17b0 : ((IntKind.u64.wrap (Int.tdiv (IntKind.u64.wrap ((IntKind.u64.wrap (a1)) - (IntKind.u64.wrap (a0)))) t125)) == 18446744073709551615) = true := beq_iff_eq.mpr c17
              have c17b1 : ((IntKind.u64.wrap (Int.tdiv (IntKind.u64.wrap ((IntKind.u64.wrap (a1)) - (IntKind.u64.wrap (a0)))) t125)) != 18446744073709551615) = false := bne_eq_false_iff_eq.mpr c17
              clear c17
              obtain rfl := Option.some.inj H
              go_wp2_with (first | ((with_reducible refine gate_callee (f := 27) rfl ?_); refine goesL_ (some 43) rfl rfl Try.func27 (by kernel_rfl) rfl #[.int .i64 a2] rfl (by (try simp only [List.map_toArray, List.map_cons, List.map_nil]); first | done | rfl | (simp only [List.length_drop, List.length_take]; rfl)) ?_; (with_reducible refine (furrowref4_Size.calls a2 t125 _ A15.out).mono ?_); rintro e w' ⟨rfl, ⟨nd, rfl⟩⟩; refine ⟨_, rfl, ?_⟩))
              go_ret
              exact ⟨by first | rfl | (simp; done) | (simp [*]; done), by repeat (first | exact Drawn0.refl _ | apply Drawn0.step)⟩
            · rw [if_neg c17] at H
              have c17b0 : ((IntKind.u64.wrap (Int.tdiv (IntKind.u64.wrap ((IntKind.u64.wrap (a1)) - (IntKind.u64.wrap (a0)))) t125)) == 18446744073709551615) = false := beq_eq_false_iff_ne.mpr c17
              have c17b1 : ((IntKind.u64.wrap (Int.tdiv (IntKind.u64.wrap ((IntKind.u64.wrap (a1)) - (IntKind.u64.wrap (a0)))) t125)) != 18446744073709551615) = true := bne_iff_ne.mpr c17
              obtain rfl := Option.some.inj H
              go_wp2_with (first | ((with_reducible refine gate_callee (f := 27) rfl ?_); refine goesL_ (some 43) rfl rfl Try.func27 (by kernel_rfl) rfl #[.int .i64 a2] rfl (by (try simp only [List.map_toArray, List.map_cons, List.map_nil]); first | done | rfl | (simp only [List.length_drop, List.length_take]; rfl)) ?_; (with_reducible refine (furrowref4_Size.calls a2 t125 _ A15.out).mono ?_); rintro e w' ⟨rfl, ⟨nd, rfl⟩⟩; refine ⟨_, rfl, ?_⟩))
              go_ret
              exact ⟨by first | rfl | (simp; done) | (simp [*]; done), by repeat (first | exact Drawn0.refl _ | apply Drawn0.step)⟩

/-! ### furrowref4_Last: function 13 -/
def furrowref4_Last.j0 : Nat → Int → Int → Int → Bool → Option (Int)
  | 0, _, _, _, _ => none
  | k + 1, x0, x1, x2, x27 => if x27 = true then (some x0) else (if x2 < 0 then ((furrowref4_Size.f x2).bind fun t126 => (if t126 = 0 then (none) else (some (wrap64 (IntKind.u64.wrap ((IntKind.u64.wrap (x0)) + (IntKind.u64.wrap ((IntKind.u64.wrap (Int.tdiv (IntKind.u64.wrap ((IntKind.u64.wrap (x0)) - (IntKind.u64.wrap (x1)))) t126)) * (IntKind.u64.wrap (x2)))))))))) else ((furrowref4_Size.f x2).bind fun t127 => (if t127 = 0 then (none) else (some (wrap64 (IntKind.u64.wrap ((IntKind.u64.wrap (x0)) + (IntKind.u64.wrap ((IntKind.u64.wrap (Int.tdiv (IntKind.u64.wrap ((IntKind.u64.wrap (x1)) - (IntKind.u64.wrap (x0)))) t127)) * (IntKind.u64.wrap (x2)))))))))))
def furrowref4_Last.f (k : Nat) (a0 : Int) (a1 : Int) (a2 : Int) : Option (Int) := if a2 = 0 then (furrowref4_Last.j0 k a0 a1 a2 true) else (if a2 > 0 then (if a1 < a0 then (furrowref4_Last.j0 k a0 a1 a2 true) else (if a2 < 0 then (furrowref4_Last.j0 k a0 a1 a2 (decide (a1 > a0))) else (furrowref4_Last.j0 k a0 a1 a2 false))) else (if a2 < 0 then (furrowref4_Last.j0 k a0 a1 a2 (decide (a1 > a0))) else (furrowref4_Last.j0 k a0 a1 a2 false)))
theorem furrowref4_Last.mono_l : ∀ k, (∀ y0 y1 y2 y3, LeO (furrowref4_Last.j0 k y0 y1 y2 y3) (furrowref4_Last.j0 (k + 1) y0 y1 y2 y3))
  | 0 => fun _ _ _ _ r h => by simp [furrowref4_Last.j0] at h
  | k + 1 => by
    have ih0 := furrowref4_Last.mono_l k
    · intro y0 y1 y2 y3
      unfold furrowref4_Last.j0
      repeat' first
      | (with_reducible exact ih0 _ _ _ _)
      | (with_reducible exact LeO.refl _)
      | (with_reducible exact LeO.none _)
      | (with_reducible refine LeO.ite ?_ ?_)
      | (with_reducible refine LeO.bind ?_ (fun _ => ?_))
      | exact ih0 _ _ _ _
      | exact LeO.none _
      | refine LeO.ite ?_ ?_
      | refine LeO.bind ?_ (fun _ => ?_)
theorem furrowref4_Last.mono : ∀ a0 a1 a2 k, LeO (furrowref4_Last.f k a0 a1 a2) (furrowref4_Last.f (k + 1) a0 a1 a2) := by
  intro a0 a1 a2 k
  have ih0 := furrowref4_Last.mono_l k
  unfold furrowref4_Last.f
  repeat' first
      | (with_reducible exact ih0 _ _ _ _)
      | (with_reducible exact LeO.refl _)
      | (with_reducible exact LeO.none _)
      | (with_reducible refine LeO.ite ?_ ?_)
      | (with_reducible refine LeO.bind ?_ (fun _ => ?_))
      | exact ih0 _ _ _ _
      | exact LeO.none _
      | refine LeO.ite ?_ ?_
      | refine LeO.bind ?_ (fun _ => ?_)
set_option maxHeartbeats 8000000 in
set_option maxRecDepth 100000 in
theorem furrowref4_Last.calls (k : Nat) (a0 : Int) (a1 : Int) (a2 : Int) (r : Int) (w : World) (h : furrowref4_Last.f k a0 a1 a2 = some r) :
    Calls Try.prog 13 #[.int .i64 a0, .int .i64 a1, .int .i64 a2] w fun e w' => e = .returned (.int .i64 r) ∧ Drawn0 w w' := by
  have H : (if a2 = 0 then (furrowref4_Last.j0 k a0 a1 a2 true) else (if a2 > 0 then (if a1 < a0 then (furrowref4_Last.j0 k a0 a1 a2 true) else (if a2 < 0 then (furrowref4_Last.j0 k a0 a1 a2 (decide (a1 > a0))) else (furrowref4_Last.j0 k a0 a1 a2 false))) else (if a2 < 0 then (furrowref4_Last.j0 k a0 a1 a2 (decide (a1 > a0))) else (furrowref4_Last.j0 k a0 a1 a2 false)))) = some r := h
  clear h
  have HC4 := Aside0.mk H
  clear H
  go_enter Try.func13, Try.ntmps13
  go_upto_region 1 with (fail)
  go_cut [27] (fun v27 wc => ∃ (kq : Nat) (x27_3 : Bool), v27 = .bool x27_3 ∧ Aside0 (furrowref4_Last.j0 kq a0 a1 a2 x27_3 = some r) ∧ Aside0 (kq ≤ k) ∧ Drawn0 w wc)
  case first =>
    have H := HC4.out
    clear HC4
    by_cases c5 : a2 = 0
    · rw [if_pos c5] at H
      have c5b0 : (a2 == 0) = true := beq_iff_eq.mpr c5
      have c5b1 : (a2 != 0) = false := bne_eq_false_iff_eq.mpr c5
      clear c5
      (first | rw [c5b0] | (simp only [i64_w, i32_w]; rw [c5b0]) | skip)
      have H' := Aside0.mk H
      clear H
      go_wp2
      go_meet
      case rel => exact ⟨_, (true), (by first | rfl | (simp; done) | (simp [*]; done)), H', ⟨by first | omega | exact Nat.le_refl _⟩, by repeat (first | exact Drawn0.refl _ | apply Drawn0.step)⟩
    · rw [if_neg c5] at H
      have c5b0 : (a2 == 0) = false := beq_eq_false_iff_ne.mpr c5
      have c5b1 : (a2 != 0) = true := bne_iff_ne.mpr c5
      (first | rw [c5b0] | (simp only [i64_w, i32_w]; rw [c5b0]) | skip)
      by_cases c6 : a2 > 0
      · rw [if_pos c6] at H
        have c6b0 : decide (0 < a2) = true := decide_eq_true c6
        clear c6
        by_cases c7 : a1 < a0
        · rw [if_pos c7] at H
          have c7b0 : decide (a1 < a0) = true := decide_eq_true c7
          clear c7
          have H' := Aside0.mk H
          clear H
          go_wp2
          go_meet
          case rel => exact ⟨_, (true), (by first | rfl | (simp; done) | (simp [*]; done)), H', ⟨by first | omega | exact Nat.le_refl _⟩, by repeat (first | exact Drawn0.refl _ | apply Drawn0.step)⟩
        · rw [if_neg c7] at H
          have c7b0 : decide (a1 < a0) = false := decide_eq_false c7
          clear c7
          by_cases c8 : a2 < 0
          · rw [if_pos c8] at H
            have c8b0 : decide (a2 < 0) = true := decide_eq_true c8
            clear c8
            have H' := Aside0.mk H
            clear H
            go_wp2
            go_meet
            case rel => exact ⟨_, (decide (a1 > a0)), (by first | rfl | (simp; done) | (simp [*]; done)), H', ⟨by first | omega | exact Nat.le_refl _⟩, by repeat (first | exact Drawn0.refl _ | apply Drawn0.step)⟩
          · rw [if_neg c8] at H
            have c8b0 : decide (a2 < 0) = false := decide_eq_false c8
            clear c8
            have H' := Aside0.mk H
            clear H
            go_wp2
            go_meet
            case rel => exact ⟨_, (false), (by first | rfl | (simp; done) | (simp [*]; done)), H', ⟨by first | omega | exact Nat.le_refl _⟩, by repeat (first | exact Drawn0.refl _ | apply Drawn0.step)⟩
      · rw [if_neg c6] at H
        have c6b0 : decide (0 < a2) = false := decide_eq_false c6
        clear c6
        by_cases c9 : a2 < 0
        · rw [if_pos c9] at H
          have c9b0 : decide (a2 < 0) = true := decide_eq_true c9
          clear c9
          have H' := Aside0.mk H
          clear H
          go_wp2
          go_meet
          case rel => exact ⟨_, (decide (a1 > a0)), (by first | rfl | (simp; done) | (simp [*]; done)), H', ⟨by first | omega | exact Nat.le_refl _⟩, by repeat (first | exact Drawn0.refl _ | apply Drawn0.step)⟩
        · rw [if_neg c9] at H
          have c9b0 : decide (a2 < 0) = false := decide_eq_false c9
          clear c9
          have H' := Aside0.mk H
          clear H
          go_wp2
          go_meet
          case rel => exact ⟨_, (false), (by first | rfl | (simp; done) | (simp [*]; done)), H', ⟨by first | omega | exact Nat.le_refl _⟩, by repeat (first | exact Drawn0.refl _ | apply Drawn0.step)⟩
  case rest =>
    clear HC4
    try clear c1
    try clear p2
    try clear c5
    try clear c5b0
    try clear c5b1
    try clear c6
    try clear c6b0
    try clear c7
    try clear c7b0
    try clear c8
    try clear c8b0
    try clear c9
    try clear c9b0
    obtain ⟨kq, x27_3, rfl, HA, HJ3, ⟨mc3, rfl⟩⟩ := hcut
    cases kq with
    | zero => exact absurd HA.out (by simp [furrowref4_Last.j0])
    | succ kj3 =>
      have H := HA.out
      clear HA
      simp only [furrowref4_Last.j0] at H
      by_cases c10 : x27_3 = true
      · subst c10
        have H1 : (some a0) = some r := by rw [if_pos rfl] at H; exact H
        clear H
        have H := H1
        clear H1
        obtain rfl := Option.some.inj H
        go_wp2
        go_ret
        exact ⟨by first | rfl | (simp; done) | (simp [*]; done), by repeat (first | exact Drawn0.refl _ | apply Drawn0.step)⟩
      · replace c10 := Bool.eq_false_iff.mpr c10
        subst c10
        have H1 : (if a2 < 0 then ((furrowref4_Size.f a2).bind fun t126 => (if t126 = 0 then (none) else (some (wrap64 (IntKind.u64.wrap ((IntKind.u64.wrap (a0)) + (IntKind.u64.wrap ((IntKind.u64.wrap (Int.tdiv (IntKind.u64.wrap ((IntKind.u64.wrap (a0)) - (IntKind.u64.wrap (a1)))) t126)) * (IntKind.u64.wrap (a2)))))))))) else ((furrowref4_Size.f a2).bind fun t127 => (if t127 = 0 then (none) else (some (wrap64 (IntKind.u64.wrap ((IntKind.u64.wrap (a0)) + (IntKind.u64.wrap ((IntKind.u64.wrap (Int.tdiv (IntKind.u64.wrap ((IntKind.u64.wrap (a1)) - (IntKind.u64.wrap (a0)))) t127)) * (IntKind.u64.wrap (a2))))))))))) = some r := by rw [if_neg (show ¬ (false = true) by decide)] at H; exact H
        clear H
        have H := H1
        clear H1
        by_cases c11 : a2 < 0
        · rw [if_pos c11] at H
          have c11b0 : decide (a2 < 0) = true := decide_eq_true c11
          clear c11
          replace H := Option.bind_eq_some_iff.mp H
          obtain ⟨t126, A120, H⟩ := H
          replace H : (if t126 = 0 then (none) else (some (wrap64 (IntKind.u64.wrap ((IntKind.u64.wrap (a0)) + (IntKind.u64.wrap ((IntKind.u64.wrap (Int.tdiv (IntKind.u64.wrap ((IntKind.u64.wrap (a0)) - (IntKind.u64.wrap (a1)))) t126)) * (IntKind.u64.wrap (a2))))))))) = some r := H
          have A12 := Aside0.mk A120
          clear A120
          by_cases c13 : t126 = 0
          · rw [if_pos c13] at H
            exact absurd H (by simp)
          · rw [if_neg c13] at H
            have c13b0 : (t126 == 0) = false := beq_eq_false_iff_ne.mpr c13
            have c13b1 : (t126 != 0) = true := bne_iff_ne.mpr c13
            obtain rfl := Option.some.inj H
            go_wp2_with (first | ((with_reducible refine gate_callee (f := 27) rfl ?_); refine goesL_ (some 45) rfl rfl Try.func27 (by kernel_rfl) rfl #[.int .i64 a2] rfl (by (try simp only [List.map_toArray, List.map_cons, List.map_nil]); first | done | rfl | (simp only [List.length_drop, List.length_take]; rfl)) ?_; (with_reducible refine (furrowref4_Size.calls a2 t126 _ A12.out).mono ?_); rintro e w' ⟨rfl, ⟨nd, rfl⟩⟩; refine ⟨_, rfl, ?_⟩))
            go_ret
            exact ⟨by first | rfl | (simp; done) | (simp [*]; done), by repeat (first | exact Drawn0.refl _ | apply Drawn0.step)⟩
        · rw [if_neg c11] at H
          have c11b0 : decide (a2 < 0) = false := decide_eq_false c11
          clear c11
          replace H := Option.bind_eq_some_iff.mp H
          obtain ⟨t127, A140, H⟩ := H
          replace H : (if t127 = 0 then (none) else (some (wrap64 (IntKind.u64.wrap ((IntKind.u64.wrap (a0)) + (IntKind.u64.wrap ((IntKind.u64.wrap (Int.tdiv (IntKind.u64.wrap ((IntKind.u64.wrap (a1)) - (IntKind.u64.wrap (a0)))) t127)) * (IntKind.u64.wrap (a2))))))))) = some r := H
          have A14 := Aside0.mk A140
          clear A140
          by_cases c15 : t127 = 0
          · rw [if_pos c15] at H
            exact absurd H (by simp)
          · rw [if_neg c15] at H
            have c15b0 : (t127 == 0) = false := beq_eq_false_iff_ne.mpr c15
            have c15b1 : (t127 != 0) = true := bne_iff_ne.mpr c15
            obtain rfl := Option.some.inj H
            go_wp2_with (first | ((with_reducible refine gate_callee (f := 27) rfl ?_); refine goesL_ (some 45) rfl rfl Try.func27 (by kernel_rfl) rfl #[.int .i64 a2] rfl (by (try simp only [List.map_toArray, List.map_cons, List.map_nil]); first | done | rfl | (simp only [List.length_drop, List.length_take]; rfl)) ?_; (with_reducible refine (furrowref4_Size.calls a2 t127 _ A14.out).mono ?_); rintro e w' ⟨rfl, ⟨nd, rfl⟩⟩; refine ⟨_, rfl, ?_⟩))
            go_ret
            exact ⟨by first | rfl | (simp; done) | (simp [*]; done), by repeat (first | exact Drawn0.refl _ | apply Drawn0.step)⟩

/-! ### furrowlaw1_NumLoops: function 3 -/
def furrowlaw1_NumLoops.f (k : Nat) (a0 : Int) (a1 : Int) (a2 : Int) : Option (Bool) := (furrowlaw1_known.f k).bind fun t128 => (if t128 = true then ((num_Times.f a0 a1 a2).bind fun t129 => ((furrowref4_Times.f k a0 a1 a2).bind fun t130 => (if t129 = t130 then ((num_Last.f a0 a1 a2).bind fun t131 => ((furrowref4_Last.f k a0 a1 a2).bind fun t132 => (some (t131 == t132)))) else (some false)))) else (some false))
theorem furrowlaw1_NumLoops.mono : ∀ a0 a1 a2 k, LeO (furrowlaw1_NumLoops.f k a0 a1 a2) (furrowlaw1_NumLoops.f (k + 1) a0 a1 a2) := by
  intro a0 a1 a2 k
  unfold furrowlaw1_NumLoops.f
  repeat' first
      | (with_reducible exact furrowlaw1_known.mono _)
      | (with_reducible exact furrowref4_Last.mono _ _ _ _)
      | (with_reducible exact furrowref4_Times.mono _ _ _ _)
      | (with_reducible exact LeO.refl _)
      | (with_reducible exact LeO.none _)
      | (with_reducible refine LeO.ite ?_ ?_)
      | (with_reducible refine LeO.bind ?_ (fun _ => ?_))
      | exact furrowlaw1_known.mono _
      | exact furrowref4_Last.mono _ _ _ _
      | exact furrowref4_Times.mono _ _ _ _
      | exact LeO.none _
      | refine LeO.ite ?_ ?_
      | refine LeO.bind ?_ (fun _ => ?_)
set_option maxHeartbeats 8000000 in
set_option maxRecDepth 100000 in
theorem furrowlaw1_NumLoops.calls (k : Nat) (a0 : Int) (a1 : Int) (a2 : Int) (r : Bool) (w : World) (h : furrowlaw1_NumLoops.f k a0 a1 a2 = some r) :
    Calls Try.prog 3 #[.int .i64 a0, .int .i64 a1, .int .i64 a2] w fun e w' => e = .returned (.bool r) ∧ Drawn0 w w' := by
  have H : ((furrowlaw1_known.f k).bind fun t128 => (if t128 = true then ((num_Times.f a0 a1 a2).bind fun t129 => ((furrowref4_Times.f k a0 a1 a2).bind fun t130 => (if t129 = t130 then ((num_Last.f a0 a1 a2).bind fun t131 => ((furrowref4_Last.f k a0 a1 a2).bind fun t132 => (some (t131 == t132)))) else (some false)))) else (some false))) = some r := h
  clear h
  replace H := Option.bind_eq_some_iff.mp H
  obtain ⟨t128, A40, H⟩ := H
  replace H : (if t128 = true then ((num_Times.f a0 a1 a2).bind fun t129 => ((furrowref4_Times.f k a0 a1 a2).bind fun t130 => (if t129 = t130 then ((num_Last.f a0 a1 a2).bind fun t131 => ((furrowref4_Last.f k a0 a1 a2).bind fun t132 => (some (t131 == t132)))) else (some false)))) else (some false)) = some r := H
  have A4 := Aside0.mk A40
  clear A40
  by_cases c5 : t128 = true
  · subst c5
    have H1 : ((num_Times.f a0 a1 a2).bind fun t129 => ((furrowref4_Times.f k a0 a1 a2).bind fun t130 => (if t129 = t130 then ((num_Last.f a0 a1 a2).bind fun t131 => ((furrowref4_Last.f k a0 a1 a2).bind fun t132 => (some (t131 == t132)))) else (some false)))) = some r := by rw [if_pos rfl] at H; exact H
    clear H
    have H := H1
    clear H1
    replace H := Option.bind_eq_some_iff.mp H
    obtain ⟨t129, A60, H⟩ := H
    replace H : ((furrowref4_Times.f k a0 a1 a2).bind fun t130 => (if t129 = t130 then ((num_Last.f a0 a1 a2).bind fun t131 => ((furrowref4_Last.f k a0 a1 a2).bind fun t132 => (some (t131 == t132)))) else (some false))) = some r := H
    have A6 := Aside0.mk A60
    clear A60
    replace H := Option.bind_eq_some_iff.mp H
    obtain ⟨t130, A70, H⟩ := H
    replace H : (if t129 = t130 then ((num_Last.f a0 a1 a2).bind fun t131 => ((furrowref4_Last.f k a0 a1 a2).bind fun t132 => (some (t131 == t132)))) else (some false)) = some r := H
    have A7 := Aside0.mk A70
    clear A70
    by_cases c8 : t129 = t130
    · rw [if_pos c8] at H
      have c8b0 : (t129 == t130) = true := beq_iff_eq.mpr c8
      have c8b1 : (t129 != t130) = false := bne_eq_false_iff_eq.mpr c8
      clear c8
      replace H := Option.bind_eq_some_iff.mp H
      obtain ⟨t131, A90, H⟩ := H
      replace H : ((furrowref4_Last.f k a0 a1 a2).bind fun t132 => (some (t131 == t132))) = some r := H
      have A9 := Aside0.mk A90
      clear A90
      replace H := Option.bind_eq_some_iff.mp H
      obtain ⟨t132, A100, H⟩ := H
      replace H : (some (t131 == t132)) = some r := H
      have A10 := Aside0.mk A100
      clear A100
      obtain rfl := Option.some.inj H
      go_enter Try.func3, Try.ntmps3
      go_wp2_with (first | ((with_reducible refine gate_callee (f := 9) rfl ?_); refine goesL_ (some 7) rfl rfl Try.func9 (by kernel_rfl) rfl #[] rfl (by (try simp only [List.map_toArray, List.map_cons, List.map_nil]); first | done | rfl | (simp only [List.length_drop, List.length_take]; rfl)) ?_; (with_reducible refine (furrowlaw1_known.calls k  true _ A4.out).mono ?_); rintro e w' ⟨rfl, ⟨nd, rfl⟩⟩; refine ⟨_, rfl, ?_⟩) | ((with_reducible refine gate_callee (f := 10) rfl ?_); refine goesL_ (some 12) rfl rfl Try.func10 (by kernel_rfl) rfl #[.int .i64 a0, .int .i64 a1, .int .i64 a2] rfl (by (try simp only [List.map_toArray, List.map_cons, List.map_nil]); first | done | rfl | (simp only [List.length_drop, List.length_take]; rfl)) ?_; (with_reducible refine (num_Times.calls a0 a1 a2 t129 _ A6.out).mono ?_); rintro e w' ⟨rfl, ⟨nd, rfl⟩⟩; refine ⟨_, rfl, ?_⟩) | ((with_reducible refine gate_callee (f := 11) rfl ?_); refine goesL_ (some 16) rfl rfl Try.func11 (by kernel_rfl) rfl #[.int .i64 a0, .int .i64 a1, .int .i64 a2] rfl (by (try simp only [List.map_toArray, List.map_cons, List.map_nil]); first | done | rfl | (simp only [List.length_drop, List.length_take]; rfl)) ?_; (with_reducible refine (furrowref4_Times.calls k a0 a1 a2 t130 _ A7.out).mono ?_); rintro e w' ⟨rfl, ⟨nd, rfl⟩⟩; refine ⟨_, rfl, ?_⟩) | (go_at_call 12; (with_reducible refine (num_Last.calls a0 a1 a2 t131 _ A9.out).mono ?_); rintro e w' ⟨rfl, ⟨nd, rfl⟩⟩) | (go_at_call 13; (with_reducible refine (furrowref4_Last.calls k a0 a1 a2 t132 _ A10.out).mono ?_); rintro e w' ⟨rfl, ⟨nd, rfl⟩⟩))
      go_ret
      exact ⟨by first | rfl | (simp; done) | (simp [*]; done), by repeat (first | exact Drawn0.refl _ | apply Drawn0.step)⟩
    · rw [if_neg c8] at H
      have c8b0 : (t129 == t130) = false := beq_eq_false_iff_ne.mpr c8
      have c8b1 : (t129 != t130) = true := bne_iff_ne.mpr c8
      obtain rfl := Option.some.inj H
      go_enter Try.func3, Try.ntmps3
      go_wp2_with (first | ((with_reducible refine gate_callee (f := 9) rfl ?_); refine goesL_ (some 7) rfl rfl Try.func9 (by kernel_rfl) rfl #[] rfl (by (try simp only [List.map_toArray, List.map_cons, List.map_nil]); first | done | rfl | (simp only [List.length_drop, List.length_take]; rfl)) ?_; (with_reducible refine (furrowlaw1_known.calls k  true _ A4.out).mono ?_); rintro e w' ⟨rfl, ⟨nd, rfl⟩⟩; refine ⟨_, rfl, ?_⟩) | ((with_reducible refine gate_callee (f := 10) rfl ?_); refine goesL_ (some 12) rfl rfl Try.func10 (by kernel_rfl) rfl #[.int .i64 a0, .int .i64 a1, .int .i64 a2] rfl (by (try simp only [List.map_toArray, List.map_cons, List.map_nil]); first | done | rfl | (simp only [List.length_drop, List.length_take]; rfl)) ?_; (with_reducible refine (num_Times.calls a0 a1 a2 t129 _ A6.out).mono ?_); rintro e w' ⟨rfl, ⟨nd, rfl⟩⟩; refine ⟨_, rfl, ?_⟩) | ((with_reducible refine gate_callee (f := 11) rfl ?_); refine goesL_ (some 16) rfl rfl Try.func11 (by kernel_rfl) rfl #[.int .i64 a0, .int .i64 a1, .int .i64 a2] rfl (by (try simp only [List.map_toArray, List.map_cons, List.map_nil]); first | done | rfl | (simp only [List.length_drop, List.length_take]; rfl)) ?_; (with_reducible refine (furrowref4_Times.calls k a0 a1 a2 t130 _ A7.out).mono ?_); rintro e w' ⟨rfl, ⟨nd, rfl⟩⟩; refine ⟨_, rfl, ?_⟩))
      go_ret
      exact ⟨by first | rfl | (simp; done) | (simp [*]; done), by repeat (first | exact Drawn0.refl _ | apply Drawn0.step)⟩
  · replace c5 := Bool.eq_false_iff.mpr c5
    subst c5
    have H1 : (some false) = some r := by rw [if_neg (show ¬ (false = true) by decide)] at H; exact H
    clear H
    have H := H1
    clear H1
    obtain rfl := Option.some.inj H
    go_enter Try.func3, Try.ntmps3
    go_wp2_with (first | ((with_reducible refine gate_callee (f := 9) rfl ?_); refine goesL_ (some 7) rfl rfl Try.func9 (by kernel_rfl) rfl #[] rfl (by (try simp only [List.map_toArray, List.map_cons, List.map_nil]); first | done | rfl | (simp only [List.length_drop, List.length_take]; rfl)) ?_; (with_reducible refine (furrowlaw1_known.calls k  false _ A4.out).mono ?_); rintro e w' ⟨rfl, ⟨nd, rfl⟩⟩; refine ⟨_, rfl, ?_⟩))
    go_ret
    exact ⟨by first | rfl | (simp; done) | (simp [*]; done), by repeat (first | exact Drawn0.refl _ | apply Drawn0.step)⟩

/-- THE ONE PURE STATEMENT of furrowlaw1_NumLoops: yours. -/
def furrowlaw1_NumLoops.Pure : Prop := ∀ (a0 : Int) (a1 : Int) (a2 : Int), (Lit.int .i64 a0).wf = true → (Lit.int .i64 a1).wf = true → (Lit.int .i64 a2).wf = true → ∃ k, furrowlaw1_NumLoops.f k a0 a1 a2 = some true
theorem furrowlaw1_NumLoops.walk (P : furrowlaw1_NumLoops.Pure) (a0 : Int) (a1 : Int) (a2 : Int) (w : World) (w0 : (Lit.int .i64 a0).wf = true) (w1 : (Lit.int .i64 a1).wf = true) (w2 : (Lit.int .i64 a2).wf = true) :
    Calls Try.prog 3 #[.int .i64 a0, .int .i64 a1, .int .i64 a2] w fun e w' => e = .returned (.bool true) ∧ Below w.heap.size w w' := by
  obtain ⟨k, h⟩ := P a0 a1 a2 w0 w1 w2
  refine (furrowlaw1_NumLoops.calls k a0 a1 a2 true w h).mono ?_
  rintro e w' ⟨rfl, hd⟩
  exact ⟨rfl, hd.below⟩

end Go.Proofs.Ytfjfgcnbokefbaa.PNumLoops
