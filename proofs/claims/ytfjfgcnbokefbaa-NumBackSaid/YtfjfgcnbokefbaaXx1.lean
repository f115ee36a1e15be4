-- PRINTED by print.py (a twelfth state) out of the translation. Not trusted: Lean checks it.
import Derived.Test.YtfjfgcnbokefbaaXx0
namespace Go.Proofs.Ytfjfgcnbokefbaa.X
open Go.Proofs.Ytfjfgcnbokefbaa.Flt Go.Proofs.Ytfjfgcnbokefbaa.H Go.RowKit Go.Proofs.YtfjfgcnbokefbaaW.PrintWords Go.Proofs.YtfjfgcnbokefbaaW.PrintLast Go.Proofs.YtfjfgcnbokefbaaW.PrintMore
attribute [local go_sem] max2_int min2_int max_two min_two max_three min_three max_four min_four   -- for this text's walks alone
set_option linter.unusedVariables false
set_option linter.unusedSimpArgs false

/-! ### num_size: function 28 -/
def num_size.f (a0 : Int) : Option (Int) := if a0 < 0 then (some (IntKind.u64.wrap (-(IntKind.u64.wrap (a0))))) else (some (IntKind.u64.wrap (a0)))
set_option maxHeartbeats 8000000 in
set_option maxRecDepth 100000 in
theorem num_size.calls (a0 : Int) (r : Int) (w : World) (h : num_size.f a0 = some r) :
    Calls Try.prog 28 #[.int .i64 a0] w fun e w' => e = .returned (.int .u64 r) ∧ Drawn0 w w' := by
  have H : (if a0 < 0 then (some (IntKind.u64.wrap (-(IntKind.u64.wrap (a0))))) else (some (IntKind.u64.wrap (a0)))) = some r := h
  clear h
  by_cases c2 : a0 < 0
  · rw [if_pos c2] at H
    have c2b0 : decide (a0 < 0) = true := decide_eq_true c2
    clear c2
    obtain rfl := Option.some.inj H
    go_enter Try.func28, Try.ntmps28
    go_wp2
    go_ret
    exact ⟨by first | rfl | (simp; done) | (simp [*]; done), by repeat (first | exact Drawn0.refl _ | apply Drawn0.step)⟩
  · rw [if_neg c2] at H
    have c2b0 : decide (a0 < 0) = false := decide_eq_false c2
    clear c2
    obtain rfl := Option.some.inj H
    go_enter Try.func28, Try.ntmps28
    go_wp2
    go_ret
    exact ⟨by first | rfl | (simp; done) | (simp [*]; done), by repeat (first | exact Drawn0.refl _ | apply Drawn0.step)⟩

/-! ### num_way: function 26 -/
def num_way.f (a0 : Int) (a1 : Int) (a2 : Int) : Option (Int × Int × Bool) := if a2 < 0 then ((num_size.f a2).bind fun t101 => (some (IntKind.u64.wrap ((IntKind.u64.wrap (a0)) - (IntKind.u64.wrap (a1))), t101, decide (a0 ≥ a1)))) else (if a2 > 0 then ((num_size.f a2).bind fun t102 => (some (IntKind.u64.wrap ((IntKind.u64.wrap (a1)) - (IntKind.u64.wrap (a0))), t102, decide (a1 ≥ a0)))) else (some (0, 0, false)))
set_option maxHeartbeats 8000000 in
set_option maxRecDepth 100000 in
theorem num_way.calls (a0 : Int) (a1 : Int) (a2 : Int) (r1 : Int) (r2 : Int) (r3 : Bool) (w : World) (h : num_way.f a0 a1 a2 = some (r1, r2, r3)) :
    Calls Try.prog 26 #[.int .i64 a0, .int .i64 a1, .int .i64 a2] w fun e w' => e = .returned (.tuple #[.int .u64 r1, .int .u64 r2, .bool r3]) ∧ Drawn0 w w' := by
  have H : (if a2 < 0 then ((num_size.f a2).bind fun t101 => (some (IntKind.u64.wrap ((IntKind.u64.wrap (a0)) - (IntKind.u64.wrap (a1))), t101, decide (a0 ≥ a1)))) else (if a2 > 0 then ((num_size.f a2).bind fun t102 => (some (IntKind.u64.wrap ((IntKind.u64.wrap (a1)) - (IntKind.u64.wrap (a0))), t102, decide (a1 ≥ a0)))) else (some (0, 0, false)))) = some (r1, r2, r3) := h
  clear h
  by_cases c4 : a2 < 0
  · rw [if_pos c4] at H
    have c4b0 : decide (a2 < 0) = true := decide_eq_true c4
    clear c4
    replace H := Option.bind_eq_some_iff.mp H
    obtain ⟨t101, A50, H⟩ := H
    replace H : (some (IntKind.u64.wrap ((IntKind.u64.wrap (a0)) - (IntKind.u64.wrap (a1))), t101, decide (a0 ≥ a1))) = some (r1, r2, r3) := H
    have A5 := Aside0.mk A50
    clear A50
    simp only [Option.some.injEq, Prod.mk.injEq] at H
    obtain ⟨rfl, rfl, rfl⟩ := H
    go_enter Try.func26, Try.ntmps26
    go_wp2_with (first | ((with_reducible refine gate_callee (f := 28) rfl ?_); refine goesL_ (some 23) rfl rfl Try.func28 (by kernel_rfl) rfl #[.int .i64 a2] rfl (by (try simp only [List.map_toArray, List.map_cons, List.map_nil]); first | done | rfl | (simp only [List.length_drop, List.length_take]; rfl)) ?_; (with_reducible refine (num_size.calls a2 t101 _ A5.out).mono ?_); rintro e w' ⟨rfl, ⟨nd, rfl⟩⟩; refine ⟨_, rfl, ?_⟩))
    go_ret3
    exact ⟨by first | rfl | (simp; done) | (simp [*]; done), by repeat (first | exact Drawn0.refl _ | apply Drawn0.step)⟩
  · rw [if_neg c4] at H
    have c4b0 : decide (a2 < 0) = false := decide_eq_false c4
    clear c4
    by_cases c6 : a2 > 0
    · rw [if_pos c6] at H
      have c6b0 : decide (0 < a2) = true := decide_eq_true c6
      clear c6
      replace H := Option.bind_eq_some_iff.mp H
      obtain ⟨t102, A70, H⟩ := H
      replace H : (some (IntKind.u64.wrap ((IntKind.u64.wrap (a1)) - (IntKind.u64.wrap (a0))), t102, decide (a1 ≥ a0))) = some (r1, r2, r3) := H
      have A7 := Aside0.mk A70
      clear A70
      simp only [Option.some.injEq, Prod.mk.injEq] at H
      obtain ⟨rfl, rfl, rfl⟩ := H
      go_enter Try.func26, Try.ntmps26
      go_wp2_with (first | ((with_reducible refine gate_callee (f := 28) rfl ?_); refine goesL_ (some 23) rfl rfl Try.func28 (by kernel_rfl) rfl #[.int .i64 a2] rfl (by (try simp only [List.map_toArray, List.map_cons, List.map_nil]); first | done | rfl | (simp only [List.length_drop, List.length_take]; rfl)) ?_; (with_reducible refine (num_size.calls a2 t102 _ A7.out).mono ?_); rintro e w' ⟨rfl, ⟨nd, rfl⟩⟩; refine ⟨_, rfl, ?_⟩))
      go_ret3
      exact ⟨by first | rfl | (simp; done) | (simp [*]; done), by repeat (first | exact Drawn0.refl _ | apply Drawn0.step)⟩
    · rw [if_neg c6] at H
      have c6b0 : decide (0 < a2) = false := decide_eq_false c6
      clear c6
      simp only [Option.some.injEq, Prod.mk.injEq] at H
      obtain ⟨rfl, rfl, rfl⟩ := H
      go_enter Try.func26, Try.ntmps26
      go_wp2
      go_ret3
      exact ⟨by first | rfl | (simp; done) | (simp [*]; done), by repeat (first | exact Drawn0.refl _ | apply Drawn0.step)⟩

/-! ### num_Times: function 10 -/
def num_Times.f (a0 : Int) (a1 : Int) (a2 : Int) : Option (Int) := (num_way.f a0 a1 a2).bind fun bt103 => (if bt103.2.2 = true then (if bt103.2.1 = 0 then (none) else (if (IntKind.u64.wrap (Int.tdiv bt103.1 bt103.2.1)) = 18446744073709551615 then (some (IntKind.u64.wrap (Int.tdiv bt103.1 bt103.2.1))) else (some (IntKind.u64.wrap ((IntKind.u64.wrap (Int.tdiv bt103.1 bt103.2.1)) + 1))))) else (some 0))
set_option maxHeartbeats 8000000 in
set_option maxRecDepth 100000 in
theorem num_Times.calls (a0 : Int) (a1 : Int) (a2 : Int) (r : Int) (w : World) (h : num_Times.f a0 a1 a2 = some r) :
    Calls Try.prog 10 #[.int .i64 a0, .int .i64 a1, .int .i64 a2] w fun e w' => e = .returned (.int .u64 r) ∧ Drawn0 w w' := by
  have H : ((num_way.f a0 a1 a2).bind fun bt103 => (if bt103.2.2 = true then (if bt103.2.1 = 0 then (none) else (if (IntKind.u64.wrap (Int.tdiv bt103.1 bt103.2.1)) = 18446744073709551615 then (some (IntKind.u64.wrap (Int.tdiv bt103.1 bt103.2.1))) else (some (IntKind.u64.wrap ((IntKind.u64.wrap (Int.tdiv bt103.1 bt103.2.1)) + 1))))) else (some 0))) = some r := h
  clear h
  replace H := Option.bind_eq_some_iff.mp H
  obtain ⟨⟨t103, t104, t105⟩, A40, H⟩ := H
  replace H : (if t105 = true then (if t104 = 0 then (none) else (if (IntKind.u64.wrap (Int.tdiv t103 t104)) = 18446744073709551615 then (some (IntKind.u64.wrap (Int.tdiv t103 t104))) else (some (IntKind.u64.wrap ((IntKind.u64.wrap (Int.tdiv t103 t104)) + 1))))) else (some 0)) = some r := H
  have A4 := Aside0.mk A40
  clear A40
  by_cases c5 : t105 = true
  · subst c5
    have H1 : (if t104 = 0 then (none) else (if (IntKind.u64.wrap (Int.tdiv t103 t104)) = 18446744073709551615 then (some (IntKind.u64.wrap (Int.tdiv t103 t104))) else (some (IntKind.u64.wrap ((IntKind.u64.wrap (Int.tdiv t103 t104)) + 1))))) = some r := by rw [if_pos rfl] at H; exact H
    clear H
    have H := H1
    clear H1
    by_cases c6 : t104 = 0
    · rw [if_pos c6] at H
      exact absurd H (by simp)
    · rw [if_neg c6] at H
      have c6b0 : (t104 == 0) = false := beq_eq_false_iff_ne.mpr c6
      have c6b1 : (t104 != 0) = true := bne_iff_ne.mpr c6
      by_cases c7 : (IntKind.u64.wrap (Int.tdiv t103 t104)) = 18446744073709551615
      · rw [if_pos c7] at H
        have c7b0 : ((IntKind.u64.wrap (Int.tdiv t103 t104)) == 18446744073709551615) = true := beq_iff_eq.mpr c7
        have c7b1 : ((IntKind.u64.wrap (Int.tdiv t103 t104)) != 18446744073709551615) = false := bne_eq_false_iff_eq.mpr c7
        clear c7
        obtain rfl := Option.some.inj H
        go_enter Try.func10, Try.ntmps10
        go_wp2_with (first | ((with_reducible refine gate_callee (f := 26) rfl ?_); refine goesL_ (some 15) rfl rfl Try.func26 (by kernel_rfl) rfl #[.int .i64 a0, .int .i64 a1, .int .i64 a2] rfl (by (try simp only [List.map_toArray, List.map_cons, List.map_nil]); first | done | rfl | (simp only [List.length_drop, List.length_take]; rfl)) ?_; (with_reducible refine (num_way.calls a0 a1 a2 t103 t104 true _ A4.out).mono ?_); rintro e w' ⟨rfl, ⟨nd, rfl⟩⟩; refine ⟨_, rfl, ?_⟩))
        go_ret
        exact ⟨by first | rfl | (simp; done) | (simp [*]; done), by repeat (first | exact Drawn0.refl _ | apply Drawn0.step)⟩
      · rw [if_neg c7] at H
        have c7b0 : ((IntKind.u64.wrap (Int.tdiv t103 t104)) == 18446744073709551615) = false := beq_eq_false_iff_ne.mpr c7
        have c7b1 : ((IntKind.u64.wrap (Int.tdiv t103 t104)) != 18446744073709551615) = true := bne_iff_ne.mpr c7
        obtain rfl := Option.some.inj H
        go_enter Try.func10, Try.ntmps10
        go_wp2_with (first | ((with_reducible refine gate_callee (f := 26) rfl ?_); refine goesL_ (some 15) rfl rfl Try.func26 (by kernel_rfl) rfl #[.int .i64 a0, .int .i64 a1, .int .i64 a2] rfl (by (try simp only [List.map_toArray, List.map_cons, List.map_nil]); first | done | rfl | (simp only [List.length_drop, List.length_take]; rfl)) ?_; (with_reducible refine (num_way.calls a0 a1 a2 t103 t104 true _ A4.out).mono ?_); rintro e w' ⟨rfl, ⟨nd, rfl⟩⟩; refine ⟨_, rfl, ?_⟩))
        go_ret
        exact ⟨by first | rfl | (simp; done) | (simp [*]; done), by repeat (first | exact Drawn0.refl _ | apply Drawn0.step)⟩
  · replace c5 := Bool.eq_false_iff.mpr c5
    subst c5
    have H1 : (some 0) = some r := by rw [if_neg (show ¬ (false = true) by decide)] at H; exact H
    clear H
    have H := H1
    clear H1
    obtain rfl := Option.some.inj H
    go_enter Try.func10, Try.ntmps10
    go_wp2_with (first | ((with_reducible refine gate_callee (f := 26) rfl ?_); refine goesL_ (some 15) rfl rfl Try.func26 (by kernel_rfl) rfl #[.int .i64 a0, .int .i64 a1, .int .i64 a2] rfl (by (try simp only [List.map_toArray, List.map_cons, List.map_nil]); first | done | rfl | (simp only [List.length_drop, List.length_take]; rfl)) ?_; (with_reducible refine (num_way.calls a0 a1 a2 t103 t104 false _ A4.out).mono ?_); rintro e w' ⟨rfl, ⟨nd, rfl⟩⟩; refine ⟨_, rfl, ?_⟩))
    go_ret
    exact ⟨by first | rfl | (simp; done) | (simp [*]; done), by repeat (first | exact Drawn0.refl _ | apply Drawn0.step)⟩

/-! ### num_Last: function 12 -/
def num_Last.f (a0 : Int) (a1 : Int) (a2 : Int) : Option (Int) := (num_way.f a0 a1 a2).bind fun bt106 => (if bt106.2.2 = true then (if a2 < 0 then (if bt106.2.1 = 0 then (none) else (some (wrap64 (IntKind.u64.wrap ((IntKind.u64.wrap (a0)) - (IntKind.u64.wrap (bt106.1 - (Int.tmod bt106.1 bt106.2.1)))))))) else (if bt106.2.1 = 0 then (none) else (some (wrap64 (IntKind.u64.wrap ((IntKind.u64.wrap (a0)) + (IntKind.u64.wrap (bt106.1 - (Int.tmod bt106.1 bt106.2.1))))))))) else (some a0))
set_option maxHeartbeats 8000000 in
set_option maxRecDepth 100000 in
theorem num_Last.calls (a0 : Int) (a1 : Int) (a2 : Int) (r : Int) (w : World) (h : num_Last.f a0 a1 a2 = some r) :
    Calls Try.prog 12 #[.int .i64 a0, .int .i64 a1, .int .i64 a2] w fun e w' => e = .returned (.int .i64 r) ∧ Drawn0 w w' := by
  have H : ((num_way.f a0 a1 a2).bind fun bt106 => (if bt106.2.2 = true then (if a2 < 0 then (if bt106.2.1 = 0 then (none) else (some (wrap64 (IntKind.u64.wrap ((IntKind.u64.wrap (a0)) - (IntKind.u64.wrap (bt106.1 - (Int.tmod bt106.1 bt106.2.1)))))))) else (if bt106.2.1 = 0 then (none) else (some (wrap64 (IntKind.u64.wrap ((IntKind.u64.wrap (a0)) + (IntKind.u64.wrap (bt106.1 - (Int.tmod bt106.1 bt106.2.1))))))))) else (some a0))) = some r := h
  clear h
  replace H := Option.bind_eq_some_iff.mp H
  obtain ⟨⟨t106, t107, t108⟩, A40, H⟩ := H
  replace H : (if t108 = true then (if a2 < 0 then (if t107 = 0 then (none) else (some (wrap64 (IntKind.u64.wrap ((IntKind.u64.wrap (a0)) - (IntKind.u64.wrap (t106 - (Int.tmod t106 t107)))))))) else (if t107 = 0 then (none) else (some (wrap64 (IntKind.u64.wrap ((IntKind.u64.wrap (a0)) + (IntKind.u64.wrap (t106 - (Int.tmod t106 t107))))))))) else (some a0)) = some r := H
  have A4 := Aside0.mk A40
  clear A40
  by_cases c5 : t108 = true
  · subst c5
    have H1 : (if a2 < 0 then (if t107 = 0 then (none) else (some (wrap64 (IntKind.u64.wrap ((IntKind.u64.wrap (a0)) - (IntKind.u64.wrap (t106 - (Int.tmod t106 t107)))))))) else (if t107 = 0 then (none) else (some (wrap64 (IntKind.u64.wrap ((IntKind.u64.wrap (a0)) + (IntKind.u64.wrap (t106 - (Int.tmod t106 t107))))))))) = some r := by rw [if_pos rfl] at H; exact H
    clear H
    have H := H1
    clear H1
    by_cases c6 : a2 < 0
    · rw [if_pos c6] at H
      have c6b0 : decide (a2 < 0) = true := decide_eq_true c6
      clear c6
      by_cases c7 : t107 = 0
      · rw [if_pos c7] at H
        exact absurd H (by simp)
      · rw [if_neg c7] at H
        have c7b0 : (t107 == 0) = false := beq_eq_false_iff_ne.mpr c7
        have c7b1 : (t107 != 0) = true := bne_iff_ne.mpr c7
        obtain rfl := Option.some.inj H
        go_enter Try.func12, Try.ntmps12
        go_wp2_with (first | ((with_reducible refine gate_callee (f := 26) rfl ?_); refine goesL_ (some 14) rfl rfl Try.func26 (by kernel_rfl) rfl #[.int .i64 a0, .int .i64 a1, .int .i64 a2] rfl (by (try simp only [List.map_toArray, List.map_cons, List.map_nil]); first | done | rfl | (simp only [List.length_drop, List.length_take]; rfl)) ?_; (with_reducible refine (num_way.calls a0 a1 a2 t106 t107 true _ A4.out).mono ?_); rintro e w' ⟨rfl, ⟨nd, rfl⟩⟩; refine ⟨_, rfl, ?_⟩))
        go_ret
        exact ⟨by first | rfl | (simp; done) | (simp [*]; done), by repeat (first | exact Drawn0.refl _ | apply Drawn0.step)⟩
    · rw [if_neg c6] at H
      have c6b0 : decide (a2 < 0) = false := decide_eq_false c6
      clear c6
      by_cases c8 : t107 = 0
      · rw [if_pos c8] at H
        exact absurd H (by simp)
      · rw [if_neg c8] at H
        have c8b0 : (t107 == 0) = false := beq_eq_false_iff_ne.mpr c8
        have c8b1 : (t107 != 0) = true := bne_iff_ne.mpr c8
        obtain rfl := Option.some.inj H
        go_enter Try.func12, Try.ntmps12
        go_wp2_with (first | ((with_reducible refine gate_callee (f := 26) rfl ?_); refine goesL_ (some 14) rfl rfl Try.func26 (by kernel_rfl) rfl #[.int .i64 a0, .int .i64 a1, .int .i64 a2] rfl (by (try simp only [List.map_toArray, List.map_cons, List.map_nil]); first | done | rfl | (simp only [List.length_drop, List.length_take]; rfl)) ?_; (with_reducible refine (num_way.calls a0 a1 a2 t106 t107 true _ A4.out).mono ?_); rintro e w' ⟨rfl, ⟨nd, rfl⟩⟩; refine ⟨_, rfl, ?_⟩))
        go_ret
        exact ⟨by first | rfl | (simp; done) | (simp [*]; done), by repeat (first | exact Drawn0.refl _ | apply Drawn0.step)⟩
  · replace c5 := Bool.eq_false_iff.mpr c5
    subst c5
    have H1 : (some a0) = some r := by rw [if_neg (show ¬ (false = true) by decide)] at H; exact H
    clear H
    have H := H1
    clear H1
    obtain rfl := Option.some.inj H
    go_enter Try.func12, Try.ntmps12
    go_wp2_with (first | ((with_reducible refine gate_callee (f := 26) rfl ?_); refine goesL_ (some 14) rfl rfl Try.func26 (by kernel_rfl) rfl #[.int .i64 a0, .int .i64 a1, .int .i64 a2] rfl (by (try simp only [List.map_toArray, List.map_cons, List.map_nil]); first | done | rfl | (simp only [List.length_drop, List.length_take]; rfl)) ?_; (with_reducible refine (num_way.calls a0 a1 a2 t106 t107 false _ A4.out).mono ?_); rintro e w' ⟨rfl, ⟨nd, rfl⟩⟩; refine ⟨_, rfl, ?_⟩))
    go_ret
    exact ⟨by first | rfl | (simp; done) | (simp [*]; done), by repeat (first | exact Drawn0.refl _ | apply Drawn0.step)⟩

/-! ### num_Floor: function 14 -/
def num_Floor.j0 : Nat → Int → Int → Bool → Option (Int × Bool)
  | 0, _, _, _ => none
  | k + 1, x0, x1, x16 => if x16 = true then (some (0, false)) else (if x1 = 0 then (none) else (if (Int.tmod x0 x1) = 0 then (some (wrap64 (Int.tdiv x0 x1), true)) else (if ((decide (x0 < 0)) != (decide (x1 < 0))) = true then (some (wrap64 ((wrap64 (Int.tdiv x0 x1)) - 1), true)) else (some (wrap64 (Int.tdiv x0 x1), true)))))
def num_Floor.f (k : Nat) (a0 : Int) (a1 : Int) : Option (Int × Bool) := if a1 = 0 then (num_Floor.j0 k a0 a1 true) else (if a0 = (-9223372036854775808) then (num_Floor.j0 k a0 a1 (a1 == (-1))) else (num_Floor.j0 k a0 a1 false))
theorem num_Floor.mono_l : ∀ k, (∀ y0 y1 y2, LeO (num_Floor.j0 k y0 y1 y2) (num_Floor.j0 (k + 1) y0 y1 y2))
  | 0 => fun _ _ _ r h => by simp [num_Floor.j0] at h
  | k + 1 => by
    have ih0 := num_Floor.mono_l k
    · intro y0 y1 y2
      unfold num_Floor.j0
      repeat' first
      | (with_reducible exact ih0 _ _ _)
      | (with_reducible exact LeO.refl _)
      | (with_reducible exact LeO.none _)
      | (with_reducible refine LeO.ite ?_ ?_)
      | (with_reducible refine LeO.bind ?_ (fun _ => ?_))
      | exact ih0 _ _ _
      | exact LeO.none _
      | refine LeO.ite ?_ ?_
      | refine LeO.bind ?_ (fun _ => ?_)
theorem num_Floor.mono : ∀ a0 a1 k, LeO (num_Floor.f k a0 a1) (num_Floor.f (k + 1) a0 a1) := by
  intro a0 a1 k
  have ih0 := num_Floor.mono_l k
  unfold num_Floor.f
  repeat' first
      | (with_reducible exact ih0 _ _ _)
      | (with_reducible exact LeO.refl _)
      | (with_reducible exact LeO.none _)
      | (with_reducible refine LeO.ite ?_ ?_)
      | (with_reducible refine LeO.bind ?_ (fun _ => ?_))
      | exact ih0 _ _ _
      | exact LeO.none _
      | refine LeO.ite ?_ ?_
      | refine LeO.bind ?_ (fun _ => ?_)
set_option maxHeartbeats 8000000 in
set_option maxRecDepth 100000 in
theorem num_Floor.calls (k : Nat) (a0 : Int) (a1 : Int) (r1 : Int) (r2 : Bool) (w : World) (h : num_Floor.f k a0 a1 = some (r1, r2)) :
    Calls Try.prog 14 #[.int .i64 a0, .int .i64 a1] w fun e w' => e = .returned (.tuple #[.int .i64 r1, .bool r2]) ∧ Drawn0 w w' := by
  have H : (if a1 = 0 then (num_Floor.j0 k a0 a1 true) else (if a0 = (-9223372036854775808) then (num_Floor.j0 k a0 a1 (a1 == (-1))) else (num_Floor.j0 k a0 a1 false))) = some (r1, r2) := h
  clear h
  have HC3 := Aside0.mk H
  clear H
  go_enter Try.func14, Try.ntmps14
  go_upto_region 1 with (fail)
  go_cut [16] (fun v16 wc => ∃ (kq : Nat) (x16_2 : Bool), v16 = .bool x16_2 ∧ Aside0 (num_Floor.j0 kq a0 a1 x16_2 = some (r1, r2)) ∧ Aside0 (kq ≤ k) ∧ Drawn0 w wc)
  case first =>
    have H := HC3.out
    clear HC3
    by_cases c4 : a1 = 0
    · rw [if_pos c4] at H
      have c4b0 : (a1 == 0) = true := beq_iff_eq.mpr c4
      have c4b1 : (a1 != 0) = false := bne_eq_false_iff_eq.mpr c4
      clear c4
      (first | rw [c4b0] | (simp only [i64_w, i32_w]; rw [c4b0]) | skip)
      have H' := Aside0.mk H
      clear H
      go_wp2
      go_meet
      case rel => exact ⟨_, (true), (by first | rfl | (simp; done) | (simp [*]; done)), H', ⟨by first | omega | exact Nat.le_refl _⟩, by repeat (first | exact Drawn0.refl _ | apply Drawn0.step)⟩
    · rw [if_neg c4] at H
      have c4b0 : (a1 == 0) = false := beq_eq_false_iff_ne.mpr c4
      have c4b1 : (a1 != 0) = true := bne_iff_ne.mpr c4
      (first | rw [c4b0] | (simp only [i64_w, i32_w]; rw [c4b0]) | skip)
      by_cases c5 : a0 = (-9223372036854775808)
      · rw [if_pos c5] at H
        have c5b0 : (a0 == (-9223372036854775808)) = true := beq_iff_eq.mpr c5
        have c5b1 : (a0 != (-9223372036854775808)) = false := bne_eq_false_iff_eq.mpr c5
        clear c5
        have H' := Aside0.mk H
        clear H
        go_wp2
        go_meet
        case rel => exact ⟨_, ((a1 == (-1))), (by first | rfl | (simp; done) | (simp [*]; done)), H', ⟨by first | omega | exact Nat.le_refl _⟩, by repeat (first | exact Drawn0.refl _ | apply Drawn0.step)⟩
      · rw [if_neg c5] at H
        have c5b0 : (a0 == (-9223372036854775808)) = false := beq_eq_false_iff_ne.mpr c5
        have c5b1 : (a0 != (-9223372036854775808)) = true := bne_iff_ne.mpr c5
        have H' := Aside0.mk H
        clear H
        go_wp2
        go_meet
        case rel => exact ⟨_, (false), (by first | rfl | (simp; done) | (simp [*]; done)), H', ⟨by first | omega | exact Nat.le_refl _⟩, by repeat (first | exact Drawn0.refl _ | apply Drawn0.step)⟩
  case rest =>
    clear HC3
    try clear c1
    try clear p2
    try clear c4
    try clear c4b0
    try clear c4b1
    try clear c5
    try clear c5b0
    try clear c5b1
    obtain ⟨kq, x16_2, rfl, HA, HJ2, ⟨mc2, rfl⟩⟩ := hcut
    cases kq with
    | zero => exact absurd HA.out (by simp [num_Floor.j0])
    | succ kj2 =>
      have H := HA.out
      clear HA
      simp only [num_Floor.j0] at H
      by_cases c6 : x16_2 = true
      · subst c6
        have H1 : (some (0, false)) = some (r1, r2) := by rw [if_pos rfl] at H; exact H
        clear H
        have H := H1
        clear H1
        simp only [Option.some.injEq, Prod.mk.injEq] at H
        obtain ⟨rfl, rfl⟩ := H
        go_wp2
        go_ret2
        exact ⟨by first | rfl | (simp; done) | (simp [*]; done), by repeat (first | exact Drawn0.refl _ | apply Drawn0.step)⟩
      · replace c6 := Bool.eq_false_iff.mpr c6
        subst c6
        have H1 : (if a1 = 0 then (none) else (if (Int.tmod a0 a1) = 0 then (some (wrap64 (Int.tdiv a0 a1), true)) else (if ((decide (a0 < 0)) != (decide (a1 < 0))) = true then (some (wrap64 ((wrap64 (Int.tdiv a0 a1)) - 1), true)) else (some (wrap64 (Int.tdiv a0 a1), true))))) = some (r1, r2) := by rw [if_neg (show ¬ (false = true) by decide)] at H; exact H
        clear H
        have H := H1
        clear H1
        by_cases c7 : a1 = 0
        · rw [if_pos c7] at H
          exact absurd H (by simp)
        · rw [if_neg c7] at H
          have c7b0 : (a1 == 0) = false := beq_eq_false_iff_ne.mpr c7
          have c7b1 : (a1 != 0) = true := bne_iff_ne.mpr c7
          by_cases c8 : (Int.tmod a0 a1) = 0
          · rw [if_pos c8] at H
            have c8b0 : ((Int.tmod a0 a1) == 0) = true := beq_iff_eq.mpr c8
            have c8b1 : ((Int.tmod a0 a1) != 0) = false := bne_eq_false_iff_eq.mpr c8
            clear c8
            simp only [Option.some.injEq, Prod.mk.injEq] at H
            obtain ⟨rfl, rfl⟩ := H
            go_wp2
            go_ret2
            exact ⟨by first | rfl | (simp; done) | (simp [*]; done), by repeat (first | exact Drawn0.refl _ | apply Drawn0.step)⟩
          · rw [if_neg c8] at H
            have c8b0 : ((Int.tmod a0 a1) == 0) = false := beq_eq_false_iff_ne.mpr c8
            have c8b1 : ((Int.tmod a0 a1) != 0) = true := bne_iff_ne.mpr c8
            by_cases c9 : ((decide (a0 < 0)) != (decide (a1 < 0))) = true
            · rw [if_pos c9] at H
              have c9b0 : ((decide (a0 < 0)) != (decide (a1 < 0))) = true := c9
              (try (have c9b1 : decide ((decide (a0 < 0)) = (decide (a1 < 0))) = false := by (revert c9; generalize ((decide (a0 < 0))) = p_; generalize ((decide (a1 < 0))) = q_; revert p_ q_; decide)))
              (try (have c9b2 : ((decide (a0 < 0)) == (decide (a1 < 0))) = false := by (revert c9; generalize ((decide (a0 < 0))) = p_; generalize ((decide (a1 < 0))) = q_; revert p_ q_; decide)))
              (try (have c9b3 : ¬ ((decide (a0 < 0)) = (decide (a1 < 0))) := by (revert c9; generalize ((decide (a0 < 0))) = p_; generalize ((decide (a1 < 0))) = q_; revert p_ q_; decide)))
              clear c9
              simp only [Option.some.injEq, Prod.mk.injEq] at H
              obtain ⟨rfl, rfl⟩ := H
              go_wp2
              all_goals (try (exfalso; rename_i h_; rw [c9b2] at h_; revert h_; decide))
              go_ret2
              exact ⟨by first | rfl | (simp; done) | (simp [*]; done), by repeat (first | exact Drawn0.refl _ | apply Drawn0.step)⟩
            · rw [if_neg c9] at H
              have c9b0 : ((decide (a0 < 0)) != (decide (a1 < 0))) = false := by simpa using c9
              (try (have c9b1 : decide ((decide (a0 < 0)) = (decide (a1 < 0))) = true := by (revert c9; generalize ((decide (a0 < 0))) = p_; generalize ((decide (a1 < 0))) = q_; revert p_ q_; decide)))
              (try (have c9b2 : ((decide (a0 < 0)) == (decide (a1 < 0))) = true := by (revert c9; generalize ((decide (a0 < 0))) = p_; generalize ((decide (a1 < 0))) = q_; revert p_ q_; decide)))
              clear c9
              simp only [Option.some.injEq, Prod.mk.injEq] at H
              obtain ⟨rfl, rfl⟩ := H
              go_wp2
              all_goals (try (exfalso; rename_i h_; rw [c9b2] at h_; revert h_; decide))
              go_ret2
              exact ⟨by first | rfl | (simp; done) | (simp [*]; done), by repeat (first | exact Drawn0.refl _ | apply Drawn0.step)⟩

/-! ### num_Ceil: function 15 -/
def num_Ceil.f (k : Nat) (a0 : Int) (a1 : Int) : Option (Int × Bool) := (num_Floor.f k a0 a1).bind fun bt109 => (if bt109.2 = true then (if a1 = 0 then (none) else (if (Int.tmod a0 a1) = 0 then (some (bt109.1, bt109.2)) else (some (wrap64 (bt109.1 + 1), bt109.2)))) else (some (bt109.1, bt109.2)))
theorem num_Ceil.mono : ∀ a0 a1 k, LeO (num_Ceil.f k a0 a1) (num_Ceil.f (k + 1) a0 a1) := by
  intro a0 a1 k
  unfold num_Ceil.f
  repeat' first
      | (with_reducible exact num_Floor.mono _ _ _)
      | (with_reducible exact LeO.refl _)
      | (with_reducible exact LeO.none _)
      | (with_reducible refine LeO.ite ?_ ?_)
      | (with_reducible refine LeO.bind ?_ (fun _ => ?_))
      | exact num_Floor.mono _ _ _
      | exact LeO.none _
      | refine LeO.ite ?_ ?_
      | refine LeO.bind ?_ (fun _ => ?_)
set_option maxHeartbeats 8000000 in
set_option maxRecDepth 100000 in
theorem num_Ceil.calls (k : Nat) (a0 : Int) (a1 : Int) (r1 : Int) (r2 : Bool) (w : World) (h : num_Ceil.f k a0 a1 = some (r1, r2)) :
    Calls Try.prog 15 #[.int .i64 a0, .int .i64 a1] w fun e w' => e = .returned (.tuple #[.int .i64 r1, .bool r2]) ∧ Drawn0 w w' := by
  have H : ((num_Floor.f k a0 a1).bind fun bt109 => (if bt109.2 = true then (if a1 = 0 then (none) else (if (Int.tmod a0 a1) = 0 then (some (bt109.1, bt109.2)) else (some (wrap64 (bt109.1 + 1), bt109.2)))) else (some (bt109.1, bt109.2)))) = some (r1, r2) := h
  clear h
  replace H := Option.bind_eq_some_iff.mp H
  obtain ⟨⟨t109, t110⟩, A30, H⟩ := H
  replace H : (if t110 = true then (if a1 = 0 then (none) else (if (Int.tmod a0 a1) = 0 then (some (t109, t110)) else (some (wrap64 (t109 + 1), t110)))) else (some (t109, t110))) = some (r1, r2) := H
  have A3 := Aside0.mk A30
  clear A30
  by_cases c4 : t110 = true
  · subst c4
    have H1 : (if a1 = 0 then (none) else (if (Int.tmod a0 a1) = 0 then (some (t109, true)) else (some (wrap64 (t109 + 1), true)))) = some (r1, r2) := by rw [if_pos rfl] at H; exact H
    clear H
    have H := H1
    clear H1
    by_cases c5 : a1 = 0
    · rw [if_pos c5] at H
      exact absurd H (by simp)
    · rw [if_neg c5] at H
      have c5b0 : (a1 == 0) = false := beq_eq_false_iff_ne.mpr c5
      have c5b1 : (a1 != 0) = true := bne_iff_ne.mpr c5
      by_cases c6 : (Int.tmod a0 a1) = 0
      · rw [if_pos c6] at H
        have c6b0 : ((Int.tmod a0 a1) == 0) = true := beq_iff_eq.mpr c6
        have c6b1 : ((Int.tmod a0 a1) != 0) = false := bne_eq_false_iff_eq.mpr c6
        clear c6
        simp only [Option.some.injEq, Prod.mk.injEq] at H
        obtain ⟨rfl, rfl⟩ := H
        go_enter Try.func15, Try.ntmps15
        go_wp2_with (first | ((with_reducible refine gate_callee (f := 14) rfl ?_); refine goesL_ (some 11) rfl rfl Try.func14 (by kernel_rfl) rfl #[.int .i64 a0, .int .i64 a1] rfl (by (try simp only [List.map_toArray, List.map_cons, List.map_nil]); first | done | rfl | (simp only [List.length_drop, List.length_take]; rfl)) ?_; (with_reducible refine (num_Floor.calls k a0 a1 t109 true _ A3.out).mono ?_); rintro e w' ⟨rfl, ⟨nd, rfl⟩⟩; refine ⟨_, rfl, ?_⟩))
        go_ret2
        exact ⟨by first | rfl | (simp; done) | (simp [*]; done), by repeat (first | exact Drawn0.refl _ | apply Drawn0.step)⟩
      · rw [if_neg c6] at H
        have c6b0 : ((Int.tmod a0 a1) == 0) = false := beq_eq_false_iff_ne.mpr c6
        have c6b1 : ((Int.tmod a0 a1) != 0) = true := bne_iff_ne.mpr c6
        simp only [Option.some.injEq, Prod.mk.injEq] at H
        obtain ⟨rfl, rfl⟩ := H
        go_enter Try.func15, Try.ntmps15
        go_wp2_with (first | ((with_reducible refine gate_callee (f := 14) rfl ?_); refine goesL_ (some 11) rfl rfl Try.func14 (by kernel_rfl) rfl #[.int .i64 a0, .int .i64 a1] rfl (by (try simp only [List.map_toArray, List.map_cons, List.map_nil]); first | done | rfl | (simp only [List.length_drop, List.length_take]; rfl)) ?_; (with_reducible refine (num_Floor.calls k a0 a1 t109 true _ A3.out).mono ?_); rintro e w' ⟨rfl, ⟨nd, rfl⟩⟩; refine ⟨_, rfl, ?_⟩))
        go_ret2
        exact ⟨by first | rfl | (simp; done) | (simp [*]; done), by repeat (first | exact Drawn0.refl _ | apply Drawn0.step)⟩
  · replace c4 := Bool.eq_false_iff.mpr c4
    subst c4
    have H1 : (some (t109, false)) = some (r1, r2) := by rw [if_neg (show ¬ (false = true) by decide)] at H; exact H
    clear H
    have H := H1
    clear H1
    simp only [Option.some.injEq, Prod.mk.injEq] at H
    obtain ⟨rfl, rfl⟩ := H
    go_enter Try.func15, Try.ntmps15
    go_wp2_with (first | ((with_reducible refine gate_callee (f := 14) rfl ?_); refine goesL_ (some 11) rfl rfl Try.func14 (by kernel_rfl) rfl #[.int .i64 a0, .int .i64 a1] rfl (by (try simp only [List.map_toArray, List.map_cons, List.map_nil]); first | done | rfl | (simp only [List.length_drop, List.length_take]; rfl)) ?_; (with_reducible refine (num_Floor.calls k a0 a1 t109 false _ A3.out).mono ?_); rintro e w' ⟨rfl, ⟨nd, rfl⟩⟩; refine ⟨_, rfl, ?_⟩))
    go_ret2
    exact ⟨by first | rfl | (simp; done) | (simp [*]; done), by repeat (first | exact Drawn0.refl _ | apply Drawn0.step)⟩

end Go.Proofs.Ytfjfgcnbokefbaa.X
