-- PRINTED BY print.sh 35421559b90ae4d0a3588c463048766b98c2df88dd9212a6774a882060cdf62d: not written by this session
import Derived.Test.YtfjfgcnbokefbaaPNumRoundsx0
import Derived.Test.YtfjfgcnbokefbaaPNumRoundsx1
namespace Go.Proofs.Ytfjfgcnbokefbaa.PNumRounds
open Go.RowKit Go.Proofs.YtfjfgcnbokefbaaW.PrintWords Go.Proofs.YtfjfgcnbokefbaaW.PrintLast Go.Proofs.YtfjfgcnbokefbaaW.PrintMore
attribute [local go_sem] max2_int min2_int max_two min_two max_three min_three max_four min_four   -- for this text's walks alone
set_option linter.unusedVariables false
set_option linter.unusedSimpArgs false

/-! ### furrowlaw1_NumRounds: function 5 -/
def furrowlaw1_NumRounds.j0 : Nat → Int → Int → Int → Int → Bool → Option (Bool)
  | 0, _, _, _, _, _ => none
  | k + 1, x9, x10, x11, x13, x88 => if x88 = true then (some false) else (if x10 < 0 then (if (wrap64 (x11 * x10)) ≥ x9 then (some (decide ((wrap64 (x13 * x10)) ≤ x9))) else (some false)) else (if (wrap64 (x11 * x10)) ≤ x9 then (some (decide ((wrap64 (x13 * x10)) ≥ x9))) else (some false)))
def furrowlaw1_NumRounds.f (k : Nat) (a0 : Int) (a1 : Int) : Option (Bool) := (furrowlaw1_known.f k).bind fun t124 => (if t124 = true then (if a1 = 0 then ((num_Floor.f k (wrap64 (a0)) 0).bind fun bt125 => ((num_Ceil.f k (wrap64 (a0)) 0).bind fun bt127 => (if bt125.2 = true then (some false) else (some (!bt127.2))))) else ((num_Floor.f k (wrap64 (a0)) (wrap64 (a1))).bind fun bt129 => ((num_Ceil.f k (wrap64 (a0)) (wrap64 (a1))).bind fun bt131 => (if bt129.2 = true then (if bt131.2 = true then (if (wrap64 (a1)) = 0 then (none) else (if (Int.tmod (wrap64 (a0)) (wrap64 (a1))) = 0 then (if bt129.1 = (wrap64 (Int.tdiv (wrap64 (a0)) (wrap64 (a1)))) then (if bt131.1 = bt129.1 then (furrowlaw1_NumRounds.j0 k (wrap64 (a0)) (wrap64 (a1)) bt129.1 bt131.1 false) else (furrowlaw1_NumRounds.j0 k (wrap64 (a0)) (wrap64 (a1)) bt129.1 bt131.1 true)) else (furrowlaw1_NumRounds.j0 k (wrap64 (a0)) (wrap64 (a1)) bt129.1 bt131.1 true)) else (furrowlaw1_NumRounds.j0 k (wrap64 (a0)) (wrap64 (a1)) bt129.1 bt131.1 (bt131.1 != (wrap64 (bt129.1 + 1)))))) else (furrowlaw1_NumRounds.j0 k (wrap64 (a0)) (wrap64 (a1)) bt129.1 bt131.1 true)) else (furrowlaw1_NumRounds.j0 k (wrap64 (a0)) (wrap64 (a1)) bt129.1 bt131.1 true))))) else (some false))
theorem furrowlaw1_NumRounds.mono_l : ∀ k, (∀ y0 y1 y2 y3 y4, LeO (furrowlaw1_NumRounds.j0 k y0 y1 y2 y3 y4) (furrowlaw1_NumRounds.j0 (k + 1) y0 y1 y2 y3 y4))
  | 0 => fun _ _ _ _ _ r h => by simp [furrowlaw1_NumRounds.j0] at h
  | k + 1 => by
    have ih0 := furrowlaw1_NumRounds.mono_l k
    · intro y0 y1 y2 y3 y4
      unfold furrowlaw1_NumRounds.j0
      repeat' first
      | (with_reducible exact ih0 _ _ _ _ _)
      | (with_reducible exact furrowlaw1_known.mono _)
      | (with_reducible exact num_Ceil.mono _ _ _)
      | (with_reducible exact num_Floor.mono _ _ _)
      | (with_reducible exact LeO.refl _)
      | (with_reducible exact LeO.none _)
      | (with_reducible refine LeO.ite ?_ ?_)
      | (with_reducible refine LeO.bind ?_ (fun _ => ?_))
      | exact ih0 _ _ _ _ _
      | exact furrowlaw1_known.mono _
      | exact num_Ceil.mono _ _ _
      | exact num_Floor.mono _ _ _
      | exact LeO.none _
      | refine LeO.ite ?_ ?_
      | refine LeO.bind ?_ (fun _ => ?_)
theorem furrowlaw1_NumRounds.mono : ∀ a0 a1 k, LeO (furrowlaw1_NumRounds.f k a0 a1) (furrowlaw1_NumRounds.f (k + 1) a0 a1) := by
  intro a0 a1 k
  have ih0 := furrowlaw1_NumRounds.mono_l k
  unfold furrowlaw1_NumRounds.f
  repeat' first
      | (with_reducible exact ih0 _ _ _ _ _)
      | (with_reducible exact furrowlaw1_known.mono _)
      | (with_reducible exact num_Ceil.mono _ _ _)
      | (with_reducible exact num_Floor.mono _ _ _)
      | (with_reducible exact LeO.refl _)
      | (with_reducible exact LeO.none _)
      | (with_reducible refine LeO.ite ?_ ?_)
      | (with_reducible refine LeO.bind ?_ (fun _ => ?_))
      | exact ih0 _ _ _ _ _
      | exact furrowlaw1_known.mono _
      | exact num_Ceil.mono _ _ _
      | exact num_Floor.mono _ _ _
      | exact LeO.none _
      | refine LeO.ite ?_ ?_
      | refine LeO.bind ?_ (fun _ => ?_)
set_option maxHeartbeats 8000000 in
set_option maxRecDepth 100000 in
theorem furrowlaw1_NumRounds.calls (k : Nat) (a0 : Int) (a1 : Int) (r : Bool) (w : World) (h : furrowlaw1_NumRounds.f k a0 a1 = some r) :
    Calls Try.prog 5 #[.int .i32 a0, .int .i32 a1] w fun e w' => e = .returned (.bool r) ∧ Drawn0 w w' := by
  have H : ((furrowlaw1_known.f k).bind fun t124 => (if t124 = true then (if a1 = 0 then ((num_Floor.f k (wrap64 (a0)) 0).bind fun bt125 => ((num_Ceil.f k (wrap64 (a0)) 0).bind fun bt127 => (if bt125.2 = true then (some false) else (some (!bt127.2))))) else ((num_Floor.f k (wrap64 (a0)) (wrap64 (a1))).bind fun bt129 => ((num_Ceil.f k (wrap64 (a0)) (wrap64 (a1))).bind fun bt131 => (if bt129.2 = true then (if bt131.2 = true then (if (wrap64 (a1)) = 0 then (none) else (if (Int.tmod (wrap64 (a0)) (wrap64 (a1))) = 0 then (if bt129.1 = (wrap64 (Int.tdiv (wrap64 (a0)) (wrap64 (a1)))) then (if bt131.1 = bt129.1 then (furrowlaw1_NumRounds.j0 k (wrap64 (a0)) (wrap64 (a1)) bt129.1 bt131.1 false) else (furrowlaw1_NumRounds.j0 k (wrap64 (a0)) (wrap64 (a1)) bt129.1 bt131.1 true)) else (furrowlaw1_NumRounds.j0 k (wrap64 (a0)) (wrap64 (a1)) bt129.1 bt131.1 true)) else (furrowlaw1_NumRounds.j0 k (wrap64 (a0)) (wrap64 (a1)) bt129.1 bt131.1 (bt131.1 != (wrap64 (bt129.1 + 1)))))) else (furrowlaw1_NumRounds.j0 k (wrap64 (a0)) (wrap64 (a1)) bt129.1 bt131.1 true)) else (furrowlaw1_NumRounds.j0 k (wrap64 (a0)) (wrap64 (a1)) bt129.1 bt131.1 true))))) else (some false))) = some r := h
  clear h
  replace H := Option.bind_eq_some_iff.mp H
  obtain ⟨t124, A30, H⟩ := H
  replace H : (if t124 = true then (if a1 = 0 then ((num_Floor.f k (wrap64 (a0)) 0).bind fun bt125 => ((num_Ceil.f k (wrap64 (a0)) 0).bind fun bt127 => (if bt125.2 = true then (some false) else (some (!bt127.2))))) else ((num_Floor.f k (wrap64 (a0)) (wrap64 (a1))).bind fun bt129 => ((num_Ceil.f k (wrap64 (a0)) (wrap64 (a1))).bind fun bt131 => (if bt129.2 = true then (if bt131.2 = true then (if (wrap64 (a1)) = 0 then (none) else (if (Int.tmod (wrap64 (a0)) (wrap64 (a1))) = 0 then (if bt129.1 = (wrap64 (Int.tdiv (wrap64 (a0)) (wrap64 (a1)))) then (if bt131.1 = bt129.1 then (furrowlaw1_NumRounds.j0 k (wrap64 (a0)) (wrap64 (a1)) bt129.1 bt131.1 false) else (furrowlaw1_NumRounds.j0 k (wrap64 (a0)) (wrap64 (a1)) bt129.1 bt131.1 true)) else (furrowlaw1_NumRounds.j0 k (wrap64 (a0)) (wrap64 (a1)) bt129.1 bt131.1 true)) else (furrowlaw1_NumRounds.j0 k (wrap64 (a0)) (wrap64 (a1)) bt129.1 bt131.1 (bt131.1 != (wrap64 (bt129.1 + 1)))))) else (furrowlaw1_NumRounds.j0 k (wrap64 (a0)) (wrap64 (a1)) bt129.1 bt131.1 true)) else (furrowlaw1_NumRounds.j0 k (wrap64 (a0)) (wrap64 (a1)) bt129.1 bt131.1 true))))) else (some false)) = some r := H
  have A3 := Aside0.mk A30
  clear A30
  by_cases c4 : t124 = true
  · subst c4
    have H1 : (if a1 = 0 then ((num_Floor.f k (wrap64 (a0)) 0).bind fun bt125 => ((num_Ceil.f k (wrap64 (a0)) 0).bind fun bt127 => (if bt125.2 = true then (some false) else (some (!bt127.2))))) else ((num_Floor.f k (wrap64 (a0)) (wrap64 (a1))).bind fun bt129 => ((num_Ceil.f k (wrap64 (a0)) (wrap64 (a1))).bind fun bt131 => (if bt129.2 = true then (if bt131.2 = true then (if (wrap64 (a1)) = 0 then (none) else (if (Int.tmod (wrap64 (a0)) (wrap64 (a1))) = 0 then (if bt129.1 = (wrap64 (Int.tdiv (wrap64 (a0)) (wrap64 (a1)))) then (if bt131.1 = bt129.1 then (furrowlaw1_NumRounds.j0 k (wrap64 (a0)) (wrap64 (a1)) bt129.1 bt131.1 false) else (furrowlaw1_NumRounds.j0 k (wrap64 (a0)) (wrap64 (a1)) bt129.1 bt131.1 true)) else (furrowlaw1_NumRounds.j0 k (wrap64 (a0)) (wrap64 (a1)) bt129.1 bt131.1 true)) else (furrowlaw1_NumRounds.j0 k (wrap64 (a0)) (wrap64 (a1)) bt129.1 bt131.1 (bt131.1 != (wrap64 (bt129.1 + 1)))))) else (furrowlaw1_NumRounds.j0 k (wrap64 (a0)) (wrap64 (a1)) bt129.1 bt131.1 true)) else (furrowlaw1_NumRounds.j0 k (wrap64 (a0)) (wrap64 (a1)) bt129.1 bt131.1 true))))) = some r := by rw [if_pos rfl] at H; exact H
    clear H
    have H := H1
    clear H1
    by_cases c5 : a1 = 0
    · rw [if_pos c5] at H
      have c5b0 : (a1 == 0) = true := beq_iff_eq.mpr c5
      have c5b1 : (a1 != 0) = false := bne_eq_false_iff_eq.mpr c5
      clear c5
      replace H := Option.bind_eq_some_iff.mp H
      obtain ⟨⟨t125, t126⟩, A60, H⟩ := H
      replace H : ((num_Ceil.f k (wrap64 (a0)) 0).bind fun bt127 => (if t126 = true then (some false) else (some (!bt127.2)))) = some r := H
      have A6 := Aside0.mk A60
      clear A60
      replace H := Option.bind_eq_some_iff.mp H
      obtain ⟨⟨t127, t128⟩, A70, H⟩ := H
      replace H : (if t126 = true then (some false) else (some (!t128))) = some r := H
      have A7 := Aside0.mk A70
      clear A70
      by_cases c8 : t126 = true
      · subst c8
        have H1 : (some false) = some r := by rw [if_pos rfl] at H; exact H
        clear H
        have H := H1
        clear H1
        obtain rfl := Option.some.inj H
        go_enter Try.func5, Try.ntmps5
        go_wp2_with (first | ((with_reducible refine gate_callee (f := 9) rfl ?_); refine goesL_ (some 15) rfl rfl Try.func9 (by kernel_rfl) rfl #[] rfl (by (try simp only [List.map_toArray, List.map_cons, List.map_nil]); first | done | rfl | (simp only [List.length_drop, List.length_take]; rfl)) ?_; (with_reducible refine (furrowlaw1_known.calls k  true _ A3.out).mono ?_); rintro e w' ⟨rfl, ⟨nd, rfl⟩⟩; refine ⟨_, rfl, ?_⟩) | ((with_reducible refine gate_callee (f := 14) rfl ?_); refine goesL_ (some 22) rfl rfl Try.func14 (by kernel_rfl) rfl #[.int .i64 (wrap64 (a0)), .int .i64 0] rfl (by (try simp only [List.map_toArray, List.map_cons, List.map_nil]); first | done | rfl | (simp only [List.length_drop, List.length_take]; rfl)) ?_; (with_reducible refine (num_Floor.calls k (wrap64 (a0)) 0 t125 true _ A6.out).mono ?_); rintro e w' ⟨rfl, ⟨nd, rfl⟩⟩; refine ⟨_, rfl, ?_⟩) | ((with_reducible refine gate_callee (f := 15) rfl ?_); refine goesL_ (some 28) rfl rfl Try.func15 (by kernel_rfl) rfl #[.int .i64 (wrap64 (a0)), .int .i64 0] rfl (by (try simp only [List.map_toArray, List.map_cons, List.map_nil]); first | done | rfl | (simp only [List.length_drop, List.length_take]; rfl)) ?_; (with_reducible refine (num_Ceil.calls k (wrap64 (a0)) 0 t127 t128 _ A7.out).mono ?_); rintro e w' ⟨rfl, ⟨nd, rfl⟩⟩; refine ⟨_, rfl, ?_⟩))
        go_ret
        exact ⟨by first | rfl | (simp; done) | (simp [*]; done), by repeat (first | exact Drawn0.refl _ | apply Drawn0.step)⟩
      · replace c8 := Bool.eq_false_iff.mpr c8
        subst c8
        have H1 : (some (!t128)) = some r := by rw [if_neg (show ¬ (false = true) by decide)] at H; exact H
        clear H
        have H := H1
        clear H1
        obtain rfl := Option.some.inj H
        go_enter Try.func5, Try.ntmps5
        go_wp2_with (first | ((with_reducible refine gate_callee (f := 9) rfl ?_); refine goesL_ (some 15) rfl rfl Try.func9 (by kernel_rfl) rfl #[] rfl (by (try simp only [List.map_toArray, List.map_cons, List.map_nil]); first | done | rfl | (simp only [List.length_drop, List.length_take]; rfl)) ?_; (with_reducible refine (furrowlaw1_known.calls k  true _ A3.out).mono ?_); rintro e w' ⟨rfl, ⟨nd, rfl⟩⟩; refine ⟨_, rfl, ?_⟩) | ((with_reducible refine gate_callee (f := 14) rfl ?_); refine goesL_ (some 22) rfl rfl Try.func14 (by kernel_rfl) rfl #[.int .i64 (wrap64 (a0)), .int .i64 0] rfl (by (try simp only [List.map_toArray, List.map_cons, List.map_nil]); first | done | rfl | (simp only [List.length_drop, List.length_take]; rfl)) ?_; (with_reducible refine (num_Floor.calls k (wrap64 (a0)) 0 t125 false _ A6.out).mono ?_); rintro e w' ⟨rfl, ⟨nd, rfl⟩⟩; refine ⟨_, rfl, ?_⟩) | ((with_reducible refine gate_callee (f := 15) rfl ?_); refine goesL_ (some 28) rfl rfl Try.func15 (by kernel_rfl) rfl #[.int .i64 (wrap64 (a0)), .int .i64 0] rfl (by (try simp only [List.map_toArray, List.map_cons, List.map_nil]); first | done | rfl | (simp only [List.length_drop, List.length_take]; rfl)) ?_; (with_reducible refine (num_Ceil.calls k (wrap64 (a0)) 0 t127 t128 _ A7.out).mono ?_); rintro e w' ⟨rfl, ⟨nd, rfl⟩⟩; refine ⟨_, rfl, ?_⟩))
        go_ret
        exact ⟨by first | rfl | (simp; done) | (simp [*]; done), by repeat (first | exact Drawn0.refl _ | apply Drawn0.step)⟩
    · rw [if_neg c5] at H
      have c5b0 : (a1 == 0) = false := beq_eq_false_iff_ne.mpr c5
      have c5b1 : (a1 != 0) = true := bne_iff_ne.mpr c5
      replace H := Option.bind_eq_some_iff.mp H
      obtain ⟨⟨t129, t130⟩, A90, H⟩ := H
      replace H : ((num_Ceil.f k (wrap64 (a0)) (wrap64 (a1))).bind fun bt131 => (if t130 = true then (if bt131.2 = true then (if (wrap64 (a1)) = 0 then (none) else (if (Int.tmod (wrap64 (a0)) (wrap64 (a1))) = 0 then (if t129 = (wrap64 (Int.tdiv (wrap64 (a0)) (wrap64 (a1)))) then (if bt131.1 = t129 then (furrowlaw1_NumRounds.j0 k (wrap64 (a0)) (wrap64 (a1)) t129 bt131.1 false) else (furrowlaw1_NumRounds.j0 k (wrap64 (a0)) (wrap64 (a1)) t129 bt131.1 true)) else (furrowlaw1_NumRounds.j0 k (wrap64 (a0)) (wrap64 (a1)) t129 bt131.1 true)) else (furrowlaw1_NumRounds.j0 k (wrap64 (a0)) (wrap64 (a1)) t129 bt131.1 (bt131.1 != (wrap64 (t129 + 1)))))) else (furrowlaw1_NumRounds.j0 k (wrap64 (a0)) (wrap64 (a1)) t129 bt131.1 true)) else (furrowlaw1_NumRounds.j0 k (wrap64 (a0)) (wrap64 (a1)) t129 bt131.1 true))) = some r := H
      have A9 := Aside0.mk A90
      clear A90
      replace H := Option.bind_eq_some_iff.mp H
      obtain ⟨⟨t131, t132⟩, A100, H⟩ := H
      replace H : (if t130 = true then (if t132 = true then (if (wrap64 (a1)) = 0 then (none) else (if (Int.tmod (wrap64 (a0)) (wrap64 (a1))) = 0 then (if t129 = (wrap64 (Int.tdiv (wrap64 (a0)) (wrap64 (a1)))) then (if t131 = t129 then (furrowlaw1_NumRounds.j0 k (wrap64 (a0)) (wrap64 (a1)) t129 t131 false) else (furrowlaw1_NumRounds.j0 k (wrap64 (a0)) (wrap64 (a1)) t129 t131 true)) else (furrowlaw1_NumRounds.j0 k (wrap64 (a0)) (wrap64 (a1)) t129 t131 true)) else (furrowlaw1_NumRounds.j0 k (wrap64 (a0)) (wrap64 (a1)) t129 t131 (t131 != (wrap64 (t129 + 1)))))) else (furrowlaw1_NumRounds.j0 k (wrap64 (a0)) (wrap64 (a1)) t129 t131 true)) else (furrowlaw1_NumRounds.j0 k (wrap64 (a0)) (wrap64 (a1)) t129 t131 true)) = some r := H
      have A10 := Aside0.mk A100
      clear A100
      have HC11 := Aside0.mk H
      clear H
      go_enter Try.func5, Try.ntmps5
      go_upto_region 11 with (first | ((with_reducible refine gate_callee (f := 9) rfl ?_); refine goesL_ (some 15) rfl rfl Try.func9 (by kernel_rfl) rfl #[] rfl (by (try simp only [List.map_toArray, List.map_cons, List.map_nil]); first | done | rfl | (simp only [List.length_drop, List.length_take]; rfl)) ?_; (with_reducible refine (furrowlaw1_known.calls k  true _ A3.out).mono ?_); rintro e w' ⟨rfl, ⟨nd, rfl⟩⟩; refine ⟨_, rfl, ?_⟩) | ((with_reducible refine gate_callee (f := 14) rfl ?_); refine goesL_ (some 44) rfl rfl Try.func14 (by kernel_rfl) rfl #[.int .i64 (wrap64 (a0)), .int .i64 (wrap64 (a1))] rfl (by (try simp only [List.map_toArray, List.map_cons, List.map_nil]); first | done | rfl | (simp only [List.length_drop, List.length_take]; rfl)) ?_; (with_reducible refine (num_Floor.calls k (wrap64 (a0)) (wrap64 (a1)) t129 t130 _ A9.out).mono ?_); rintro e w' ⟨rfl, ⟨nd, rfl⟩⟩; refine ⟨_, rfl, ?_⟩) | ((with_reducible refine gate_callee (f := 15) rfl ?_); refine goesL_ (some 50) rfl rfl Try.func15 (by kernel_rfl) rfl #[.int .i64 (wrap64 (a0)), .int .i64 (wrap64 (a1))] rfl (by (try simp only [List.map_toArray, List.map_cons, List.map_nil]); first | done | rfl | (simp only [List.length_drop, List.length_take]; rfl)) ?_; (with_reducible refine (num_Ceil.calls k (wrap64 (a0)) (wrap64 (a1)) t131 t132 _ A10.out).mono ?_); rintro e w' ⟨rfl, ⟨nd, rfl⟩⟩; refine ⟨_, rfl, ?_⟩))
      (try simp only [Act.put, List.setIfInBounds_toArray, List.set_cons_zero, List.set_cons_succ])
      go_cut [88] (fun v88 wc => ∃ (kq : Nat) (x88_10 : Bool), v88 = .bool x88_10 ∧ Aside0 (furrowlaw1_NumRounds.j0 kq (wrap64 (a0)) (wrap64 (a1)) t129 t131 x88_10 = some r) ∧ Aside0 (kq ≤ k) ∧ Drawn0 w wc)
      case first =>
        have H := HC11.out
        clear HC11
        by_cases c12 : t130 = true
        · subst c12
          have H1 : (if t132 = true then (if (wrap64 (a1)) = 0 then (none) else (if (Int.tmod (wrap64 (a0)) (wrap64 (a1))) = 0 then (if t129 = (wrap64 (Int.tdiv (wrap64 (a0)) (wrap64 (a1)))) then (if t131 = t129 then (furrowlaw1_NumRounds.j0 k (wrap64 (a0)) (wrap64 (a1)) t129 t131 false) else (furrowlaw1_NumRounds.j0 k (wrap64 (a0)) (wrap64 (a1)) t129 t131 true)) else (furrowlaw1_NumRounds.j0 k (wrap64 (a0)) (wrap64 (a1)) t129 t131 true)) else (furrowlaw1_NumRounds.j0 k (wrap64 (a0)) (wrap64 (a1)) t129 t131 (t131 != (wrap64 (t129 + 1)))))) else (furrowlaw1_NumRounds.j0 k (wrap64 (a0)) (wrap64 (a1)) t129 t131 true)) = some r := by rw [if_pos rfl] at H; exact H
          clear H
          have H := H1
          clear H1
          by_cases c13 : t132 = true
          · subst c13
            have H1 : (if (wrap64 (a1)) = 0 then (none) else (if (Int.tmod (wrap64 (a0)) (wrap64 (a1))) = 0 then (if t129 = (wrap64 (Int.tdiv (wrap64 (a0)) (wrap64 (a1)))) then (if t131 = t129 then (furrowlaw1_NumRounds.j0 k (wrap64 (a0)) (wrap64 (a1)) t129 t131 false) else (furrowlaw1_NumRounds.j0 k (wrap64 (a0)) (wrap64 (a1)) t129 t131 true)) else (furrowlaw1_NumRounds.j0 k (wrap64 (a0)) (wrap64 (a1)) t129 t131 true)) else (furrowlaw1_NumRounds.j0 k (wrap64 (a0)) (wrap64 (a1)) t129 t131 (t131 != (wrap64 (t129 + 1)))))) = some r := by rw [if_pos rfl] at H; exact H
            clear H
            have H := H1
            clear H1
            by_cases c14 : (wrap64 (a1)) = 0
            · rw [if_pos c14] at H
              exact absurd H (by simp)
            · rw [if_neg c14] at H
              have c14b0 : ((wrap64 (a1)) == 0) = false := beq_eq_false_iff_ne.mpr c14
              have c14b1 : ((wrap64 (a1)) != 0) = true := bne_iff_ne.mpr c14
              (first | rw [c14b0] | (simp only [i64_w, i32_w]; rw [c14b0]) | skip)
              by_cases c15 : (Int.tmod (wrap64 (a0)) (wrap64 (a1))) = 0
              · rw [if_pos c15] at H
                have c15b0 : ((Int.tmod (wrap64 (a0)) (wrap64 (a1))) == 0) = true := beq_iff_eq.mpr c15
                have c15b1 : ((Int.tmod (wrap64 (a0)) (wrap64 (a1))) != 0) = false := bne_eq_false_iff_eq.mpr c15
                clear c15
                by_cases c16 : t129 = (wrap64 (Int.tdiv (wrap64 (a0)) (wrap64 (a1))))
                · rw [if_pos c16] at H
                  have c16b0 : (t129 == (wrap64 (Int.tdiv (wrap64 (a0)) (wrap64 (a1))))) = true := beq_iff_eq.mpr c16
                  have c16b1 : (t129 != (wrap64 (Int.tdiv (wrap64 (a0)) (wrap64 (a1))))) = false := bne_eq_false_iff_eq.mpr c16
                  clear c16
                  by_cases c17 : t131 = t129
                  · rw [if_pos c17] at H
                    have c17b0 : (t131 == t129) = true := beq_iff_eq.mpr c17
                    have c17b1 : (t131 != t129) = false := bne_eq_false_iff_eq.mpr c17
                    clear c17
                    have H' := Aside0.mk H
                    clear H
                    go_wp2
                    go_meet
                    case rel => exact ⟨_, (false), (by first | rfl | (simp; done) | (simp [*]; done)), H', ⟨by first | omega | exact Nat.le_refl _⟩, by repeat (first | exact Drawn0.refl _ | apply Drawn0.step)⟩
                  · rw [if_neg c17] at H
                    have c17b0 : (t131 == t129) = false := beq_eq_false_iff_ne.mpr c17
                    have c17b1 : (t131 != t129) = true := bne_iff_ne.mpr c17
                    have H' := Aside0.mk H
                    clear H
                    go_wp2
                    go_meet
                    case rel => exact ⟨_, (true), (by first | rfl | (simp; done) | (simp [*]; done)), H', ⟨by first | omega | exact Nat.le_refl _⟩, by repeat (first | exact Drawn0.refl _ | apply Drawn0.step)⟩
                · rw [if_neg c16] at H
                  have c16b0 : (t129 == (wrap64 (Int.tdiv (wrap64 (a0)) (wrap64 (a1))))) = false := beq_eq_false_iff_ne.mpr c16
                  have c16b1 : (t129 != (wrap64 (Int.tdiv (wrap64 (a0)) (wrap64 (a1))))) = true := bne_iff_ne.mpr c16
                  have H' := Aside0.mk H
                  clear H
                  go_wp2
                  go_meet
                  case rel => exact ⟨_, (true), (by first | rfl | (simp; done) | (simp [*]; done)), H', ⟨by first | omega | exact Nat.le_refl _⟩, by repeat (first | exact Drawn0.refl _ | apply Drawn0.step)⟩
              · rw [if_neg c15] at H
                have c15b0 : ((Int.tmod (wrap64 (a0)) (wrap64 (a1))) == 0) = false := beq_eq_false_iff_ne.mpr c15
                have c15b1 : ((Int.tmod (wrap64 (a0)) (wrap64 (a1))) != 0) = true := bne_iff_ne.mpr c15
                have H' := Aside0.mk H
                clear H
                go_wp2
                go_meet
                case rel => exact ⟨_, ((t131 != (wrap64 (t129 + 1)))), (by first | rfl | (simp; done) | (simp [*]; done)), H', ⟨by first | omega | exact Nat.le_refl _⟩, by repeat (first | exact Drawn0.refl _ | apply Drawn0.step)⟩
          · replace c13 := Bool.eq_false_iff.mpr c13
            subst c13
            have H1 : (furrowlaw1_NumRounds.j0 k (wrap64 (a0)) (wrap64 (a1)) t129 t131 true) = some r := by rw [if_neg (show ¬ (false = true) by decide)] at H; exact H
            clear H
            have H := H1
            clear H1
            have H' := Aside0.mk H
            clear H
            go_wp2
            go_meet
            case rel => exact ⟨_, (true), (by first | rfl | (simp; done) | (simp [*]; done)), H', ⟨by first | omega | exact Nat.le_refl _⟩, by repeat (first | exact Drawn0.refl _ | apply Drawn0.step)⟩
        · replace c12 := Bool.eq_false_iff.mpr c12
          subst c12
          have H1 : (furrowlaw1_NumRounds.j0 k (wrap64 (a0)) (wrap64 (a1)) t129 t131 true) = some r := by rw [if_neg (show ¬ (false = true) by decide)] at H; exact H
          clear H
          have H := H1
          clear H1
          have H' := Aside0.mk H
          clear H
          go_wp2
          go_meet
          case rel => exact ⟨_, (true), (by first | rfl | (simp; done) | (simp [*]; done)), H', ⟨by first | omega | exact Nat.le_refl _⟩, by repeat (first | exact Drawn0.refl _ | apply Drawn0.step)⟩
      case rest =>
        clear HC11
        try clear c1
        try clear p2
        try clear c4
        try clear c5
        try clear c5b0
        try clear c5b1
        try clear p6
        try clear c8
        try clear c9
        try clear c12
        try clear c13
        try clear c14
        try clear c14b0
        try clear c14b1
        try clear c15
        try clear c15b0
        try clear c15b1
        try clear c16
        try clear c16b0
        try clear c16b1
        try clear c17
        try clear c17b0
        try clear c17b1
        obtain ⟨kq, x88_10, rfl, HA, HJ10, ⟨mc10, rfl⟩⟩ := hcut
        cases kq with
        | zero => exact absurd HA.out (by simp [furrowlaw1_NumRounds.j0])
        | succ kj10 =>
          have H := HA.out
          clear HA
          simp only [furrowlaw1_NumRounds.j0] at H
          by_cases c18 : x88_10 = true
          · subst c18
            have H1 : (some false) = some r := by rw [if_pos rfl] at H; exact H
            clear H
            have H := H1
            clear H1
            obtain rfl := Option.some.inj H
            go_wp2
            go_ret
            exact ⟨by first | rfl | (simp; done) | (simp [*]; done), by repeat (first | exact Drawn0.refl _ | apply Drawn0.step)⟩
          · replace c18 := Bool.eq_false_iff.mpr c18
            subst c18
            have H1 : (if (wrap64 (a1)) < 0 then (if (wrap64 (t129 * (wrap64 (a1)))) ≥ (wrap64 (a0)) then (some (decide ((wrap64 (t131 * (wrap64 (a1)))) ≤ (wrap64 (a0))))) else (some false)) else (if (wrap64 (t129 * (wrap64 (a1)))) ≤ (wrap64 (a0)) then (some (decide ((wrap64 (t131 * (wrap64 (a1)))) ≥ (wrap64 (a0))))) else (some false))) = some r := by rw [if_neg (show ¬ (false = true) by decide)] at H; exact H
            clear H
            have H := H1
            clear H1
            by_cases c19 : (wrap64 (a1)) < 0
            · rw [if_pos c19] at H
              have c19b0 : decide ((wrap64 (a1)) < 0) = true := decide_eq_true c19
              clear c19
              by_cases c20 : (wrap64 (t129 * (wrap64 (a1)))) ≥ (wrap64 (a0))
              · rw [if_pos c20] at H
                have c20b0 : decide ((wrap64 (a0)) ≤ (wrap64 (t129 * (wrap64 (a1))))) = true := decide_eq_true c20
                clear c20
                obtain rfl := Option.some.inj H
                go_wp2
                go_ret
                exact ⟨by first | rfl | (simp; done) | (simp [*]; done), by repeat (first | exact Drawn0.refl _ | apply Drawn0.step)⟩
              · rw [if_neg c20] at H
                have c20b0 : decide ((wrap64 (a0)) ≤ (wrap64 (t129 * (wrap64 (a1))))) = false := decide_eq_false c20
                clear c20
                obtain rfl := Option.some.inj H
                go_wp2
                go_ret
                exact ⟨by first | rfl | (simp; done) | (simp [*]; done), by repeat (first | exact Drawn0.refl _ | apply Drawn0.step)⟩
            · rw [if_neg c19] at H
              have c19b0 : decide ((wrap64 (a1)) < 0) = false := decide_eq_false c19
              clear c19
              by_cases c21 : (wrap64 (t129 * (wrap64 (a1)))) ≤ (wrap64 (a0))
              · rw [if_pos c21] at H
                have c21b0 : decide ((wrap64 (t129 * (wrap64 (a1)))) ≤ (wrap64 (a0))) = true := decide_eq_true c21
                clear c21
                obtain rfl := Option.some.inj H
                go_wp2
                go_ret
                exact ⟨by first | rfl | (simp; done) | (simp [*]; done), by repeat (first | exact Drawn0.refl _ | apply Drawn0.step)⟩
              · rw [if_neg c21] at H
                have c21b0 : decide ((wrap64 (t129 * (wrap64 (a1)))) ≤ (wrap64 (a0))) = false := decide_eq_false c21
                clear c21
                obtain rfl := Option.some.inj H
                go_wp2
                go_ret
                exact ⟨by first | rfl | (simp; done) | (simp [*]; done), by repeat (first | exact Drawn0.refl _ | apply Drawn0.step)⟩
  · replace c4 := Bool.eq_false_iff.mpr c4
    subst c4
    have H1 : (some false) = some r := by rw [if_neg (show ¬ (false = true) by decide)] at H; exact H
    clear H
    have H := H1
    clear H1
    obtain rfl := Option.some.inj H
    go_enter Try.func5, Try.ntmps5
    go_wp2_with (first | ((with_reducible refine gate_callee (f := 9) rfl ?_); refine goesL_ (some 15) rfl rfl Try.func9 (by kernel_rfl) rfl #[] rfl (by (try simp only [List.map_toArray, List.map_cons, List.map_nil]); first | done | rfl | (simp only [List.length_drop, List.length_take]; rfl)) ?_; (with_reducible refine (furrowlaw1_known.calls k  false _ A3.out).mono ?_); rintro e w' ⟨rfl, ⟨nd, rfl⟩⟩; refine ⟨_, rfl, ?_⟩))
    go_ret
    exact ⟨by first | rfl | (simp; done) | (simp [*]; done), by repeat (first | exact Drawn0.refl _ | apply Drawn0.step)⟩

/-- THE ONE PURE STATEMENT of furrowlaw1_NumRounds: yours. -/
def furrowlaw1_NumRounds.Pure : Prop := ∀ (a0 : Int) (a1 : Int), (Lit.int .i32 a0).wf = true → (Lit.int .i32 a1).wf = true → ∃ k, furrowlaw1_NumRounds.f k a0 a1 = some true
theorem furrowlaw1_NumRounds.walk (P : furrowlaw1_NumRounds.Pure) (a0 : Int) (a1 : Int) (w : World) (w0 : (Lit.int .i32 a0).wf = true) (w1 : (Lit.int .i32 a1).wf = true) :
    Calls Try.prog 5 #[.int .i32 a0, .int .i32 a1] w fun e w' => e = .returned (.bool true) ∧ Below w.heap.size w w' := by
  obtain ⟨k, h⟩ := P a0 a1 w0 w1
  refine (furrowlaw1_NumRounds.calls k a0 a1 true w h).mono ?_
  rintro e w' ⟨rfl, hd⟩
  exact ⟨rfl, hd.below⟩

end Go.Proofs.Ytfjfgcnbokefbaa.PNumRounds
