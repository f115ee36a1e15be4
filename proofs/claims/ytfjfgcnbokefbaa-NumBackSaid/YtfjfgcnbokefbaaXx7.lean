-- PRINTED by print.py (a twelfth state) out of the translation. Not trusted: Lean checks it.
import Derived.Test.YtfjfgcnbokefbaaXx0
import Derived.Test.YtfjfgcnbokefbaaXx1
import Derived.Test.YtfjfgcnbokefbaaXx2
import Derived.Test.YtfjfgcnbokefbaaXx3
namespace Go.Proofs.Ytfjfgcnbokefbaa.X
open Go.Proofs.Ytfjfgcnbokefbaa.Flt Go.Proofs.Ytfjfgcnbokefbaa.H Go.RowKit Go.Proofs.YtfjfgcnbokefbaaW.PrintWords Go.Proofs.YtfjfgcnbokefbaaW.PrintLast Go.Proofs.YtfjfgcnbokefbaaW.PrintMore
attribute [local go_sem] max2_int min2_int max_two min_two max_three min_three max_four min_four   -- for this text's walks alone
set_option linter.unusedVariables false
set_option linter.unusedSimpArgs false

/-! ### furrowlaw1_NumBack: function 8 -/
mutual
def furrowlaw1_NumBack.j0 : Nat → Int → Int → Int → Bool → Option (Bool)
  | 0, _, _, _, _ => none
  | k + 1, x0, x1, x5, x6 => (num_Mul.f k x0 x1).bind fun bt158 => (if bt158.2 = true then (furrowlaw1_NumBack.j1 k x0 x1 x5 x6 bt158.1 bt158.2 (x1 != 0)) else (furrowlaw1_NumBack.j1 k x0 x1 x5 x6 bt158.1 bt158.2 false))
def furrowlaw1_NumBack.j1 : Nat → Int → Int → Int → Bool → Int → Bool → Bool → Option (Bool)
  | 0, _, _, _, _, _, _, _ => none
  | k + 1, x0, x1, x5, x6, x9, x10, x51 => if x51 = true then ((num_Floor.f k x9 x1).bind fun bt160 => ((num_Ceil.f k x9 x1).bind fun bt162 => (if (bt160.2 != bt162.2) = true then (furrowlaw1_NumBack.j2 k x0 x1 x5 x6 x9 x10 true) else (if bt160.2 = true then (if bt160.1 = x0 then (if bt162.1 = x0 then (furrowlaw1_NumBack.j2 k x0 x1 x5 x6 x9 x10 false) else (furrowlaw1_NumBack.j2 k x0 x1 x5 x6 x9 x10 true)) else (furrowlaw1_NumBack.j2 k x0 x1 x5 x6 x9 x10 true)) else (if x9 = (-9223372036854775808) then (furrowlaw1_NumBack.j2 k x0 x1 x5 x6 x9 x10 (x1 != (-1))) else (furrowlaw1_NumBack.j2 k x0 x1 x5 x6 x9 x10 true)))))) else ((num_Add.f x1 x0).bind fun bt168 => ((num_Mul.f k x1 x0).bind fun bt170 => (if (bt168.2 == x6) = true then (if bt168.1 = x5 then (if (bt170.2 == x10) = true then (some (bt170.1 == x9)) else (some false)) else (some false)) else (some false))))
def furrowlaw1_NumBack.j2 : Nat → Int → Int → Int → Bool → Int → Bool → Bool → Option (Bool)
  | 0, _, _, _, _, _, _, _ => none
  | k + 1, x0, x1, x5, x6, x9, x10, x91 => if x91 = true then (some false) else ((num_Add.f x1 x0).bind fun bt164 => ((num_Mul.f k x1 x0).bind fun bt166 => (if (bt164.2 == x6) = true then (if bt164.1 = x5 then (if (bt166.2 == x10) = true then (some (bt166.1 == x9)) else (some false)) else (some false)) else (some false))))
end
def furrowlaw1_NumBack.f (k : Nat) (a0 : Int) (a1 : Int) : Option (Bool) := (furrowlaw1_known.f k).bind fun t153 => (if t153 = true then ((num_Add.f a0 a1).bind fun bt154 => (if bt154.2 = true then ((num_Sub.f bt154.1 a1).bind fun bt156 => (if bt156.2 = true then (if bt156.1 = a0 then (furrowlaw1_NumBack.j0 k a0 a1 bt154.1 bt154.2) else (some false)) else (some false))) else (furrowlaw1_NumBack.j0 k a0 a1 bt154.1 bt154.2))) else (some false))
theorem furrowlaw1_NumBack.mono_l : ∀ k, (∀ y0 y1 y2 y3, LeO (furrowlaw1_NumBack.j0 k y0 y1 y2 y3) (furrowlaw1_NumBack.j0 (k + 1) y0 y1 y2 y3)) ∧ (∀ y0 y1 y2 y3 y4 y5 y6, LeO (furrowlaw1_NumBack.j1 k y0 y1 y2 y3 y4 y5 y6) (furrowlaw1_NumBack.j1 (k + 1) y0 y1 y2 y3 y4 y5 y6)) ∧ (∀ y0 y1 y2 y3 y4 y5 y6, LeO (furrowlaw1_NumBack.j2 k y0 y1 y2 y3 y4 y5 y6) (furrowlaw1_NumBack.j2 (k + 1) y0 y1 y2 y3 y4 y5 y6))
  | 0 => ⟨fun _ _ _ _ r h => by simp [furrowlaw1_NumBack.j0] at h, fun _ _ _ _ _ _ _ r h => by simp [furrowlaw1_NumBack.j1] at h, fun _ _ _ _ _ _ _ r h => by simp [furrowlaw1_NumBack.j2] at h⟩
  | k + 1 => by
    obtain ⟨ih0, ih1, ih2⟩ := furrowlaw1_NumBack.mono_l k
    refine ⟨?_, ?_, ?_⟩
    · intro y0 y1 y2 y3
      unfold furrowlaw1_NumBack.j0
      repeat' first
      | (with_reducible exact ih0 _ _ _ _)
      | (with_reducible exact ih1 _ _ _ _ _ _ _)
      | (with_reducible exact ih2 _ _ _ _ _ _ _)
      | (with_reducible exact furrowlaw1_known.mono _)
      | (with_reducible exact num_Ceil.mono _ _ _)
      | (with_reducible exact num_Floor.mono _ _ _)
      | (with_reducible exact num_Mul.mono _ _ _)
      | (with_reducible exact LeO.refl _)
      | (with_reducible exact LeO.none _)
      | (with_reducible refine LeO.ite ?_ ?_)
      | (with_reducible refine LeO.bind ?_ (fun _ => ?_))
      | exact ih0 _ _ _ _
      | exact ih1 _ _ _ _ _ _ _
      | exact ih2 _ _ _ _ _ _ _
      | exact furrowlaw1_known.mono _
      | exact num_Ceil.mono _ _ _
      | exact num_Floor.mono _ _ _
      | exact num_Mul.mono _ _ _
      | exact LeO.none _
      | refine LeO.ite ?_ ?_
      | refine LeO.bind ?_ (fun _ => ?_)
    · intro y0 y1 y2 y3 y4 y5 y6
      unfold furrowlaw1_NumBack.j1
      repeat' first
      | (with_reducible exact ih0 _ _ _ _)
      | (with_reducible exact ih1 _ _ _ _ _ _ _)
      | (with_reducible exact ih2 _ _ _ _ _ _ _)
      | (with_reducible exact furrowlaw1_known.mono _)
      | (with_reducible exact num_Ceil.mono _ _ _)
      | (with_reducible exact num_Floor.mono _ _ _)
      | (with_reducible exact num_Mul.mono _ _ _)
      | (with_reducible exact LeO.refl _)
      | (with_reducible exact LeO.none _)
      | (with_reducible refine LeO.ite ?_ ?_)
      | (with_reducible refine LeO.bind ?_ (fun _ => ?_))
      | exact ih0 _ _ _ _
      | exact ih1 _ _ _ _ _ _ _
      | exact ih2 _ _ _ _ _ _ _
      | exact furrowlaw1_known.mono _
      | exact num_Ceil.mono _ _ _
      | exact num_Floor.mono _ _ _
      | exact num_Mul.mono _ _ _
      | exact LeO.none _
      | refine LeO.ite ?_ ?_
      | refine LeO.bind ?_ (fun _ => ?_)
    · intro y0 y1 y2 y3 y4 y5 y6
      unfold furrowlaw1_NumBack.j2
      repeat' first
      | (with_reducible exact ih0 _ _ _ _)
      | (with_reducible exact ih1 _ _ _ _ _ _ _)
      | (with_reducible exact ih2 _ _ _ _ _ _ _)
      | (with_reducible exact furrowlaw1_known.mono _)
      | (with_reducible exact num_Ceil.mono _ _ _)
      | (with_reducible exact num_Floor.mono _ _ _)
      | (with_reducible exact num_Mul.mono _ _ _)
      | (with_reducible exact LeO.refl _)
      | (with_reducible exact LeO.none _)
      | (with_reducible refine LeO.ite ?_ ?_)
      | (with_reducible refine LeO.bind ?_ (fun _ => ?_))
      | exact ih0 _ _ _ _
      | exact ih1 _ _ _ _ _ _ _
      | exact ih2 _ _ _ _ _ _ _
      | exact furrowlaw1_known.mono _
      | exact num_Ceil.mono _ _ _
      | exact num_Floor.mono _ _ _
      | exact num_Mul.mono _ _ _
      | exact LeO.none _
      | refine LeO.ite ?_ ?_
      | refine LeO.bind ?_ (fun _ => ?_)
theorem furrowlaw1_NumBack.mono : ∀ a0 a1 k, LeO (furrowlaw1_NumBack.f k a0 a1) (furrowlaw1_NumBack.f (k + 1) a0 a1) := by
  intro a0 a1 k
  obtain ⟨ih0, ih1, ih2⟩ := furrowlaw1_NumBack.mono_l k
  unfold furrowlaw1_NumBack.f
  repeat' first
      | (with_reducible exact ih0 _ _ _ _)
      | (with_reducible exact ih1 _ _ _ _ _ _ _)
      | (with_reducible exact ih2 _ _ _ _ _ _ _)
      | (with_reducible exact furrowlaw1_known.mono _)
      | (with_reducible exact num_Ceil.mono _ _ _)
      | (with_reducible exact num_Floor.mono _ _ _)
      | (with_reducible exact num_Mul.mono _ _ _)
      | (with_reducible exact LeO.refl _)
      | (with_reducible exact LeO.none _)
      | (with_reducible refine LeO.ite ?_ ?_)
      | (with_reducible refine LeO.bind ?_ (fun _ => ?_))
      | exact ih0 _ _ _ _
      | exact ih1 _ _ _ _ _ _ _
      | exact ih2 _ _ _ _ _ _ _
      | exact furrowlaw1_known.mono _
      | exact num_Ceil.mono _ _ _
      | exact num_Floor.mono _ _ _
      | exact num_Mul.mono _ _ _
      | exact LeO.none _
      | refine LeO.ite ?_ ?_
      | refine LeO.bind ?_ (fun _ => ?_)
set_option maxHeartbeats 8000000 in
set_option maxRecDepth 100000 in
theorem furrowlaw1_NumBack.calls (k : Nat) (a0 : Int) (a1 : Int) (w : World) (h : furrowlaw1_NumBack.f k a0 a1 = some true) :
    Calls Try.prog 8 #[.int .i64 a0, .int .i64 a1] w fun e w' => e = .returned (.bool true) ∧ Drawn0 w w' := by
  have H : ((furrowlaw1_known.f k).bind fun t153 => (if t153 = true then ((num_Add.f a0 a1).bind fun bt154 => (if bt154.2 = true then ((num_Sub.f bt154.1 a1).bind fun bt156 => (if bt156.2 = true then (if bt156.1 = a0 then (furrowlaw1_NumBack.j0 k a0 a1 bt154.1 bt154.2) else (some false)) else (some false))) else (furrowlaw1_NumBack.j0 k a0 a1 bt154.1 bt154.2))) else (some false))) = some true := h
  clear h
  replace H := Option.bind_eq_some_iff.mp H
  obtain ⟨t153, A30, H⟩ := H
  replace H : (if t153 = true then ((num_Add.f a0 a1).bind fun bt154 => (if bt154.2 = true then ((num_Sub.f bt154.1 a1).bind fun bt156 => (if bt156.2 = true then (if bt156.1 = a0 then (furrowlaw1_NumBack.j0 k a0 a1 bt154.1 bt154.2) else (some false)) else (some false))) else (furrowlaw1_NumBack.j0 k a0 a1 bt154.1 bt154.2))) else (some false)) = some true := H
  have A3 := Aside0.mk A30
  clear A30
  by_cases c4 : t153 = true
  · subst c4
    have H1 : ((num_Add.f a0 a1).bind fun bt154 => (if bt154.2 = true then ((num_Sub.f bt154.1 a1).bind fun bt156 => (if bt156.2 = true then (if bt156.1 = a0 then (furrowlaw1_NumBack.j0 k a0 a1 bt154.1 bt154.2) else (some false)) else (some false))) else (furrowlaw1_NumBack.j0 k a0 a1 bt154.1 bt154.2))) = some true := by rw [if_pos rfl] at H; exact H
    clear H
    have H := H1
    clear H1
    replace H := Option.bind_eq_some_iff.mp H
    obtain ⟨⟨t154, t155⟩, A50, H⟩ := H
    replace H : (if t155 = true then ((num_Sub.f t154 a1).bind fun bt156 => (if bt156.2 = true then (if bt156.1 = a0 then (furrowlaw1_NumBack.j0 k a0 a1 t154 t155) else (some false)) else (some false))) else (furrowlaw1_NumBack.j0 k a0 a1 t154 t155)) = some true := H
    have A5 := Aside0.mk A50
    clear A50
    have HC6 := Aside0.mk H
    clear H
    go_enter Try.func8, Try.ntmps8
    go_upto_if 27 with (first | ((with_reducible refine gate_callee (f := 9) rfl ?_); refine goesL_ (some 19) rfl rfl Try.func9 (by kernel_rfl) rfl #[] rfl (by (try simp only [List.map_toArray, List.map_cons, List.map_nil]); first | done | rfl | (simp only [List.length_drop, List.length_take]; rfl)) ?_; (with_reducible refine (furrowlaw1_known.calls k   _ A3.out).mono ?_); rintro e w' ⟨rfl, ⟨nd, rfl⟩⟩; refine ⟨_, rfl, ?_⟩) | ((with_reducible refine gate_callee (f := 17) rfl ?_); refine goesL_ (some 24) rfl rfl Try.func17 (by kernel_rfl) rfl #[.int .i64 a0, .int .i64 a1] rfl (by (try simp only [List.map_toArray, List.map_cons, List.map_nil]); first | done | rfl | (simp only [List.length_drop, List.length_take]; rfl)) ?_; (with_reducible refine (num_Add.calls a0 a1 t154 t155 _ A5.out).mono ?_); rintro e w' ⟨rfl, ⟨nd, rfl⟩⟩; refine ⟨_, rfl, ?_⟩))
    (try simp only [Act.put, List.setIfInBounds_toArray, List.set_cons_zero, List.set_cons_succ])
    go_cut [] (fun wc => ∃ (kq : Nat), Aside0 (furrowlaw1_NumBack.j0 kq a0 a1 t154 t155 = some true) ∧ Aside0 (kq ≤ k) ∧ Drawn0 w wc)
    case first =>
      have H := HC6.out
      clear HC6
      by_cases c7 : t155 = true
      · subst c7
        have H1 : ((num_Sub.f t154 a1).bind fun bt156 => (if bt156.2 = true then (if bt156.1 = a0 then (furrowlaw1_NumBack.j0 k a0 a1 t154 true) else (some false)) else (some false))) = some true := by rw [if_pos rfl] at H; exact H
        clear H
        have H := H1
        clear H1
        replace H := Option.bind_eq_some_iff.mp H
        obtain ⟨⟨t156, t157⟩, A80, H⟩ := H
        replace H : (if t157 = true then (if t156 = a0 then (furrowlaw1_NumBack.j0 k a0 a1 t154 true) else (some false)) else (some false)) = some true := H
        have A8 := Aside0.mk A80
        clear A80
        by_cases c9 : t157 = true
        · subst c9
          have H1 : (if t156 = a0 then (furrowlaw1_NumBack.j0 k a0 a1 t154 true) else (some false)) = some true := by rw [if_pos rfl] at H; exact H
          clear H
          have H := H1
          clear H1
          by_cases c10 : t156 = a0
          · rw [if_pos c10] at H
            have c10b0 : (t156 == a0) = true := beq_iff_eq.mpr c10
            have c10b1 : (t156 != a0) = false := bne_eq_false_iff_eq.mpr c10
            clear c10
            (first | rw [c10b0] | (simp only [i64_w, i32_w]; rw [c10b0]) | skip)
            have H' := Aside0.mk H
            clear H
            go_wp2_with (first | ((with_reducible refine gate_callee (f := 18) rfl ?_); refine goesL_ (some 31) rfl rfl Try.func18 (by kernel_rfl) rfl #[.int .i64 t154, .int .i64 a1] rfl (by (try simp only [List.map_toArray, List.map_cons, List.map_nil]); first | done | rfl | (simp only [List.length_drop, List.length_take]; rfl)) ?_; (with_reducible refine (num_Sub.calls t154 a1 t156 true _ A8.out).mono ?_); rintro e w' ⟨rfl, ⟨nd, rfl⟩⟩; refine ⟨_, rfl, ?_⟩))
            go_meet
            case rel => exact ⟨_, H', ⟨by first | omega | exact Nat.le_refl _⟩, by repeat (first | exact Drawn0.refl _ | apply Drawn0.step)⟩
          · rw [if_neg c10] at H
            have c10b0 : (t156 == a0) = false := beq_eq_false_iff_ne.mpr c10
            have c10b1 : (t156 != a0) = true := bne_iff_ne.mpr c10
            (first | rw [c10b0] | (simp only [i64_w, i32_w]; rw [c10b0]) | skip)
            exact absurd H (by simp)
        · replace c9 := Bool.eq_false_iff.mpr c9
          subst c9
          have H1 : (some false) = some true := by rw [if_neg (show ¬ (false = true) by decide)] at H; exact H
          clear H
          have H := H1
          clear H1
          exact absurd H (by simp)
      · replace c7 := Bool.eq_false_iff.mpr c7
        subst c7
        have H1 : (furrowlaw1_NumBack.j0 k a0 a1 t154 false) = some true := by rw [if_neg (show ¬ (false = true) by decide)] at H; exact H
        clear H
        have H := H1
        clear H1
        have H' := Aside0.mk H
        clear H
        go_wp2
        go_meet
        case rel => exact ⟨_, H', ⟨by first | omega | exact Nat.le_refl _⟩, by repeat (first | exact Drawn0.refl _ | apply Drawn0.step)⟩
    case rest =>
      clear HC6
      try clear c1
      try clear p2
      try clear c4
      try clear c7
      try clear c8
      try clear c9
      try clear c10
      try clear c10b0
      try clear c10b1
      obtain ⟨kq, HA, HJ5, ⟨mc5, rfl⟩⟩ := hcut
      cases kq with
      | zero => exact absurd HA.out (by simp [furrowlaw1_NumBack.j0])
      | succ kj5 =>
        have H := HA.out
        clear HA
        simp only [furrowlaw1_NumBack.j0] at H
        replace H := Option.bind_eq_some_iff.mp H
        obtain ⟨⟨t158, t159⟩, A110, H⟩ := H
        replace H : (if t159 = true then (furrowlaw1_NumBack.j1 kj5 a0 a1 t154 t155 t158 t159 (a1 != 0)) else (furrowlaw1_NumBack.j1 kj5 a0 a1 t154 t155 t158 t159 false)) = some true := H
        have A11 := Aside0.mk A110
        clear A110
        have HC12 := Aside0.mk H
        clear H
        go_upto_region 9 with (first | ((with_reducible refine gate_callee (f := 19) rfl ?_); refine goesL_ (some 44) rfl rfl Try.func19 (by kernel_rfl) rfl #[.int .i64 a0, .int .i64 a1] rfl (by (try simp only [List.map_toArray, List.map_cons, List.map_nil]); first | done | rfl | (simp only [List.length_drop, List.length_take]; rfl)) ?_; (with_reducible refine (num_Mul.calls kj5 a0 a1 t158 t159 _ A11.out).mono ?_); rintro e w' ⟨rfl, ⟨nd, rfl⟩⟩; refine ⟨_, rfl, ?_⟩))
        (try simp only [Act.put, List.setIfInBounds_toArray, List.set_cons_zero, List.set_cons_succ])
        go_cut [51] (fun v51 wc => ∃ (kq : Nat) (x51_11 : Bool), v51 = .bool x51_11 ∧ Aside0 (furrowlaw1_NumBack.j1 kq a0 a1 t154 t155 t158 t159 x51_11 = some true) ∧ Aside0 (kq ≤ kj5) ∧ Drawn0 w wc)
        case first =>
          have H := HC12.out
          clear HC12
          by_cases c13 : t159 = true
          · subst c13
            have H1 : (furrowlaw1_NumBack.j1 kj5 a0 a1 t154 t155 t158 true (a1 != 0)) = some true := by rw [if_pos rfl] at H; exact H
            clear H
            have H := H1
            clear H1
            have H' := Aside0.mk H
            clear H
            go_wp2
            go_meet
            case rel => exact ⟨_, ((a1 != 0)), (by first | rfl | (simp; done) | (simp [*]; done)), H', ⟨by have := HJ5.out; first | omega | exact Nat.le_refl _⟩, by repeat (first | exact Drawn0.refl _ | apply Drawn0.step)⟩
          · replace c13 := Bool.eq_false_iff.mpr c13
            subst c13
            have H1 : (furrowlaw1_NumBack.j1 kj5 a0 a1 t154 t155 t158 false false) = some true := by rw [if_neg (show ¬ (false = true) by decide)] at H; exact H
            clear H
            have H := H1
            clear H1
            have H' := Aside0.mk H
            clear H
            go_wp2
            go_meet
            case rel => exact ⟨_, (false), (by first | rfl | (simp; done) | (simp [*]; done)), H', ⟨by have := HJ5.out; first | omega | exact Nat.le_refl _⟩, by repeat (first | exact Drawn0.refl _ | apply Drawn0.step)⟩
        case rest =>
          clear HC12
          try clear c1
          try clear p2
          try clear c4
          try clear c5
          try clear c7
          try clear c8
          try clear c9
          try clear c10
          try clear c10b0
          try clear c10b1
          try clear c13
          try clear p2
          obtain ⟨kq, x51_11, rfl, HA, HJ11, ⟨mc11, rfl⟩⟩ := hcut
          cases kq with
          | zero => exact absurd HA.out (by simp [furrowlaw1_NumBack.j1])
          | succ kj11 =>
            have H := HA.out
            clear HA
            simp only [furrowlaw1_NumBack.j1] at H
            by_cases c14 : x51_11 = true
            · subst c14
              have H1 : ((num_Floor.f kj11 t158 a1).bind fun bt160 => ((num_Ceil.f kj11 t158 a1).bind fun bt162 => (if (bt160.2 != bt162.2) = true then (furrowlaw1_NumBack.j2 kj11 a0 a1 t154 t155 t158 t159 true) else (if bt160.2 = true then (if bt160.1 = a0 then (if bt162.1 = a0 then (furrowlaw1_NumBack.j2 kj11 a0 a1 t154 t155 t158 t159 false) else (furrowlaw1_NumBack.j2 kj11 a0 a1 t154 t155 t158 t159 true)) else (furrowlaw1_NumBack.j2 kj11 a0 a1 t154 t155 t158 t159 true)) else (if t158 = (-9223372036854775808) then (furrowlaw1_NumBack.j2 kj11 a0 a1 t154 t155 t158 t159 (a1 != (-1))) else (furrowlaw1_NumBack.j2 kj11 a0 a1 t154 t155 t158 t159 true)))))) = some true := by rw [if_pos rfl] at H; exact H
              clear H
              have H := H1
              clear H1
              replace H := Option.bind_eq_some_iff.mp H
              obtain ⟨⟨t160, t161⟩, A150, H⟩ := H
              replace H : ((num_Ceil.f kj11 t158 a1).bind fun bt162 => (if (t161 != bt162.2) = true then (furrowlaw1_NumBack.j2 kj11 a0 a1 t154 t155 t158 t159 true) else (if t161 = true then (if t160 = a0 then (if bt162.1 = a0 then (furrowlaw1_NumBack.j2 kj11 a0 a1 t154 t155 t158 t159 false) else (furrowlaw1_NumBack.j2 kj11 a0 a1 t154 t155 t158 t159 true)) else (furrowlaw1_NumBack.j2 kj11 a0 a1 t154 t155 t158 t159 true)) else (if t158 = (-9223372036854775808) then (furrowlaw1_NumBack.j2 kj11 a0 a1 t154 t155 t158 t159 (a1 != (-1))) else (furrowlaw1_NumBack.j2 kj11 a0 a1 t154 t155 t158 t159 true))))) = some true := H
              have A15 := Aside0.mk A150
              clear A150
              replace H := Option.bind_eq_some_iff.mp H
              obtain ⟨⟨t162, t163⟩, A160, H⟩ := H
              replace H : (if (t161 != t163) = true then (furrowlaw1_NumBack.j2 kj11 a0 a1 t154 t155 t158 t159 true) else (if t161 = true then (if t160 = a0 then (if t162 = a0 then (furrowlaw1_NumBack.j2 kj11 a0 a1 t154 t155 t158 t159 false) else (furrowlaw1_NumBack.j2 kj11 a0 a1 t154 t155 t158 t159 true)) else (furrowlaw1_NumBack.j2 kj11 a0 a1 t154 t155 t158 t159 true)) else (if t158 = (-9223372036854775808) then (furrowlaw1_NumBack.j2 kj11 a0 a1 t154 t155 t158 t159 (a1 != (-1))) else (furrowlaw1_NumBack.j2 kj11 a0 a1 t154 t155 t158 t159 true)))) = some true := H
              have A16 := Aside0.mk A160
              clear A160
              have HC17 := Aside0.mk H
              clear H
              go_upto_region 12 with (first | ((with_reducible refine gate_callee (f := 14) rfl ?_); refine goesL_ (some 55) rfl rfl Try.func14 (by kernel_rfl) rfl #[.int .i64 t158, .int .i64 a1] rfl (by (try simp only [List.map_toArray, List.map_cons, List.map_nil]); first | done | rfl | (simp only [List.length_drop, List.length_take]; rfl)) ?_; (with_reducible refine (num_Floor.calls kj11 t158 a1 t160 t161 _ A15.out).mono ?_); rintro e w' ⟨rfl, ⟨nd, rfl⟩⟩; refine ⟨_, rfl, ?_⟩) | ((with_reducible refine gate_callee (f := 15) rfl ?_); refine goesL_ (some 61) rfl rfl Try.func15 (by kernel_rfl) rfl #[.int .i64 t158, .int .i64 a1] rfl (by (try simp only [List.map_toArray, List.map_cons, List.map_nil]); first | done | rfl | (simp only [List.length_drop, List.length_take]; rfl)) ?_; (with_reducible refine (num_Ceil.calls kj11 t158 a1 t162 t163 _ A16.out).mono ?_); rintro e w' ⟨rfl, ⟨nd, rfl⟩⟩; refine ⟨_, rfl, ?_⟩))
              (try simp only [Act.put, List.setIfInBounds_toArray, List.set_cons_zero, List.set_cons_succ])
              go_cut [91] (fun v91 wc => ∃ (kq : Nat) (x91_16 : Bool), v91 = .bool x91_16 ∧ Aside0 (furrowlaw1_NumBack.j2 kq a0 a1 t154 t155 t158 t159 x91_16 = some true) ∧ Aside0 (kq ≤ kj11) ∧ Drawn0 w wc)
              case first =>
                have H := HC17.out
                clear HC17
                by_cases c18 : (t161 != t163) = true
                · rw [if_pos c18] at H
                  have c18b0 : (t161 != t163) = true := c18
                  (try (have c18b1 : decide (t161 = t163) = false := by (revert c18; generalize (t161) = p_; generalize (t163) = q_; revert p_ q_; decide)))
                  (try (have c18b2 : (t161 == t163) = false := by (revert c18; generalize (t161) = p_; generalize (t163) = q_; revert p_ q_; decide)))
                  (try (have c18b3 : ¬ (t161 = t163) := by (revert c18; generalize (t161) = p_; generalize (t163) = q_; revert p_ q_; decide)))
                  clear c18
                  (first | rw [c18b0] | (simp only [i64_w, i32_w]; rw [c18b0]) | skip)
                  have H' := Aside0.mk H
                  clear H
                  go_wp2
                  all_goals (try (exfalso; rename_i h_; rw [c18b2] at h_; revert h_; decide))
                  go_meet
                  case rel => exact ⟨_, (true), (by first | rfl | (simp; done) | (simp [*]; done)), H', ⟨by have := HJ5.out; have := HJ11.out; first | omega | exact Nat.le_refl _⟩, by repeat (first | exact Drawn0.refl _ | apply Drawn0.step)⟩
                · rw [if_neg c18] at H
                  have c18b0 : (t161 != t163) = false := by simpa using c18
                  (try (have c18b1 : decide (t161 = t163) = true := by (revert c18; generalize (t161) = p_; generalize (t163) = q_; revert p_ q_; decide)))
                  (try (have c18b2 : (t161 == t163) = true := by (revert c18; generalize (t161) = p_; generalize (t163) = q_; revert p_ q_; decide)))
                  clear c18
                  (first | rw [c18b0] | (simp only [i64_w, i32_w]; rw [c18b0]) | skip)
                  by_cases c19 : t161 = true
                  · subst c19
                    have H1 : (if t160 = a0 then (if t162 = a0 then (furrowlaw1_NumBack.j2 kj11 a0 a1 t154 t155 t158 t159 false) else (furrowlaw1_NumBack.j2 kj11 a0 a1 t154 t155 t158 t159 true)) else (furrowlaw1_NumBack.j2 kj11 a0 a1 t154 t155 t158 t159 true)) = some true := by rw [if_pos rfl] at H; exact H
                    clear H
                    have H := H1
                    clear H1
                    by_cases c20 : t160 = a0
                    · rw [if_pos c20] at H
                      have c20b0 : (t160 == a0) = true := beq_iff_eq.mpr c20
                      have c20b1 : (t160 != a0) = false := bne_eq_false_iff_eq.mpr c20
                      clear c20
                      by_cases c21 : t162 = a0
                      · rw [if_pos c21] at H
                        have c21b0 : (t162 == a0) = true := beq_iff_eq.mpr c21
                        have c21b1 : (t162 != a0) = false := bne_eq_false_iff_eq.mpr c21
                        clear c21
                        have H' := Aside0.mk H
                        clear H
                        go_wp2
                        all_goals (try (exfalso; rename_i h_; rw [c18b2] at h_; revert h_; decide))
                        go_meet
                        case rel => exact ⟨_, (false), (by first | rfl | (simp; done) | (simp [*]; done)), H', ⟨by have := HJ5.out; have := HJ11.out; first | omega | exact Nat.le_refl _⟩, by repeat (first | exact Drawn0.refl _ | apply Drawn0.step)⟩
                      · rw [if_neg c21] at H
                        have c21b0 : (t162 == a0) = false := beq_eq_false_iff_ne.mpr c21
                        have c21b1 : (t162 != a0) = true := bne_iff_ne.mpr c21
                        have H' := Aside0.mk H
                        clear H
                        go_wp2
                        all_goals (try (exfalso; rename_i h_; rw [c18b2] at h_; revert h_; decide))
                        go_meet
                        case rel => exact ⟨_, (true), (by first | rfl | (simp; done) | (simp [*]; done)), H', ⟨by have := HJ5.out; have := HJ11.out; first | omega | exact Nat.le_refl _⟩, by repeat (first | exact Drawn0.refl _ | apply Drawn0.step)⟩
                    · rw [if_neg c20] at H
                      have c20b0 : (t160 == a0) = false := beq_eq_false_iff_ne.mpr c20
                      have c20b1 : (t160 != a0) = true := bne_iff_ne.mpr c20
                      have H' := Aside0.mk H
                      clear H
                      go_wp2
                      all_goals (try (exfalso; rename_i h_; rw [c18b2] at h_; revert h_; decide))
                      go_meet
                      case rel => exact ⟨_, (true), (by first | rfl | (simp; done) | (simp [*]; done)), H', ⟨by have := HJ5.out; have := HJ11.out; first | omega | exact Nat.le_refl _⟩, by repeat (first | exact Drawn0.refl _ | apply Drawn0.step)⟩
                  · replace c19 := Bool.eq_false_iff.mpr c19
                    subst c19
                    have H1 : (if t158 = (-9223372036854775808) then (furrowlaw1_NumBack.j2 kj11 a0 a1 t154 t155 t158 t159 (a1 != (-1))) else (furrowlaw1_NumBack.j2 kj11 a0 a1 t154 t155 t158 t159 true)) = some true := by rw [if_neg (show ¬ (false = true) by decide)] at H; exact H
                    clear H
                    have H := H1
                    clear H1
                    by_cases c22 : t158 = (-9223372036854775808)
                    · rw [if_pos c22] at H
                      have c22b0 : (t158 == (-9223372036854775808)) = true := beq_iff_eq.mpr c22
                      have c22b1 : (t158 != (-9223372036854775808)) = false := bne_eq_false_iff_eq.mpr c22
                      clear c22
                      have H' := Aside0.mk H
                      clear H
                      go_wp2
                      all_goals (try (exfalso; rename_i h_; rw [c18b2] at h_; revert h_; decide))
                      go_meet
                      case rel => exact ⟨_, ((a1 != (-1))), (by first | rfl | (simp; done) | (simp [*]; done)), H', ⟨by have := HJ5.out; have := HJ11.out; first | omega | exact Nat.le_refl _⟩, by repeat (first | exact Drawn0.refl _ | apply Drawn0.step)⟩
                    · rw [if_neg c22] at H
                      have c22b0 : (t158 == (-9223372036854775808)) = false := beq_eq_false_iff_ne.mpr c22
                      have c22b1 : (t158 != (-9223372036854775808)) = true := bne_iff_ne.mpr c22
                      have H' := Aside0.mk H
                      clear H
                      go_wp2
                      all_goals (try (exfalso; rename_i h_; rw [c18b2] at h_; revert h_; decide))
                      go_meet
                      case rel => exact ⟨_, (true), (by first | rfl | (simp; done) | (simp [*]; done)), H', ⟨by have := HJ5.out; have := HJ11.out; first | omega | exact Nat.le_refl _⟩, by repeat (first | exact Drawn0.refl _ | apply Drawn0.step)⟩
              case rest =>
                clear HC17
                try clear c1
                try clear c2
                try clear p2
                try clear c4
                try clear c5
                try clear c7
                try clear c8
                try clear c9
                try clear c10
                try clear c10b0
                try clear c10b1
                try clear c11
                try clear c13
                try clear c14
                try clear c15
                try clear c17
                try clear c18
                try clear c18b0
                try clear c18b1
                try clear c18b2
                try clear c19
                try clear c20
                try clear c20b0
                try clear c20b1
                try clear c21
                try clear c21b0
                try clear c21b1
                try clear c22
                try clear c22b0
                try clear c22b1
                try clear p2
                obtain ⟨kq, x91_16, rfl, HA, HJ16, ⟨mc16, rfl⟩⟩ := hcut
                cases kq with
                | zero => exact absurd HA.out (by simp [furrowlaw1_NumBack.j2])
                | succ kj16 =>
                  have H := HA.out
                  clear HA
                  simp only [furrowlaw1_NumBack.j2] at H
                  by_cases c23 : x91_16 = true
                  · subst c23
                    have H1 : (some false) = some true := by rw [if_pos rfl] at H; exact H
                    clear H
                    have H := H1
                    clear H1
                    exact absurd H (by simp)
                  · replace c23 := Bool.eq_false_iff.mpr c23
                    subst c23
                    have H1 : ((num_Add.f a1 a0).bind fun bt164 => ((num_Mul.f kj16 a1 a0).bind fun bt166 => (if (bt164.2 == t155) = true then (if bt164.1 = t154 then (if (bt166.2 == t159) = true then (some (bt166.1 == t158)) else (some false)) else (some false)) else (some false)))) = some true := by rw [if_neg (show ¬ (false = true) by decide)] at H; exact H
                    clear H
                    have H := H1
                    clear H1
                    replace H := Option.bind_eq_some_iff.mp H
                    obtain ⟨⟨t164, t165⟩, A240, H⟩ := H
                    replace H : ((num_Mul.f kj16 a1 a0).bind fun bt166 => (if (t165 == t155) = true then (if t164 = t154 then (if (bt166.2 == t159) = true then (some (bt166.1 == t158)) else (some false)) else (some false)) else (some false))) = some true := H
                    have A24 := Aside0.mk A240
                    clear A240
                    replace H := Option.bind_eq_some_iff.mp H
                    obtain ⟨⟨t166, t167⟩, A250, H⟩ := H
                    replace H : (if (t165 == t155) = true then (if t164 = t154 then (if (t167 == t159) = true then (some (t166 == t158)) else (some false)) else (some false)) else (some false)) = some true := H
                    have A25 := Aside0.mk A250
                    clear A250
                    by_cases c26 : (t165 == t155) = true
                    · rw [if_pos c26] at H
                      have c26b0 : (t165 == t155) = true := c26
                      (try (have c26b1 : decide (t165 = t155) = true := by (revert c26; generalize (t165) = p_; generalize (t155) = q_; revert p_ q_; decide)))
                      (try (have c26b2 : (t165 == t155) = true := by (revert c26; generalize (t165) = p_; generalize (t155) = q_; revert p_ q_; decide)))
                      clear c26
                      by_cases c27 : t164 = t154
                      · rw [if_pos c27] at H
                        have c27b0 : (t164 == t154) = true := beq_iff_eq.mpr c27
                        have c27b1 : (t164 != t154) = false := bne_eq_false_iff_eq.mpr c27
                        clear c27
                        by_cases c28 : (t167 == t159) = true
                        · rw [if_pos c28] at H
                          have c28b0 : (t167 == t159) = true := c28
                          (try (have c28b1 : decide (t167 = t159) = true := by (revert c28; generalize (t167) = p_; generalize (t159) = q_; revert p_ q_; decide)))
                          (try (have c28b2 : (t167 == t159) = true := by (revert c28; generalize (t167) = p_; generalize (t159) = q_; revert p_ q_; decide)))
                          clear c28
                          have HT := Aside0.mk (Option.some.inj H)
                          clear H
                          go_wp2_with (first | ((with_reducible refine gate_callee (f := 17) rfl ?_); refine goesL_ (some 95) rfl rfl Try.func17 (by kernel_rfl) rfl #[.int .i64 a1, .int .i64 a0] rfl (by (try simp only [List.map_toArray, List.map_cons, List.map_nil]); first | done | rfl | (simp only [List.length_drop, List.length_take]; rfl)) ?_; (with_reducible refine (num_Add.calls a1 a0 t164 t165 _ A24.out).mono ?_); rintro e w' ⟨rfl, ⟨nd, rfl⟩⟩; refine ⟨_, rfl, ?_⟩) | ((with_reducible refine gate_callee (f := 19) rfl ?_); refine goesL_ (some 101) rfl rfl Try.func19 (by kernel_rfl) rfl #[.int .i64 a1, .int .i64 a0] rfl (by (try simp only [List.map_toArray, List.map_cons, List.map_nil]); first | done | rfl | (simp only [List.length_drop, List.length_take]; rfl)) ?_; (with_reducible refine (num_Mul.calls kj16 a1 a0 t166 t167 _ A25.out).mono ?_); rintro e w' ⟨rfl, ⟨nd, rfl⟩⟩; refine ⟨_, rfl, ?_⟩))
                          all_goals (try (exfalso; rename_i h_; rw [c26b2] at h_; revert h_; decide))
                          all_goals (try (exfalso; rename_i h_; rw [c28b2] at h_; revert h_; decide))
                          go_ret
                          exact ⟨by first | rfl | (exact congrArg (fun b_ => Ending.returned (Value.bool b_)) HT.out) | (rw [show _ = _ from HT.out]) | (simp [HT.out]; done) | (simp [show _ = _ from HT.out]; done) | (simp; done) | (simp [*]; done), by repeat (first | exact Drawn0.refl _ | apply Drawn0.step)⟩
                        · rw [if_neg c28] at H
                          have c28b0 : (t167 == t159) = false := by simpa using c28
                          (try (have c28b1 : decide (t167 = t159) = false := by (revert c28; generalize (t167) = p_; generalize (t159) = q_; revert p_ q_; decide)))
                          (try (have c28b2 : (t167 == t159) = false := by (revert c28; generalize (t167) = p_; generalize (t159) = q_; revert p_ q_; decide)))
                          (try (have c28b3 : ¬ (t167 = t159) := by (revert c28; generalize (t167) = p_; generalize (t159) = q_; revert p_ q_; decide)))
                          clear c28
                          exact absurd H (by simp)
                      · rw [if_neg c27] at H
                        have c27b0 : (t164 == t154) = false := beq_eq_false_iff_ne.mpr c27
                        have c27b1 : (t164 != t154) = true := bne_iff_ne.mpr c27
                        exact absurd H (by simp)
                    · rw [if_neg c26] at H
                      have c26b0 : (t165 == t155) = false := by simpa using c26
                      (try (have c26b1 : decide (t165 = t155) = false := by (revert c26; generalize (t165) = p_; generalize (t155) = q_; revert p_ q_; decide)))
                      (try (have c26b2 : (t165 == t155) = false := by (revert c26; generalize (t165) = p_; generalize (t155) = q_; revert p_ q_; decide)))
                      (try (have c26b3 : ¬ (t165 = t155) := by (revert c26; generalize (t165) = p_; generalize (t155) = q_; revert p_ q_; decide)))
                      clear c26
                      exact absurd H (by simp)
            · replace c14 := Bool.eq_false_iff.mpr c14
              subst c14
              have H1 : ((num_Add.f a1 a0).bind fun bt168 => ((num_Mul.f kj11 a1 a0).bind fun bt170 => (if (bt168.2 == t155) = true then (if bt168.1 = t154 then (if (bt170.2 == t159) = true then (some (bt170.1 == t158)) else (some false)) else (some false)) else (some false)))) = some true := by rw [if_neg (show ¬ (false = true) by decide)] at H; exact H
              clear H
              have H := H1
              clear H1
              replace H := Option.bind_eq_some_iff.mp H
              obtain ⟨⟨t168, t169⟩, A290, H⟩ := H
              replace H : ((num_Mul.f kj11 a1 a0).bind fun bt170 => (if (t169 == t155) = true then (if t168 = t154 then (if (bt170.2 == t159) = true then (some (bt170.1 == t158)) else (some false)) else (some false)) else (some false))) = some true := H
              have A29 := Aside0.mk A290
              clear A290
              replace H := Option.bind_eq_some_iff.mp H
              obtain ⟨⟨t170, t171⟩, A300, H⟩ := H
              replace H : (if (t169 == t155) = true then (if t168 = t154 then (if (t171 == t159) = true then (some (t170 == t158)) else (some false)) else (some false)) else (some false)) = some true := H
              have A30 := Aside0.mk A300
              clear A300
              by_cases c31 : (t169 == t155) = true
              · rw [if_pos c31] at H
                have c31b0 : (t169 == t155) = true := c31
                (try (have c31b1 : decide (t169 = t155) = true := by (revert c31; generalize (t169) = p_; generalize (t155) = q_; revert p_ q_; decide)))
                (try (have c31b2 : (t169 == t155) = true := by (revert c31; generalize (t169) = p_; generalize (t155) = q_; revert p_ q_; decide)))
                clear c31
                by_cases c32 : t168 = t154
                · rw [if_pos c32] at H
                  have c32b0 : (t168 == t154) = true := beq_iff_eq.mpr c32
                  have c32b1 : (t168 != t154) = false := bne_eq_false_iff_eq.mpr c32
                  clear c32
                  by_cases c33 : (t171 == t159) = true
                  · rw [if_pos c33] at H
                    have c33b0 : (t171 == t159) = true := c33
                    (try (have c33b1 : decide (t171 = t159) = true := by (revert c33; generalize (t171) = p_; generalize (t159) = q_; revert p_ q_; decide)))
                    (try (have c33b2 : (t171 == t159) = true := by (revert c33; generalize (t171) = p_; generalize (t159) = q_; revert p_ q_; decide)))
                    clear c33
                    have HT := Aside0.mk (Option.some.inj H)
                    clear H
                    go_wp2_with (first | ((with_reducible refine gate_callee (f := 17) rfl ?_); refine goesL_ (some 95) rfl rfl Try.func17 (by kernel_rfl) rfl #[.int .i64 a1, .int .i64 a0] rfl (by (try simp only [List.map_toArray, List.map_cons, List.map_nil]); first | done | rfl | (simp only [List.length_drop, List.length_take]; rfl)) ?_; (with_reducible refine (num_Add.calls a1 a0 t168 t169 _ A29.out).mono ?_); rintro e w' ⟨rfl, ⟨nd, rfl⟩⟩; refine ⟨_, rfl, ?_⟩) | ((with_reducible refine gate_callee (f := 19) rfl ?_); refine goesL_ (some 101) rfl rfl Try.func19 (by kernel_rfl) rfl #[.int .i64 a1, .int .i64 a0] rfl (by (try simp only [List.map_toArray, List.map_cons, List.map_nil]); first | done | rfl | (simp only [List.length_drop, List.length_take]; rfl)) ?_; (with_reducible refine (num_Mul.calls kj11 a1 a0 t170 t171 _ A30.out).mono ?_); rintro e w' ⟨rfl, ⟨nd, rfl⟩⟩; refine ⟨_, rfl, ?_⟩))
                    all_goals (try (exfalso; rename_i h_; rw [c31b2] at h_; revert h_; decide))
                    all_goals (try (exfalso; rename_i h_; rw [c33b2] at h_; revert h_; decide))
                    go_ret
                    exact ⟨by first | rfl | (exact congrArg (fun b_ => Ending.returned (Value.bool b_)) HT.out) | (rw [show _ = _ from HT.out]) | (simp [HT.out]; done) | (simp [show _ = _ from HT.out]; done) | (simp; done) | (simp [*]; done), by repeat (first | exact Drawn0.refl _ | apply Drawn0.step)⟩
                  · rw [if_neg c33] at H
                    have c33b0 : (t171 == t159) = false := by simpa using c33
                    (try (have c33b1 : decide (t171 = t159) = false := by (revert c33; generalize (t171) = p_; generalize (t159) = q_; revert p_ q_; decide)))
                    (try (have c33b2 : (t171 == t159) = false := by (revert c33; generalize (t171) = p_; generalize (t159) = q_; revert p_ q_; decide)))
                    (try (have c33b3 : ¬ (t171 = t159) := by (revert c33; generalize (t171) = p_; generalize (t159) = q_; revert p_ q_; decide)))
                    clear c33
                    exact absurd H (by simp)
                · rw [if_neg c32] at H
                  have c32b0 : (t168 == t154) = false := beq_eq_false_iff_ne.mpr c32
                  have c32b1 : (t168 != t154) = true := bne_iff_ne.mpr c32
                  exact absurd H (by simp)
              · rw [if_neg c31] at H
                have c31b0 : (t169 == t155) = false := by simpa using c31
                (try (have c31b1 : decide (t169 = t155) = false := by (revert c31; generalize (t169) = p_; generalize (t155) = q_; revert p_ q_; decide)))
                (try (have c31b2 : (t169 == t155) = false := by (revert c31; generalize (t169) = p_; generalize (t155) = q_; revert p_ q_; decide)))
                (try (have c31b3 : ¬ (t169 = t155) := by (revert c31; generalize (t169) = p_; generalize (t155) = q_; revert p_ q_; decide)))
                clear c31
                exact absurd H (by simp)
  · replace c4 := Bool.eq_false_iff.mpr c4
    subst c4
    have H1 : (some false) = some true := by rw [if_neg (show ¬ (false = true) by decide)] at H; exact H
    clear H
    have H := H1
    clear H1
    exact absurd H (by simp)

/-- THE ONE PURE STATEMENT of furrowlaw1_NumBack: yours. -/
def furrowlaw1_NumBack.Pure : Prop := ∀ (a0 : Int) (a1 : Int), (Lit.int .i64 a0).wf = true → (Lit.int .i64 a1).wf = true → ∃ k, furrowlaw1_NumBack.f k a0 a1 = some true
theorem furrowlaw1_NumBack.walk (P : furrowlaw1_NumBack.Pure) (a0 : Int) (a1 : Int) (w : World) (w0 : (Lit.int .i64 a0).wf = true) (w1 : (Lit.int .i64 a1).wf = true) :
    Calls Try.prog 8 #[.int .i64 a0, .int .i64 a1] w fun e w' => e = .returned (.bool true) ∧ Below w.heap.size w w' := by
  obtain ⟨k, h⟩ := P a0 a1 w0 w1
  refine (furrowlaw1_NumBack.calls k a0 a1  w h).mono ?_
  rintro e w' ⟨rfl, hd⟩
  exact ⟨rfl, hd.below⟩

end Go.Proofs.Ytfjfgcnbokefbaa.X
