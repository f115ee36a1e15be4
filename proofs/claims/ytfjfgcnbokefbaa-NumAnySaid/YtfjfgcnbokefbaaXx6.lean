-- PRINTED by print.py (a twelfth state) out of the translation. Not trusted: Lean checks it.
import Derived.Test.YtfjfgcnbokefbaaXx0
import Derived.Test.YtfjfgcnbokefbaaXx1
import Derived.Test.YtfjfgcnbokefbaaXx2
import Derived.Test.YtfjfgcnbokefbaaXx3
import Derived.Test.YtfjfgcnbokefbaaXx4
import Derived.Test.YtfjfgcnbokefbaaXx5
namespace Go.Proofs.Ytfjfgcnbokefbaa.X
open Go.Proofs.Ytfjfgcnbokefbaa.Flt Go.Proofs.Ytfjfgcnbokefbaa.H Go.RowKit Go.Proofs.YtfjfgcnbokefbaaW.PrintWords Go.Proofs.YtfjfgcnbokefbaaW.PrintLast Go.Proofs.YtfjfgcnbokefbaaW.PrintMore
attribute [local go_sem] max2_int min2_int max_two min_two max_three min_three max_four min_four   -- for this text's walks alone
set_option linter.unusedVariables false
set_option linter.unusedSimpArgs false

/-! ### furrowlaw1_NumAny: function 7 -/
def furrowlaw1_NumAny.f (k : Nat) (a0 : Int) (a1 : Int) : Option (Bool) := (furrowlaw1_known.f k).bind fun t130 => (if t130 = true then ((num_Add.f a0 a1).bind fun bt131 => ((num_Sub.f a0 a1).bind fun bt133 => ((num_Mul.f k a0 a1).bind fun bt135 => ((num_Floor.f k a0 a1).bind fun bt137 => ((num_Ceil.f k a0 a1).bind fun bt139 => ((furrowref4_Add.f a0 a1).bind fun bt141 => ((furrowref4_Sub.f a0 a1).bind fun bt143 => ((furrowref4_Mul.f k a0 a1).bind fun bt145 => ((furrowref4_Floor.f k a0 a1).bind fun bt147 => ((furrowref4_Ceil.f k a0 a1).bind fun bt149 => (if bt131.1 = bt141.1 then (if (bt131.2 == bt141.2) = true then (if bt133.1 = bt143.1 then (if (bt133.2 == bt143.2) = true then (if bt135.1 = bt145.1 then (if (bt135.2 == bt145.2) = true then (if bt137.1 = bt147.1 then (if (bt137.2 == bt147.2) = true then (if bt139.1 = bt149.1 then (if (bt139.2 == bt149.2) = true then ((num_Gcd.f k a0 a1).bind fun t151 => ((furrowref4_Gcd.f k a0 a1).bind fun t152 => (some (t151 == t152)))) else (some false)) else (some false)) else (some false)) else (some false)) else (some false)) else (some false)) else (some false)) else (some false)) else (some false)) else (some false)))))))))))) else (some false))
theorem furrowlaw1_NumAny.mono : ∀ a0 a1 k, LeO (furrowlaw1_NumAny.f k a0 a1) (furrowlaw1_NumAny.f (k + 1) a0 a1) := by
  intro a0 a1 k
  unfold furrowlaw1_NumAny.f
  repeat' first
      | (with_reducible exact furrowlaw1_known.mono _)
      | (with_reducible exact furrowref4_Ceil.mono _ _ _)
      | (with_reducible exact furrowref4_Floor.mono _ _ _)
      | (with_reducible exact furrowref4_Gcd.mono _ _ _)
      | (with_reducible exact furrowref4_Mul.mono _ _ _)
      | (with_reducible exact num_Ceil.mono _ _ _)
      | (with_reducible exact num_Floor.mono _ _ _)
      | (with_reducible exact num_Gcd.mono _ _ _)
      | (with_reducible exact num_Mul.mono _ _ _)
      | (with_reducible exact LeO.refl _)
      | (with_reducible exact LeO.none _)
      | (with_reducible refine LeO.ite ?_ ?_)
      | (with_reducible refine LeO.bind ?_ (fun _ => ?_))
      | exact furrowlaw1_known.mono _
      | exact furrowref4_Ceil.mono _ _ _
      | exact furrowref4_Floor.mono _ _ _
      | exact furrowref4_Gcd.mono _ _ _
      | exact furrowref4_Mul.mono _ _ _
      | exact num_Ceil.mono _ _ _
      | exact num_Floor.mono _ _ _
      | exact num_Gcd.mono _ _ _
      | exact num_Mul.mono _ _ _
      | exact LeO.none _
      | refine LeO.ite ?_ ?_
      | refine LeO.bind ?_ (fun _ => ?_)
set_option maxHeartbeats 8000000 in
set_option maxRecDepth 100000 in
theorem furrowlaw1_NumAny.calls (k : Nat) (a0 : Int) (a1 : Int) (w : World) (h : furrowlaw1_NumAny.f k a0 a1 = some true) :
    Calls Try.prog 7 #[.int .i64 a0, .int .i64 a1] w fun e w' => e = .returned (.bool true) ∧ Drawn0 w w' := by
  have H : ((furrowlaw1_known.f k).bind fun t130 => (if t130 = true then ((num_Add.f a0 a1).bind fun bt131 => ((num_Sub.f a0 a1).bind fun bt133 => ((num_Mul.f k a0 a1).bind fun bt135 => ((num_Floor.f k a0 a1).bind fun bt137 => ((num_Ceil.f k a0 a1).bind fun bt139 => ((furrowref4_Add.f a0 a1).bind fun bt141 => ((furrowref4_Sub.f a0 a1).bind fun bt143 => ((furrowref4_Mul.f k a0 a1).bind fun bt145 => ((furrowref4_Floor.f k a0 a1).bind fun bt147 => ((furrowref4_Ceil.f k a0 a1).bind fun bt149 => (if bt131.1 = bt141.1 then (if (bt131.2 == bt141.2) = true then (if bt133.1 = bt143.1 then (if (bt133.2 == bt143.2) = true then (if bt135.1 = bt145.1 then (if (bt135.2 == bt145.2) = true then (if bt137.1 = bt147.1 then (if (bt137.2 == bt147.2) = true then (if bt139.1 = bt149.1 then (if (bt139.2 == bt149.2) = true then ((num_Gcd.f k a0 a1).bind fun t151 => ((furrowref4_Gcd.f k a0 a1).bind fun t152 => (some (t151 == t152)))) else (some false)) else (some false)) else (some false)) else (some false)) else (some false)) else (some false)) else (some false)) else (some false)) else (some false)) else (some false)))))))))))) else (some false))) = some true := h
  clear h
  replace H := Option.bind_eq_some_iff.mp H
  obtain ⟨t130, A30, H⟩ := H
  replace H : (if t130 = true then ((num_Add.f a0 a1).bind fun bt131 => ((num_Sub.f a0 a1).bind fun bt133 => ((num_Mul.f k a0 a1).bind fun bt135 => ((num_Floor.f k a0 a1).bind fun bt137 => ((num_Ceil.f k a0 a1).bind fun bt139 => ((furrowref4_Add.f a0 a1).bind fun bt141 => ((furrowref4_Sub.f a0 a1).bind fun bt143 => ((furrowref4_Mul.f k a0 a1).bind fun bt145 => ((furrowref4_Floor.f k a0 a1).bind fun bt147 => ((furrowref4_Ceil.f k a0 a1).bind fun bt149 => (if bt131.1 = bt141.1 then (if (bt131.2 == bt141.2) = true then (if bt133.1 = bt143.1 then (if (bt133.2 == bt143.2) = true then (if bt135.1 = bt145.1 then (if (bt135.2 == bt145.2) = true then (if bt137.1 = bt147.1 then (if (bt137.2 == bt147.2) = true then (if bt139.1 = bt149.1 then (if (bt139.2 == bt149.2) = true then ((num_Gcd.f k a0 a1).bind fun t151 => ((furrowref4_Gcd.f k a0 a1).bind fun t152 => (some (t151 == t152)))) else (some false)) else (some false)) else (some false)) else (some false)) else (some false)) else (some false)) else (some false)) else (some false)) else (some false)) else (some false)))))))))))) else (some false)) = some true := H
  have A3 := Aside0.mk A30
  clear A30
  by_cases c4 : t130 = true
  · subst c4
    have H1 : ((num_Add.f a0 a1).bind fun bt131 => ((num_Sub.f a0 a1).bind fun bt133 => ((num_Mul.f k a0 a1).bind fun bt135 => ((num_Floor.f k a0 a1).bind fun bt137 => ((num_Ceil.f k a0 a1).bind fun bt139 => ((furrowref4_Add.f a0 a1).bind fun bt141 => ((furrowref4_Sub.f a0 a1).bind fun bt143 => ((furrowref4_Mul.f k a0 a1).bind fun bt145 => ((furrowref4_Floor.f k a0 a1).bind fun bt147 => ((furrowref4_Ceil.f k a0 a1).bind fun bt149 => (if bt131.1 = bt141.1 then (if (bt131.2 == bt141.2) = true then (if bt133.1 = bt143.1 then (if (bt133.2 == bt143.2) = true then (if bt135.1 = bt145.1 then (if (bt135.2 == bt145.2) = true then (if bt137.1 = bt147.1 then (if (bt137.2 == bt147.2) = true then (if bt139.1 = bt149.1 then (if (bt139.2 == bt149.2) = true then ((num_Gcd.f k a0 a1).bind fun t151 => ((furrowref4_Gcd.f k a0 a1).bind fun t152 => (some (t151 == t152)))) else (some false)) else (some false)) else (some false)) else (some false)) else (some false)) else (some false)) else (some false)) else (some false)) else (some false)) else (some false)))))))))))) = some true := by rw [if_pos rfl] at H; exact H
    clear H
    have H := H1
    clear H1
    replace H := Option.bind_eq_some_iff.mp H
    obtain ⟨⟨t131, t132⟩, A50, H⟩ := H
    replace H : ((num_Sub.f a0 a1).bind fun bt133 => ((num_Mul.f k a0 a1).bind fun bt135 => ((num_Floor.f k a0 a1).bind fun bt137 => ((num_Ceil.f k a0 a1).bind fun bt139 => ((furrowref4_Add.f a0 a1).bind fun bt141 => ((furrowref4_Sub.f a0 a1).bind fun bt143 => ((furrowref4_Mul.f k a0 a1).bind fun bt145 => ((furrowref4_Floor.f k a0 a1).bind fun bt147 => ((furrowref4_Ceil.f k a0 a1).bind fun bt149 => (if t131 = bt141.1 then (if (t132 == bt141.2) = true then (if bt133.1 = bt143.1 then (if (bt133.2 == bt143.2) = true then (if bt135.1 = bt145.1 then (if (bt135.2 == bt145.2) = true then (if bt137.1 = bt147.1 then (if (bt137.2 == bt147.2) = true then (if bt139.1 = bt149.1 then (if (bt139.2 == bt149.2) = true then ((num_Gcd.f k a0 a1).bind fun t151 => ((furrowref4_Gcd.f k a0 a1).bind fun t152 => (some (t151 == t152)))) else (some false)) else (some false)) else (some false)) else (some false)) else (some false)) else (some false)) else (some false)) else (some false)) else (some false)) else (some false))))))))))) = some true := H
    have A5 := Aside0.mk A50
    clear A50
    replace H := Option.bind_eq_some_iff.mp H
    obtain ⟨⟨t133, t134⟩, A60, H⟩ := H
    replace H : ((num_Mul.f k a0 a1).bind fun bt135 => ((num_Floor.f k a0 a1).bind fun bt137 => ((num_Ceil.f k a0 a1).bind fun bt139 => ((furrowref4_Add.f a0 a1).bind fun bt141 => ((furrowref4_Sub.f a0 a1).bind fun bt143 => ((furrowref4_Mul.f k a0 a1).bind fun bt145 => ((furrowref4_Floor.f k a0 a1).bind fun bt147 => ((furrowref4_Ceil.f k a0 a1).bind fun bt149 => (if t131 = bt141.1 then (if (t132 == bt141.2) = true then (if t133 = bt143.1 then (if (t134 == bt143.2) = true then (if bt135.1 = bt145.1 then (if (bt135.2 == bt145.2) = true then (if bt137.1 = bt147.1 then (if (bt137.2 == bt147.2) = true then (if bt139.1 = bt149.1 then (if (bt139.2 == bt149.2) = true then ((num_Gcd.f k a0 a1).bind fun t151 => ((furrowref4_Gcd.f k a0 a1).bind fun t152 => (some (t151 == t152)))) else (some false)) else (some false)) else (some false)) else (some false)) else (some false)) else (some false)) else (some false)) else (some false)) else (some false)) else (some false)))))))))) = some true := H
    have A6 := Aside0.mk A60
    clear A60
    replace H := Option.bind_eq_some_iff.mp H
    obtain ⟨⟨t135, t136⟩, A70, H⟩ := H
    replace H : ((num_Floor.f k a0 a1).bind fun bt137 => ((num_Ceil.f k a0 a1).bind fun bt139 => ((furrowref4_Add.f a0 a1).bind fun bt141 => ((furrowref4_Sub.f a0 a1).bind fun bt143 => ((furrowref4_Mul.f k a0 a1).bind fun bt145 => ((furrowref4_Floor.f k a0 a1).bind fun bt147 => ((furrowref4_Ceil.f k a0 a1).bind fun bt149 => (if t131 = bt141.1 then (if (t132 == bt141.2) = true then (if t133 = bt143.1 then (if (t134 == bt143.2) = true then (if t135 = bt145.1 then (if (t136 == bt145.2) = true then (if bt137.1 = bt147.1 then (if (bt137.2 == bt147.2) = true then (if bt139.1 = bt149.1 then (if (bt139.2 == bt149.2) = true then ((num_Gcd.f k a0 a1).bind fun t151 => ((furrowref4_Gcd.f k a0 a1).bind fun t152 => (some (t151 == t152)))) else (some false)) else (some false)) else (some false)) else (some false)) else (some false)) else (some false)) else (some false)) else (some false)) else (some false)) else (some false))))))))) = some true := H
    have A7 := Aside0.mk A70
    clear A70
    replace H := Option.bind_eq_some_iff.mp H
    obtain ⟨⟨t137, t138⟩, A80, H⟩ := H
    replace H : ((num_Ceil.f k a0 a1).bind fun bt139 => ((furrowref4_Add.f a0 a1).bind fun bt141 => ((furrowref4_Sub.f a0 a1).bind fun bt143 => ((furrowref4_Mul.f k a0 a1).bind fun bt145 => ((furrowref4_Floor.f k a0 a1).bind fun bt147 => ((furrowref4_Ceil.f k a0 a1).bind fun bt149 => (if t131 = bt141.1 then (if (t132 == bt141.2) = true then (if t133 = bt143.1 then (if (t134 == bt143.2) = true then (if t135 = bt145.1 then (if (t136 == bt145.2) = true then (if t137 = bt147.1 then (if (t138 == bt147.2) = true then (if bt139.1 = bt149.1 then (if (bt139.2 == bt149.2) = true then ((num_Gcd.f k a0 a1).bind fun t151 => ((furrowref4_Gcd.f k a0 a1).bind fun t152 => (some (t151 == t152)))) else (some false)) else (some false)) else (some false)) else (some false)) else (some false)) else (some false)) else (some false)) else (some false)) else (some false)) else (some false)))))))) = some true := H
    have A8 := Aside0.mk A80
    clear A80
    replace H := Option.bind_eq_some_iff.mp H
    obtain ⟨⟨t139, t140⟩, A90, H⟩ := H
    replace H : ((furrowref4_Add.f a0 a1).bind fun bt141 => ((furrowref4_Sub.f a0 a1).bind fun bt143 => ((furrowref4_Mul.f k a0 a1).bind fun bt145 => ((furrowref4_Floor.f k a0 a1).bind fun bt147 => ((furrowref4_Ceil.f k a0 a1).bind fun bt149 => (if t131 = bt141.1 then (if (t132 == bt141.2) = true then (if t133 = bt143.1 then (if (t134 == bt143.2) = true then (if t135 = bt145.1 then (if (t136 == bt145.2) = true then (if t137 = bt147.1 then (if (t138 == bt147.2) = true then (if t139 = bt149.1 then (if (t140 == bt149.2) = true then ((num_Gcd.f k a0 a1).bind fun t151 => ((furrowref4_Gcd.f k a0 a1).bind fun t152 => (some (t151 == t152)))) else (some false)) else (some false)) else (some false)) else (some false)) else (some false)) else (some false)) else (some false)) else (some false)) else (some false)) else (some false))))))) = some true := H
    have A9 := Aside0.mk A90
    clear A90
    replace H := Option.bind_eq_some_iff.mp H
    obtain ⟨⟨t141, t142⟩, A100, H⟩ := H
    replace H : ((furrowref4_Sub.f a0 a1).bind fun bt143 => ((furrowref4_Mul.f k a0 a1).bind fun bt145 => ((furrowref4_Floor.f k a0 a1).bind fun bt147 => ((furrowref4_Ceil.f k a0 a1).bind fun bt149 => (if t131 = t141 then (if (t132 == t142) = true then (if t133 = bt143.1 then (if (t134 == bt143.2) = true then (if t135 = bt145.1 then (if (t136 == bt145.2) = true then (if t137 = bt147.1 then (if (t138 == bt147.2) = true then (if t139 = bt149.1 then (if (t140 == bt149.2) = true then ((num_Gcd.f k a0 a1).bind fun t151 => ((furrowref4_Gcd.f k a0 a1).bind fun t152 => (some (t151 == t152)))) else (some false)) else (some false)) else (some false)) else (some false)) else (some false)) else (some false)) else (some false)) else (some false)) else (some false)) else (some false)))))) = some true := H
    have A10 := Aside0.mk A100
    clear A100
    replace H := Option.bind_eq_some_iff.mp H
    obtain ⟨⟨t143, t144⟩, A110, H⟩ := H
    replace H : ((furrowref4_Mul.f k a0 a1).bind fun bt145 => ((furrowref4_Floor.f k a0 a1).bind fun bt147 => ((furrowref4_Ceil.f k a0 a1).bind fun bt149 => (if t131 = t141 then (if (t132 == t142) = true then (if t133 = t143 then (if (t134 == t144) = true then (if t135 = bt145.1 then (if (t136 == bt145.2) = true then (if t137 = bt147.1 then (if (t138 == bt147.2) = true then (if t139 = bt149.1 then (if (t140 == bt149.2) = true then ((num_Gcd.f k a0 a1).bind fun t151 => ((furrowref4_Gcd.f k a0 a1).bind fun t152 => (some (t151 == t152)))) else (some false)) else (some false)) else (some false)) else (some false)) else (some false)) else (some false)) else (some false)) else (some false)) else (some false)) else (some false))))) = some true := H
    have A11 := Aside0.mk A110
    clear A110
    replace H := Option.bind_eq_some_iff.mp H
    obtain ⟨⟨t145, t146⟩, A120, H⟩ := H
    replace H : ((furrowref4_Floor.f k a0 a1).bind fun bt147 => ((furrowref4_Ceil.f k a0 a1).bind fun bt149 => (if t131 = t141 then (if (t132 == t142) = true then (if t133 = t143 then (if (t134 == t144) = true then (if t135 = t145 then (if (t136 == t146) = true then (if t137 = bt147.1 then (if (t138 == bt147.2) = true then (if t139 = bt149.1 then (if (t140 == bt149.2) = true then ((num_Gcd.f k a0 a1).bind fun t151 => ((furrowref4_Gcd.f k a0 a1).bind fun t152 => (some (t151 == t152)))) else (some false)) else (some false)) else (some false)) else (some false)) else (some false)) else (some false)) else (some false)) else (some false)) else (some false)) else (some false)))) = some true := H
    have A12 := Aside0.mk A120
    clear A120
    replace H := Option.bind_eq_some_iff.mp H
    obtain ⟨⟨t147, t148⟩, A130, H⟩ := H
    replace H : ((furrowref4_Ceil.f k a0 a1).bind fun bt149 => (if t131 = t141 then (if (t132 == t142) = true then (if t133 = t143 then (if (t134 == t144) = true then (if t135 = t145 then (if (t136 == t146) = true then (if t137 = t147 then (if (t138 == t148) = true then (if t139 = bt149.1 then (if (t140 == bt149.2) = true then ((num_Gcd.f k a0 a1).bind fun t151 => ((furrowref4_Gcd.f k a0 a1).bind fun t152 => (some (t151 == t152)))) else (some false)) else (some false)) else (some false)) else (some false)) else (some false)) else (some false)) else (some false)) else (some false)) else (some false)) else (some false))) = some true := H
    have A13 := Aside0.mk A130
    clear A130
    replace H := Option.bind_eq_some_iff.mp H
    obtain ⟨⟨t149, t150⟩, A140, H⟩ := H
    replace H : (if t131 = t141 then (if (t132 == t142) = true then (if t133 = t143 then (if (t134 == t144) = true then (if t135 = t145 then (if (t136 == t146) = true then (if t137 = t147 then (if (t138 == t148) = true then (if t139 = t149 then (if (t140 == t150) = true then ((num_Gcd.f k a0 a1).bind fun t151 => ((furrowref4_Gcd.f k a0 a1).bind fun t152 => (some (t151 == t152)))) else (some false)) else (some false)) else (some false)) else (some false)) else (some false)) else (some false)) else (some false)) else (some false)) else (some false)) else (some false)) = some true := H
    have A14 := Aside0.mk A140
    clear A140
    by_cases c15 : t131 = t141
    · rw [if_pos c15] at H
      have c15b0 : (t131 == t141) = true := beq_iff_eq.mpr c15
      have c15b1 : (t131 != t141) = false := bne_eq_false_iff_eq.mpr c15
      clear c15
      by_cases c16 : (t132 == t142) = true
      · rw [if_pos c16] at H
        have c16b0 : (t132 == t142) = true := c16
        (try (have c16b1 : decide (t132 = t142) = true := by (revert c16; generalize (t132) = p_; generalize (t142) = q_; revert p_ q_; decide)))
        (try (have c16b2 : (t132 == t142) = true := by (revert c16; generalize (t132) = p_; generalize (t142) = q_; revert p_ q_; decide)))
        clear c16
        by_cases c17 : t133 = t143
        · rw [if_pos c17] at H
          have c17b0 : (t133 == t143) = true := beq_iff_eq.mpr c17
          have c17b1 : (t133 != t143) = false := bne_eq_false_iff_eq.mpr c17
          clear c17
          by_cases c18 : (t134 == t144) = true
          · rw [if_pos c18] at H
            have c18b0 : (t134 == t144) = true := c18
            (try (have c18b1 : decide (t134 = t144) = true := by (revert c18; generalize (t134) = p_; generalize (t144) = q_; revert p_ q_; decide)))
            (try (have c18b2 : (t134 == t144) = true := by (revert c18; generalize (t134) = p_; generalize (t144) = q_; revert p_ q_; decide)))
            clear c18
            by_cases c19 : t135 = t145
            · rw [if_pos c19] at H
              have c19b0 : (t135 == t145) = true := beq_iff_eq.mpr c19
              have c19b1 : (t135 != t145) = false := bne_eq_false_iff_eq.mpr c19
              clear c19
              by_cases c20 : (t136 == t146) = true
              · rw [if_pos c20] at H
                have c20b0 : (t136 == t146) = true := c20
                (try (have c20b1 : decide (t136 = t146) = true := by (revert c20; generalize (t136) = p_; generalize (t146) = q_; revert p_ q_; decide)))
                (try (have c20b2 : (t136 == t146) = true := by (revert c20; generalize (t136) = p_; generalize (t146) = q_; revert p_ q_; decide)))
                clear c20
                by_cases c21 : t137 = t147
                · rw [if_pos c21] at H
                  have c21b0 : (t137 == t147) = true := beq_iff_eq.mpr c21
                  have c21b1 : (t137 != t147) = false := bne_eq_false_iff_eq.mpr c21
                  clear c21
                  by_cases c22 : (t138 == t148) = true
                  · rw [if_pos c22] at H
                    have c22b0 : (t138 == t148) = true := c22
                    (try (have c22b1 : decide (t138 = t148) = true := by (revert c22; generalize (t138) = p_; generalize (t148) = q_; revert p_ q_; decide)))
                    (try (have c22b2 : (t138 == t148) = true := by (revert c22; generalize (t138) = p_; generalize (t148) = q_; revert p_ q_; decide)))
                    clear c22
                    by_cases c23 : t139 = t149
                    · rw [if_pos c23] at H
                      have c23b0 : (t139 == t149) = true := beq_iff_eq.mpr c23
                      have c23b1 : (t139 != t149) = false := bne_eq_false_iff_eq.mpr c23
                      clear c23
                      by_cases c24 : (t140 == t150) = true
                      · rw [if_pos c24] at H
                        have c24b0 : (t140 == t150) = true := c24
                        (try (have c24b1 : decide (t140 = t150) = true := by (revert c24; generalize (t140) = p_; generalize (t150) = q_; revert p_ q_; decide)))
                        (try (have c24b2 : (t140 == t150) = true := by (revert c24; generalize (t140) = p_; generalize (t150) = q_; revert p_ q_; decide)))
                        clear c24
                        replace H := Option.bind_eq_some_iff.mp H
                        obtain ⟨t151, A250, H⟩ := H
                        replace H : ((furrowref4_Gcd.f k a0 a1).bind fun t152 => (some (t151 == t152))) = some true := H
                        have A25 := Aside0.mk A250
                        clear A250
                        replace H := Option.bind_eq_some_iff.mp H
                        obtain ⟨t152, A260, H⟩ := H
                        replace H : (some (t151 == t152)) = some true := H
                        have A26 := Aside0.mk A260
                        clear A260
                        have HT := Aside0.mk (Option.some.inj H)
                        clear H
                        go_enter Try.func7, Try.ntmps7
                        go_wp2_with (first | ((with_reducible refine gate_callee (f := 9) rfl ?_); refine goesL_ (some 25) rfl rfl Try.func9 (by kernel_rfl) rfl #[] rfl (by (try simp only [List.map_toArray, List.map_cons, List.map_nil]); first | done | rfl | (simp only [List.length_drop, List.length_take]; rfl)) ?_; (with_reducible refine (furrowlaw1_known.calls k   _ A3.out).mono ?_); rintro e w' ⟨rfl, ⟨nd, rfl⟩⟩; refine ⟨_, rfl, ?_⟩) | ((with_reducible refine gate_callee (f := 17) rfl ?_); refine goesL_ (some 30) rfl rfl Try.func17 (by kernel_rfl) rfl #[.int .i64 a0, .int .i64 a1] rfl (by (try simp only [List.map_toArray, List.map_cons, List.map_nil]); first | done | rfl | (simp only [List.length_drop, List.length_take]; rfl)) ?_; (with_reducible refine (num_Add.calls a0 a1 t131 t132 _ A5.out).mono ?_); rintro e w' ⟨rfl, ⟨nd, rfl⟩⟩; refine ⟨_, rfl, ?_⟩) | ((with_reducible refine gate_callee (f := 18) rfl ?_); refine goesL_ (some 36) rfl rfl Try.func18 (by kernel_rfl) rfl #[.int .i64 a0, .int .i64 a1] rfl (by (try simp only [List.map_toArray, List.map_cons, List.map_nil]); first | done | rfl | (simp only [List.length_drop, List.length_take]; rfl)) ?_; (with_reducible refine (num_Sub.calls a0 a1 t133 t134 _ A6.out).mono ?_); rintro e w' ⟨rfl, ⟨nd, rfl⟩⟩; refine ⟨_, rfl, ?_⟩) | ((with_reducible refine gate_callee (f := 19) rfl ?_); refine goesL_ (some 42) rfl rfl Try.func19 (by kernel_rfl) rfl #[.int .i64 a0, .int .i64 a1] rfl (by (try simp only [List.map_toArray, List.map_cons, List.map_nil]); first | done | rfl | (simp only [List.length_drop, List.length_take]; rfl)) ?_; (with_reducible refine (num_Mul.calls k a0 a1 t135 t136 _ A7.out).mono ?_); rintro e w' ⟨rfl, ⟨nd, rfl⟩⟩; refine ⟨_, rfl, ?_⟩) | ((with_reducible refine gate_callee (f := 14) rfl ?_); refine goesL_ (some 48) rfl rfl Try.func14 (by kernel_rfl) rfl #[.int .i64 a0, .int .i64 a1] rfl (by (try simp only [List.map_toArray, List.map_cons, List.map_nil]); first | done | rfl | (simp only [List.length_drop, List.length_take]; rfl)) ?_; (with_reducible refine (num_Floor.calls k a0 a1 t137 t138 _ A8.out).mono ?_); rintro e w' ⟨rfl, ⟨nd, rfl⟩⟩; refine ⟨_, rfl, ?_⟩) | ((with_reducible refine gate_callee (f := 15) rfl ?_); refine goesL_ (some 54) rfl rfl Try.func15 (by kernel_rfl) rfl #[.int .i64 a0, .int .i64 a1] rfl (by (try simp only [List.map_toArray, List.map_cons, List.map_nil]); first | done | rfl | (simp only [List.length_drop, List.length_take]; rfl)) ?_; (with_reducible refine (num_Ceil.calls k a0 a1 t139 t140 _ A9.out).mono ?_); rintro e w' ⟨rfl, ⟨nd, rfl⟩⟩; refine ⟨_, rfl, ?_⟩) | ((with_reducible refine gate_callee (f := 20) rfl ?_); refine goesL_ (some 60) rfl rfl Try.func20 (by kernel_rfl) rfl #[.int .i64 a0, .int .i64 a1] rfl (by (try simp only [List.map_toArray, List.map_cons, List.map_nil]); first | done | rfl | (simp only [List.length_drop, List.length_take]; rfl)) ?_; (with_reducible refine (furrowref4_Add.calls a0 a1 t141 t142 _ A10.out).mono ?_); rintro e w' ⟨rfl, ⟨nd, rfl⟩⟩; refine ⟨_, rfl, ?_⟩) | ((with_reducible refine gate_callee (f := 21) rfl ?_); refine goesL_ (some 66) rfl rfl Try.func21 (by kernel_rfl) rfl #[.int .i64 a0, .int .i64 a1] rfl (by (try simp only [List.map_toArray, List.map_cons, List.map_nil]); first | done | rfl | (simp only [List.length_drop, List.length_take]; rfl)) ?_; (with_reducible refine (furrowref4_Sub.calls a0 a1 t143 t144 _ A11.out).mono ?_); rintro e w' ⟨rfl, ⟨nd, rfl⟩⟩; refine ⟨_, rfl, ?_⟩) | ((with_reducible refine gate_callee (f := 22) rfl ?_); refine goesL_ (some 72) rfl rfl Try.func22 (by kernel_rfl) rfl #[.int .i64 a0, .int .i64 a1] rfl (by (try simp only [List.map_toArray, List.map_cons, List.map_nil]); first | done | rfl | (simp only [List.length_drop, List.length_take]; rfl)) ?_; (with_reducible refine (furrowref4_Mul.calls k a0 a1 t145 t146 _ A12.out).mono ?_); rintro e w' ⟨rfl, ⟨nd, rfl⟩⟩; refine ⟨_, rfl, ?_⟩) | ((with_reducible refine gate_callee (f := 23) rfl ?_); refine goesL_ (some 78) rfl rfl Try.func23 (by kernel_rfl) rfl #[.int .i64 a0, .int .i64 a1] rfl (by (try simp only [List.map_toArray, List.map_cons, List.map_nil]); first | done | rfl | (simp only [List.length_drop, List.length_take]; rfl)) ?_; (with_reducible refine (furrowref4_Floor.calls k a0 a1 t147 t148 _ A13.out).mono ?_); rintro e w' ⟨rfl, ⟨nd, rfl⟩⟩; refine ⟨_, rfl, ?_⟩) | ((with_reducible refine gate_callee (f := 24) rfl ?_); refine goesL_ (some 84) rfl rfl Try.func24 (by kernel_rfl) rfl #[.int .i64 a0, .int .i64 a1] rfl (by (try simp only [List.map_toArray, List.map_cons, List.map_nil]); first | done | rfl | (simp only [List.length_drop, List.length_take]; rfl)) ?_; (with_reducible refine (furrowref4_Ceil.calls k a0 a1 t149 t150 _ A14.out).mono ?_); rintro e w' ⟨rfl, ⟨nd, rfl⟩⟩; refine ⟨_, rfl, ?_⟩) | (go_at_call 16; (with_reducible refine (num_Gcd.calls k a0 a1 t151 _ A25.out).mono ?_); rintro e w' ⟨rfl, ⟨nd, rfl⟩⟩) | (go_at_call 25; (with_reducible refine (furrowref4_Gcd.calls k a0 a1 t152 _ A26.out).mono ?_); rintro e w' ⟨rfl, ⟨nd, rfl⟩⟩))
                        all_goals (try (exfalso; rename_i h_; rw [c16b2] at h_; revert h_; decide))
                        all_goals (try (exfalso; rename_i h_; rw [c18b2] at h_; revert h_; decide))
                        all_goals (try (exfalso; rename_i h_; rw [c20b2] at h_; revert h_; decide))
                        all_goals (try (exfalso; rename_i h_; rw [c22b2] at h_; revert h_; decide))
                        all_goals (try (exfalso; rename_i h_; rw [c24b2] at h_; revert h_; decide))
                        go_ret
                        exact ⟨by first | rfl | (exact congrArg (fun b_ => Ending.returned (Value.bool b_)) HT.out) | (rw [show _ = _ from HT.out]) | (simp [HT.out]; done) | (simp [show _ = _ from HT.out]; done) | (simp; done) | (simp [*]; done), by repeat (first | exact Drawn0.refl _ | apply Drawn0.step)⟩
                      · rw [if_neg c24] at H
                        have c24b0 : (t140 == t150) = false := by simpa using c24
                        (try (have c24b1 : decide (t140 = t150) = false := by (revert c24; generalize (t140) = p_; generalize (t150) = q_; revert p_ q_; decide)))
                        (try (have c24b2 : (t140 == t150) = false := by (revert c24; generalize (t140) = p_; generalize (t150) = q_; revert p_ q_; decide)))
                        (try (have c24b3 : ¬ (t140 = t150) := by (revert c24; generalize (t140) = p_; generalize (t150) = q_; revert p_ q_; decide)))
                        clear c24
                        exact absurd H (by simp)
                    · rw [if_neg c23] at H
                      have c23b0 : (t139 == t149) = false := beq_eq_false_iff_ne.mpr c23
                      have c23b1 : (t139 != t149) = true := bne_iff_ne.mpr c23
                      exact absurd H (by simp)
                  · rw [if_neg c22] at H
                    have c22b0 : (t138 == t148) = false := by simpa using c22
                    (try (have c22b1 : decide (t138 = t148) = false := by (revert c22; generalize (t138) = p_; generalize (t148) = q_; revert p_ q_; decide)))
                    (try (have c22b2 : (t138 == t148) = false := by (revert c22; generalize (t138) = p_; generalize (t148) = q_; revert p_ q_; decide)))
                    (try (have c22b3 : ¬ (t138 = t148) := by (revert c22; generalize (t138) = p_; generalize (t148) = q_; revert p_ q_; decide)))
                    clear c22
                    exact absurd H (by simp)
                · rw [if_neg c21] at H
                  have c21b0 : (t137 == t147) = false := beq_eq_false_iff_ne.mpr c21
                  have c21b1 : (t137 != t147) = true := bne_iff_ne.mpr c21
                  exact absurd H (by simp)
              · rw [if_neg c20] at H
                have c20b0 : (t136 == t146) = false := by simpa using c20
                (try (have c20b1 : decide (t136 = t146) = false := by (revert c20; generalize (t136) = p_; generalize (t146) = q_; revert p_ q_; decide)))
                (try (have c20b2 : (t136 == t146) = false := by (revert c20; generalize (t136) = p_; generalize (t146) = q_; revert p_ q_; decide)))
                (try (have c20b3 : ¬ (t136 = t146) := by (revert c20; generalize (t136) = p_; generalize (t146) = q_; revert p_ q_; decide)))
                clear c20
                exact absurd H (by simp)
            · rw [if_neg c19] at H
              have c19b0 : (t135 == t145) = false := beq_eq_false_iff_ne.mpr c19
              have c19b1 : (t135 != t145) = true := bne_iff_ne.mpr c19
              exact absurd H (by simp)
          · rw [if_neg c18] at H
            have c18b0 : (t134 == t144) = false := by simpa using c18
            (try (have c18b1 : decide (t134 = t144) = false := by (revert c18; generalize (t134) = p_; generalize (t144) = q_; revert p_ q_; decide)))
            (try (have c18b2 : (t134 == t144) = false := by (revert c18; generalize (t134) = p_; generalize (t144) = q_; revert p_ q_; decide)))
            (try (have c18b3 : ¬ (t134 = t144) := by (revert c18; generalize (t134) = p_; generalize (t144) = q_; revert p_ q_; decide)))
            clear c18
            exact absurd H (by simp)
        · rw [if_neg c17] at H
          have c17b0 : (t133 == t143) = false := beq_eq_false_iff_ne.mpr c17
          have c17b1 : (t133 != t143) = true := bne_iff_ne.mpr c17
          exact absurd H (by simp)
      · rw [if_neg c16] at H
        have c16b0 : (t132 == t142) = false := by simpa using c16
        (try (have c16b1 : decide (t132 = t142) = false := by (revert c16; generalize (t132) = p_; generalize (t142) = q_; revert p_ q_; decide)))
        (try (have c16b2 : (t132 == t142) = false := by (revert c16; generalize (t132) = p_; generalize (t142) = q_; revert p_ q_; decide)))
        (try (have c16b3 : ¬ (t132 = t142) := by (revert c16; generalize (t132) = p_; generalize (t142) = q_; revert p_ q_; decide)))
        clear c16
        exact absurd H (by simp)
    · rw [if_neg c15] at H
      have c15b0 : (t131 == t141) = false := beq_eq_false_iff_ne.mpr c15
      have c15b1 : (t131 != t141) = true := bne_iff_ne.mpr c15
      exact absurd H (by simp)
  · replace c4 := Bool.eq_false_iff.mpr c4
    subst c4
    have H1 : (some false) = some true := by rw [if_neg (show ¬ (false = true) by decide)] at H; exact H
    clear H
    have H := H1
    clear H1
    exact absurd H (by simp)

/-- THE ONE PURE STATEMENT of furrowlaw1_NumAny: yours. -/
def furrowlaw1_NumAny.Pure : Prop := ∀ (a0 : Int) (a1 : Int), (Lit.int .i64 a0).wf = true → (Lit.int .i64 a1).wf = true → ∃ k, furrowlaw1_NumAny.f k a0 a1 = some true
theorem furrowlaw1_NumAny.walk (P : furrowlaw1_NumAny.Pure) (a0 : Int) (a1 : Int) (w : World) (w0 : (Lit.int .i64 a0).wf = true) (w1 : (Lit.int .i64 a1).wf = true) :
    Calls Try.prog 7 #[.int .i64 a0, .int .i64 a1] w fun e w' => e = .returned (.bool true) ∧ Below w.heap.size w w' := by
  obtain ⟨k, h⟩ := P a0 a1 w0 w1
  refine (furrowlaw1_NumAny.calls k a0 a1  w h).mono ?_
  rintro e w' ⟨rfl, hd⟩
  exact ⟨rfl, hd.below⟩

end Go.Proofs.Ytfjfgcnbokefbaa.X
