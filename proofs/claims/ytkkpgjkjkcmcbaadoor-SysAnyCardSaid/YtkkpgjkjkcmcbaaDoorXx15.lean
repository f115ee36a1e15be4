-- PRINTED by print.py (a twelfth state) out of the translation. Not trusted: Lean checks it.
import Derived.Test.YtkkpgjkjkcmcbaaDoorXx0
namespace Go.Proofs.YtkkpgjkjkcmcbaaDoor.X
open Go.Proofs.YtkkpgjkjkcmcbaaDoor.Flt Go.Proofs.YtkkpgjkjkcmcbaaDoor.H Go.RowKit Go.Proofs.YtkkpgjkjkcmcbaaDoorW.PrintWords Go.Proofs.YtkkpgjkjkcmcbaaDoorW.PrintLast Go.Proofs.YtkkpgjkjkcmcbaaDoorW.PrintMore
attribute [local go_sem] max2_int min2_int max_two min_two max_three min_three max_four min_four   -- for this text's walks alone
set_option linter.unusedVariables false
set_option linter.unusedSimpArgs false

/-! ### furrowref20_alone: function 38 -/
def furrowref20_alone.l0 : Nat → Int → Int → List Int → Int → Option (Int)
 | 0, _, _, _, _ => none
 | k + 1, x3, x4, x416000, x416001 => if x4 < (x416000.length : Int) then (if 0 ≤ x4 then (if (rd x416000 x4) = 0 then (furrowref20_alone.l0 k x3 (wrap64 (x4 + 1)) x416000 x416001) else (if x3 ≥ 0 then (some (-1)) else (furrowref20_alone.l0 k x4 (wrap64 (x4 + 1)) x416000 x416001))) else (none)) else (some x3)
def furrowref20_alone.f (k : Nat) (l0_0 : List Int) (a0_1 : Int) : Option (Int) := furrowref20_alone.l0 k (-1) 0 l0_0 a0_1
theorem furrowref20_alone.mono_l : ∀ k, (∀ y0 y1 y2 y3, LeO (furrowref20_alone.l0 k y0 y1 y2 y3) (furrowref20_alone.l0 (k + 1) y0 y1 y2 y3))
 | 0 => fun _ _ _ _ r h => by simp [furrowref20_alone.l0] at h
 | k + 1 => by
  have ih0 := furrowref20_alone.mono_l k
  ·intro y0 y1 y2 y3
   unfold furrowref20_alone.l0
   repeat' first
   | (with_reducible exact ih0 _ _ _ _)
   | (with_reducible exact LeO.refl _)
   | (with_reducible exact LeO.none _)
   | (with_reducible refine LeO.ite ?_ ?_)
   | (with_reducible refine LeO.bind ?_ (fun _ => ?_))
   | exact ih0 _ _ _ _
   | exact LeO.none _
   | refine LeO.ite ?_ ?_
   | refine LeO.bind ?_ (fun _ => ?_)
theorem furrowref20_alone.mono : ∀ a0 a1 k, LeO (furrowref20_alone.f k a0 a1) (furrowref20_alone.f (k + 1) a0 a1) := by
 intro a0 a1 k
 have ih0 := furrowref20_alone.mono_l k
 unfold furrowref20_alone.f
 repeat' first
   | (with_reducible exact ih0 _ _ _ _)
   | (with_reducible exact LeO.refl _)
   | (with_reducible exact LeO.none _)
   | (with_reducible refine LeO.ite ?_ ?_)
   | (with_reducible refine LeO.bind ?_ (fun _ => ?_))
   | exact ih0 _ _ _ _
   | exact LeO.none _
   | refine LeO.ite ?_ ?_
   | refine LeO.bind ?_ (fun _ => ?_)
set_option maxHeartbeats 8000000 in
set_option maxRecDepth 100000 in
theorem furrowref20_alone.calls (k : Nat) (A0_0 : Option Addr) (c0_0 : Nat) (l0_0 : List Int) (a0_1 : Int) (r : Int) (w : World) (hr0_0 : Kd.C (Kd.int .i64) w A0_0 l0_0.length l0_0) (hc0_0 : l0_0.length ≤ c0_0) (h : furrowref20_alone.f k l0_0 a0_1 = some r) :
  Calls Tryd.prog 38 #[.agg #[.slice A0_0 l0_0.length c0_0, .int .i64 a0_1]] w fun e w' => e = .returned (.int .i64 r) ∧ Below w.heap.size w w' := by
 have hu65 := Tryd.underlying65
 have ai := mk0 hr0_0
 have aq := mk0 hc0_0
 clear hr0_0 hc0_0
 have HB := mk0 (Below.refl w.heap.size w)
 have H : (furrowref20_alone.l0 k (-1) 0 l0_0 a0_1) = some r := h
 clear h
 have H' := mk0 H
 clear H
 go_enter Tryd.func38, Tryd.ntmps38
 go_wp2_with (first | ((with_reducible refine gate_dst (N := 1) rfl ?_); refine bxE 1 #[.slice A0_0 l0_0.length c0_0, .int .i64 a0_1] 65 ?_; intro ak hg w2 hbox hb; have ae := mk0 (hbox); have ar := gE (uL HB.out) hg; have au := gE (uL HB.out) hg; replace HB := hbB (uL HB.out) hb; clear hb hbox hg))
 go_loopg [3, 4] k (fun kq v3 v4 w' => ∃ (x3_1 : Int) (x4_1 : Int), v3 = .int .i64 x3_1 ∧ v4 = .int .i64 x4_1 ∧ Aside0 (furrowref20_alone.l0 kq x3_1 x4_1 l0_0 a0_1 = some r) ∧ Aside0 (kq ≤ k) ∧ Aside0 (w'.heap[ak]? = some (.cells #[(.slice A0_0 l0_0.length c0_0), .int .i64 a0_1] 65 (0, 0))) ∧ Aside0 (Below w.heap.size w w'))
 case atStart => exact ⟨((-1)), (0), eK, eK, H', ⟨Nat.le_refl _⟩, ⟨uB ae.out⟩, ⟨bH⟩⟩
 case round =>
  clear H'; obtain ⟨x3_1, x4_1, rfl, rfl, HA, ah, ae, HB⟩ := hrel
  cases gk with
  | zero => exact absurd HA.out (by simp [furrowref20_alone.l0])
  | succ k1 =>
   have H := HA.out; clear HA; simp only [furrowref20_alone.l0] at H
   by_cases c3 : x4_1 < (l0_0.length : Int)
   ·rw [if_pos c3] at H
    have al := decide_eq_true c3; clear c3
    by_cases c4 : 0 ≤ x4_1
    ·rw [if_pos c4] at H
     have av := decide_eq_true c4; clear c4
     by_cases c5 : (rd l0_0 x4_1) = 0
     ·rw [if_pos c5] at H
      have am : ((rd l0_0 x4_1) == 0) = true := beq_iff_eq.mpr c5; have ao : ((rd l0_0 x4_1) != 0) = false := bne_eq_false_iff_eq.mpr c5; clear c5; have H' := mk0 H; clear H; obtain ⟨aw, ax, ay, az⟩ := cL2 ae; have aa : 0 ≤ (x4_1 : Int) := dY; have ac : x4_1 < (l0_0.length : Int) := dY; obtain ⟨aj, ag, af⟩ := Kd.at_int ai.out x4_1 aa ac
      cases ag
      replace af := oC HB af; replace aa := eq_true aa; replace ac := eq_true ac; go_wp2
      go_roundg k1
      case measure => have := ah.out; omega
      case rel => exact ⟨(x3_1), (wrap64 (x4_1 + 1)), eK, eK, H', ⟨by have := ah.out; omega⟩, ⟨uB ae.out⟩, ⟨bH⟩⟩
     ·rw [if_neg c5] at H
      have am : ((rd l0_0 x4_1) == 0) = false := beq_eq_false_iff_ne.mpr c5; have ao : ((rd l0_0 x4_1) != 0) = true := bne_iff_ne.mpr c5
      by_cases c7 : x3_1 ≥ 0
      ·rw [if_pos c7] at H
       have ap := decide_eq_true c7; clear c7; obtain rfl := Option.some.inj H; obtain ⟨aA, aC, aD, aE⟩ := cL2 ae; have aa : 0 ≤ (x4_1 : Int) := dY; have ac : x4_1 < (l0_0.length : Int) := dY; obtain ⟨aj, ag, af⟩ := Kd.at_int ai.out x4_1 aa ac
       cases ag
       replace af := oC HB af; replace aa := eq_true aa; replace ac := eq_true ac; go_wp2; go_ret; exact ⟨rE, bH⟩
      ·rw [if_neg c7] at H
       have ap := decide_eq_false c7; clear c7; have H' := mk0 H; clear H; obtain ⟨aG, aH, aI, aJ⟩ := cL2 ae; have aa : 0 ≤ (x4_1 : Int) := dY; have ac : x4_1 < (l0_0.length : Int) := dY; obtain ⟨aj, ag, af⟩ := Kd.at_int ai.out x4_1 aa ac
       cases ag
       replace af := oC HB af; replace aa := eq_true aa; replace ac := eq_true ac; go_wp2
       go_roundg k1
       case measure => have := ah.out; omega
       case rel => exact ⟨(x4_1), (wrap64 (x4_1 + 1)), eK, eK, H', ⟨by have := ah.out; omega⟩, ⟨uB ae.out⟩, ⟨bH⟩⟩
    ·exact nO H c4
   ·rw [if_neg c3] at H
    have al := decide_eq_false c3; clear c3; obtain rfl := Option.some.inj H; obtain ⟨aK, aM, aN, aQ⟩ := cL2 ae; go_wp2; go_ret; exact ⟨rE, bH⟩

/-! ### furrowref4_Ceil: function 39 -/
def furrowref4_Ceil.j0 : Nat → Int → Int → Bool → Option (Int × Bool)
 | 0, _, _, _ => none
 | k + 1, x0, x1, x16 => if x16 = true then (some (0, false)) else (if x1 = 0 then (none) else (if (Int.tmod x0 x1) = 0 then (some (wrap64 (Int.tdiv x0 x1), true)) else (if ((decide (x0 < 0)) == (decide (x1 < 0))) = true then (some (wrap64 ((wrap64 (Int.tdiv x0 x1)) + 1), true)) else (some (wrap64 (Int.tdiv x0 x1), true)))))
def furrowref4_Ceil.f (k : Nat) (a0 : Int) (a1 : Int) : Option (Int × Bool) := if a1 = 0 then (furrowref4_Ceil.j0 k a0 a1 true) else (if a0 = (-9223372036854775808) then (furrowref4_Ceil.j0 k a0 a1 (a1 == (-1))) else (furrowref4_Ceil.j0 k a0 a1 false))
theorem furrowref4_Ceil.mono_l : ∀ k, (∀ y0 y1 y2, LeO (furrowref4_Ceil.j0 k y0 y1 y2) (furrowref4_Ceil.j0 (k + 1) y0 y1 y2))
 | 0 => fun _ _ _ r h => by simp [furrowref4_Ceil.j0] at h
 | k + 1 => by
  have ih0 := furrowref4_Ceil.mono_l k
  ·intro y0 y1 y2
   unfold furrowref4_Ceil.j0
   repeat' first
   | (with_reducible exact ih0 _ _ _)
   | (with_reducible exact LeO.refl _)
   | (with_reducible exact LeO.none _)
   | (with_reducible refine LeO.ite ?_ ?_)
   | (with_reducible refine LeO.bind ?_ (fun _ => ?_))
   | exact ih0 _ _ _
   | exact LeO.none _
   | refine LeO.ite ?_ ?_
   | refine LeO.bind ?_ (fun _ => ?_)
theorem furrowref4_Ceil.mono : ∀ a0 a1 k, LeO (furrowref4_Ceil.f k a0 a1) (furrowref4_Ceil.f (k + 1) a0 a1) := by
 intro a0 a1 k
 have ih0 := furrowref4_Ceil.mono_l k
 unfold furrowref4_Ceil.f
 repeat' first
   | (with_reducible exact ih0 _ _ _)
   | (with_reducible exact LeO.refl _)
   | (with_reducible exact LeO.none _)
   | (with_reducible refine LeO.ite ?_ ?_)
   | (with_reducible refine LeO.bind ?_ (fun _ => ?_))
   | exact ih0 _ _ _
   | exact LeO.none _
   | refine LeO.ite ?_ ?_
   | refine LeO.bind ?_ (fun _ => ?_)
set_option maxHeartbeats 8000000 in
set_option maxRecDepth 100000 in
theorem furrowref4_Ceil.calls (k : Nat) (a0 : Int) (a1 : Int) (r1 : Int) (r2 : Bool) (w : World) (h : furrowref4_Ceil.f k a0 a1 = some (r1, r2)) :
  Calls Tryd.prog 39 #[.int .i64 a0, .int .i64 a1] w fun e w' => e = .returned (.tuple #[.int .i64 r1, .bool r2]) ∧ Drawn0 w w' := by
 have H : (if a1 = 0 then (furrowref4_Ceil.j0 k a0 a1 true) else (if a0 = (-9223372036854775808) then (furrowref4_Ceil.j0 k a0 a1 (a1 == (-1))) else (furrowref4_Ceil.j0 k a0 a1 false))) = some (r1, r2) := h
 clear h
 have HC3 := mk0 H
 clear H
 go_enter Tryd.func39, Tryd.ntmps39
 go_upto_region 1 with (fail)
 go_cut [16] (fun v16 wc => ∃ (kq : Nat) (x16_2 : Bool), v16 = .bool x16_2 ∧ Aside0 (furrowref4_Ceil.j0 kq a0 a1 x16_2 = some (r1, r2)) ∧ Aside0 (kq ≤ k) ∧ Drawn0 w wc)
 case first =>
  have H := HC3.out; clear HC3
  by_cases c4 : a1 = 0
  ·rw [if_pos c4] at H
   have c4b0 : (a1 == 0) = true := beq_iff_eq.mpr c4; have c4b1 : (a1 != 0) = false := bne_eq_false_iff_eq.mpr c4; clear c4; (first | rw [c4b0] | (simp only [i64_w, i32_w]; rw [c4b0]) | skip); have H' := mk0 H; clear H; go_wp2
   go_meet
   case rel => exact ⟨_, (true), eK, H', ⟨by first | omega | exact Nat.le_refl _⟩, by repeat (first | exact Drawn0.refl _ | apply Drawn0.step)⟩
  ·rw [if_neg c4] at H
   have c4b0 : (a1 == 0) = false := beq_eq_false_iff_ne.mpr c4; have c4b1 : (a1 != 0) = true := bne_iff_ne.mpr c4; (first | rw [c4b0] | (simp only [i64_w, i32_w]; rw [c4b0]) | skip)
   by_cases c5 : a0 = (-9223372036854775808)
   ·rw [if_pos c5] at H
    have c5b0 : (a0 == (-9223372036854775808)) = true := beq_iff_eq.mpr c5; have c5b1 : (a0 != (-9223372036854775808)) = false := bne_eq_false_iff_eq.mpr c5; clear c5; have H' := mk0 H; clear H; go_wp2
    go_meet
    case rel => exact ⟨_, ((a1 == (-1))), eK, H', ⟨by first | omega | exact Nat.le_refl _⟩, by repeat (first | exact Drawn0.refl _ | apply Drawn0.step)⟩
   ·rw [if_neg c5] at H
    have c5b0 : (a0 == (-9223372036854775808)) = false := beq_eq_false_iff_ne.mpr c5; have c5b1 : (a0 != (-9223372036854775808)) = true := bne_iff_ne.mpr c5; have H' := mk0 H; clear H; go_wp2
    go_meet
    case rel => exact ⟨_, (false), eK, H', ⟨by first | omega | exact Nat.le_refl _⟩, by repeat (first | exact Drawn0.refl _ | apply Drawn0.step)⟩
 case rest =>
  clear HC3; obtain ⟨kq, x16_2, rfl, HA, HJ2, ⟨mc2, rfl⟩⟩ := hcut
  cases kq with
  | zero => exact absurd HA.out (by simp [furrowref4_Ceil.j0])
  | succ kj2 =>
   have H := HA.out; clear HA; simp only [furrowref4_Ceil.j0] at H
   by_cases c6 : x16_2 = true
   ·subst c6
    replace H := iT H; simp only [Option.some.injEq, Prod.mk.injEq] at H; obtain ⟨rfl, rfl⟩ := H; go_wp2
    go_ret2
    exact ⟨eK, by repeat (first | exact Drawn0.refl _ | apply Drawn0.step)⟩
   ·replace c6 := Bool.eq_false_iff.mpr c6
    subst c6; replace H := iF H
    by_cases c7 : a1 = 0
    ·exact nI H c7
    ·rw [if_neg c7] at H
     have c7b0 : (a1 == 0) = false := beq_eq_false_iff_ne.mpr c7; have c7b1 : (a1 != 0) = true := bne_iff_ne.mpr c7
     by_cases c8 : (Int.tmod a0 a1) = 0
     ·rw [if_pos c8] at H
      have c8b0 : ((Int.tmod a0 a1) == 0) = true := beq_iff_eq.mpr c8; have c8b1 : ((Int.tmod a0 a1) != 0) = false := bne_eq_false_iff_eq.mpr c8; clear c8; simp only [Option.some.injEq, Prod.mk.injEq] at H; obtain ⟨rfl, rfl⟩ := H; go_wp2
      go_ret2
      exact ⟨eK, by repeat (first | exact Drawn0.refl _ | apply Drawn0.step)⟩
     ·rw [if_neg c8] at H
      have c8b0 : ((Int.tmod a0 a1) == 0) = false := beq_eq_false_iff_ne.mpr c8; have c8b1 : ((Int.tmod a0 a1) != 0) = true := bne_iff_ne.mpr c8
      by_cases c9 : ((decide (a0 < 0)) == (decide (a1 < 0))) = true
      ·rw [if_pos c9] at H
       have c9b0 : ((decide (a0 < 0)) == (decide (a1 < 0))) = true := c9; (try (have c9b1 : decide ((decide (a0 < 0)) = (decide (a1 < 0))) = true := by (revert c9; generalize ((decide (a0 < 0))) = p_; generalize ((decide (a1 < 0))) = q_; revert p_ q_; decide))); (try (have c9b2 : ((decide (a0 < 0)) == (decide (a1 < 0))) = true := by (revert c9; generalize ((decide (a0 < 0))) = p_; generalize ((decide (a1 < 0))) = q_; revert p_ q_; decide))); clear c9; simp only [Option.some.injEq, Prod.mk.injEq] at H; obtain ⟨rfl, rfl⟩ := H; go_wp2
       all_goals (try (exfalso; rename_i h_; rw [c9b2] at h_; revert h_; decide))
       go_ret2
       exact ⟨eK, by repeat (first | exact Drawn0.refl _ | apply Drawn0.step)⟩
      ·rw [if_neg c9] at H
       (have c9b0 : ((decide (a0 < 0)) == (decide (a1 < 0))) = false := by simpa using c9); (try (have c9b1 : decide ((decide (a0 < 0)) = (decide (a1 < 0))) = false := by (revert c9; generalize ((decide (a0 < 0))) = p_; generalize ((decide (a1 < 0))) = q_; revert p_ q_; decide))); (try (have c9b2 : ((decide (a0 < 0)) == (decide (a1 < 0))) = false := by (revert c9; generalize ((decide (a0 < 0))) = p_; generalize ((decide (a1 < 0))) = q_; revert p_ q_; decide))); (try (have c9b3 : ¬ ((decide (a0 < 0)) = (decide (a1 < 0))) := by (revert c9; generalize ((decide (a0 < 0))) = p_; generalize ((decide (a1 < 0))) = q_; revert p_ q_; decide))); clear c9; simp only [Option.some.injEq, Prod.mk.injEq] at H; obtain ⟨rfl, rfl⟩ := H; go_wp2
       all_goals (try (exfalso; rename_i h_; rw [c9b2] at h_; revert h_; decide))
       go_ret2
       exact ⟨eK, by repeat (first | exact Drawn0.refl _ | apply Drawn0.step)⟩

/-! ### furrowref14_coef: function 68 -/
def furrowref14_coef.f (l0_0 : List Int) (a0_1 : Int) (a1 : Int) : Option (Int) := if a1 ≥ (l0_0.length : Int) then (some 0) else (if 0 ≤ a1 then (if a1 < (l0_0.length : Int) then (some (rd l0_0 a1)) else (none)) else (none))
set_option maxHeartbeats 8000000 in
set_option maxRecDepth 100000 in
theorem furrowref14_coef.calls (A0_0 : Option Addr) (c0_0 : Nat) (l0_0 : List Int) (a0_1 : Int) (a1 : Int) (r : Int) (w : World) (hr0_0 : Kd.C (Kd.int .i64) w A0_0 l0_0.length l0_0) (hc0_0 : l0_0.length ≤ c0_0) (h : furrowref14_coef.f l0_0 a0_1 a1 = some r) :
  Calls Tryd.prog 68 #[.agg #[.slice A0_0 l0_0.length c0_0, .int .i64 a0_1], .int .i64 a1] w fun e w' => e = .returned (.int .i64 r) ∧ Below w.heap.size w w' := by
 have hu65 := Tryd.underlying65
 have HR0_0 := mk0 hr0_0
 have HC0_0 := mk0 hc0_0
 clear hr0_0 hc0_0
 have HB := mk0 (Below.refl w.heap.size w)
 have H : (if a1 ≥ (l0_0.length : Int) then (some 0) else (if 0 ≤ a1 then (if a1 < (l0_0.length : Int) then (some (rd l0_0 a1)) else (none)) else (none))) = some r := h
 clear h
 by_cases c3 : a1 ≥ (l0_0.length : Int)
 ·rw [if_pos c3] at H
  have c3b0 := decide_eq_true c3; clear c3; obtain rfl := Option.some.inj H; go_enter Tryd.func68, Tryd.ntmps68
  go_wp2_with (first | ((with_reducible refine gate_dst (N := 2) rfl ?_); refine bxE 2 #[.slice A0_0 l0_0.length c0_0, .int .i64 a0_1] 65 ?_; intro gb458 hg w4 hbox hb; have BK458 := mk0 (hbox); have GW458 := gE (uL HB.out) hg; have GE458 := gE (uL HB.out) hg; replace HB := hbB (uL HB.out) hb; clear hb hbox hg; obtain ⟨hcz5_0, hcz5_1, hfz5_0, hfz5_1⟩ := cL2 BK458))
  go_ret; exact ⟨rE, bH⟩
 ·rw [if_neg c3] at H
  have c3b0 := decide_eq_false c3; clear c3
  by_cases c6 : 0 ≤ a1
  ·rw [if_pos c6] at H
   have c6b0 := decide_eq_true c6; clear c6
   by_cases c7 : a1 < (l0_0.length : Int)
   ·rw [if_pos c7] at H
    have c7b0 := decide_eq_true c7; clear c7; obtain rfl := Option.some.inj H; go_enter Tryd.func68, Tryd.ntmps68
    go_wp2_with (first | ((with_reducible refine gate_dst (N := 2) rfl ?_); refine bxE 2 #[.slice A0_0 l0_0.length c0_0, .int .i64 a0_1] 65 ?_; intro gb458 hg w8 hbox hb; have BK458 := mk0 (hbox); have GW458 := gE (uL HB.out) hg; have GE458 := gE (uL HB.out) hg; replace HB := hbB (uL HB.out) hb; clear hb hbox hg; obtain ⟨hcz9_0, hcz9_1, hfz9_0, hfz9_1⟩ := cL2 BK458; have p459 : 0 ≤ (a1 : Int) := dY; have q459 : a1 < (l0_0.length : Int) := dY; obtain ⟨ad459, e459, hx459_0⟩ := Kd.at_int HR0_0.out a1 p459 q459; cases e459; replace hx459_0 := oC HB hx459_0; replace p459 := eq_true p459; replace q459 := eq_true q459))
    go_ret; exact ⟨rE, bH⟩
   ·exact nO H c7
  ·exact nO H c6


/-! ### furrowref14_Same: function 62 -/
mutual
def furrowref14_Same.l0 : Nat → Int → List Int → Int → List Int → Int → Option (Bool)
 | 0, _, _, _, _, _ => none
 | k + 1, x5, x461000, x461001, x462000, x462001 => if x5 < (x461000.length : Int) then (furrowref14_Same.j1 k x5 true x461000 x461001 x462000 x462001) else (furrowref14_Same.j1 k x5 (decide (x5 < (x462000.length : Int))) x461000 x461001 x462000 x462001)
def furrowref14_Same.j1 : Nat → Int → Bool → List Int → Int → List Int → Int → Option (Bool)
 | 0, _, _, _, _, _, _ => none
 | k + 1, x5, x17, x461000, x461001, x462000, x462001 => if x17 = true then ((furrowref14_coef.f x461000 x461001 x5).bind fun t462 => ((furrowref14_coef.f x462000 x462001 x5).bind fun t463 => (if t462 = t463 then (furrowref14_Same.l0 k (wrap64 (x5 + 1)) x461000 x461001 x462000 x462001) else (some false)))) else (some (x461001 == x462001))
end
def furrowref14_Same.f (k : Nat) (l0_0 : List Int) (a0_1 : Int) (l1_0 : List Int) (a1_1 : Int) : Option (Bool) := furrowref14_Same.l0 k 0 l0_0 a0_1 l1_0 a1_1
theorem furrowref14_Same.mono_l : ∀ k, (∀ y0 y1 y2 y3 y4, LeO (furrowref14_Same.l0 k y0 y1 y2 y3 y4) (furrowref14_Same.l0 (k + 1) y0 y1 y2 y3 y4)) ∧ (∀ y0 y1 y2 y3 y4 y5, LeO (furrowref14_Same.j1 k y0 y1 y2 y3 y4 y5) (furrowref14_Same.j1 (k + 1) y0 y1 y2 y3 y4 y5))
 | 0 => by refine ⟨?_, ?_⟩ <;> intros <;> exact fun r h => by simp [furrowref14_Same.l0, furrowref14_Same.j1] at h
 | k + 1 => by
  obtain ⟨i0_, i1_⟩ := furrowref14_Same.mono_l k; refine ⟨?_, ?_⟩ <;> intros
  ·unfold furrowref14_Same.l0; exact lO_
  ·unfold furrowref14_Same.j1; exact lO_
theorem furrowref14_Same.mono : ∀ a0 a1 a2 a3 k, LeO (furrowref14_Same.f k a0 a1 a2 a3) (furrowref14_Same.f (k + 1) a0 a1 a2 a3) := by
 intro a0 a1 a2 a3 k
 obtain ⟨i0_, i1_⟩ := furrowref14_Same.mono_l k; unfold furrowref14_Same.f; exact lO_
set_option maxHeartbeats 8000000 in
set_option maxRecDepth 100000 in
theorem furrowref14_Same.calls (k : Nat) (A0_0 : Option Addr) (c0_0 : Nat) (l0_0 : List Int) (a0_1 : Int) (A1_0 : Option Addr) (c1_0 : Nat) (l1_0 : List Int) (a1_1 : Int) (r : Bool) (w : World) (hr0_0 : Kd.C (Kd.int .i64) w A0_0 l0_0.length l0_0) (hc0_0 : l0_0.length ≤ c0_0) (hr1_0 : Kd.C (Kd.int .i64) w A1_0 l1_0.length l1_0) (hc1_0 : l1_0.length ≤ c1_0) (h : furrowref14_Same.f k l0_0 a0_1 l1_0 a1_1 = some r) :
  Calls Tryd.prog 62 #[.agg #[.slice A0_0 l0_0.length c0_0, .int .i64 a0_1], .agg #[.slice A1_0 l1_0.length c1_0, .int .i64 a1_1]] w fun e w' => e = .returned (.bool r) ∧ Below w.heap.size w w' := by
 have hu65 := Tryd.underlying65
 have ar := mk0 hr0_0
 have au := mk0 hc0_0
 clear hr0_0 hc0_0
 have av := mk0 hr1_0
 have aw := mk0 hc1_0
 clear hr1_0 hc1_0
 have HB := mk0 (Below.refl w.heap.size w)
 have H : (furrowref14_Same.l0 k 0 l0_0 a0_1 l1_0 a1_1) = some r := h
 clear h
 have H' := mk0 H
 clear H
 go_enter Tryd.func62, Tryd.ntmps62
 go_wp2_with (first | ((with_reducible refine gate_dst (N := 2) rfl ?_); (try (refine gate_guard (by rfl) ?_; dsimp only)); refine bxE 2 #[.slice A0_0 l0_0.length c0_0, .int .i64 a0_1] 65 ?_; intro ah hg w3 hbox hb; have aa := mk0 (hbox); have aE := gE (uL HB.out) hg; have aG := gE (uL HB.out) hg; replace HB := hbB (uL HB.out) hb; clear hb hbox hg) | ((with_reducible refine gate_dst (N := 3) rfl ?_); (try (refine gate_guard (by rfl) ?_; dsimp only)); refine bxE 3 #[.slice A1_0 l1_0.length c1_0, .int .i64 a1_1] 65 ?_; intro ai hg w4 hbox hb; have ac := mk0 (hbox); have aH := gE bH hg; have aI := gE bH hg; replace HB := hbB bH hb; have ao := nL aa hg; have ap := nG aa hg; replace aa := bB aa hb; clear hb hbox hg))
 go_loopg [5] k (fun kq v5 w' => ∃ (x5_1 : Int), v5 = .int .i64 x5_1 ∧ Aside0 (furrowref14_Same.l0 kq x5_1 l0_0 a0_1 l1_0 a1_1 = some r) ∧ Aside0 (kq ≤ k) ∧ Aside0 (w'.heap[ah]? = some (.cells #[(.slice A0_0 l0_0.length c0_0), .int .i64 a0_1] 65 (0, 0))) ∧ Aside0 (w'.heap[ai]? = some (.cells #[(.slice A1_0 l1_0.length c1_0), .int .i64 a1_1] 65 (0, 0))) ∧ Aside0 (Below w.heap.size w w'))
 case atStart => exact ⟨(0), eK, H', ⟨Nat.le_refl _⟩, ⟨uB aa.out⟩, ⟨uB ac.out⟩, ⟨bH⟩⟩
 case round =>
  clear H'; obtain ⟨x5_1, rfl, HA, ak, aa, ac, HB⟩ := hrel
  cases gk with
  | zero => exact absurd HA.out (by simp [furrowref14_Same.l0])
  | succ k1 =>
   have H := HA.out; clear HA; simp only [furrowref14_Same.l0] at H; have aq := mk0 H; clear H
   go_upto_region 2 with (fail)
   go_cut [17] (fun aA wc => ∃ (kq : Nat) (al : Bool), aA = .bool al ∧ Aside0 (furrowref14_Same.j1 kq x5_1 al l0_0 a0_1 l1_0 a1_1 = some r) ∧ Aside0 (kq ≤ k1) ∧ Aside0 (wc.heap[ah]? = some (.cells #[(.slice A0_0 l0_0.length c0_0), .int .i64 a0_1] 65 (0, 0))) ∧ Aside0 (wc.heap[ai]? = some (.cells #[(.slice A1_0 l1_0.length c1_0), .int .i64 a1_1] 65 (0, 0))) ∧ Aside0 (Below w.heap.size w wc))
   case first =>
    have H := aq.out; clear aq
    by_cases c6 : x5_1 < (l0_0.length : Int)
    ·rw [if_pos c6] at H
     have aj := decide_eq_true c6; clear c6; (first | rw [aj] | (simp only [i64_w, i32_w]; rw [aj]) | skip); have H' := mk0 H; clear H; have aJ := ao.out; have aK := ap.out; obtain ⟨aM, aN, aQ, aT⟩ := cL2 aa; go_wp2
     go_meet
     case rel => exact ⟨_, (true), eK, H', ⟨by have := ak.out; first | omega | exact Nat.le_refl _⟩, ⟨uB aa.out⟩, ⟨uB ac.out⟩, ⟨bH⟩⟩
    ·rw [if_neg c6] at H
     have aj := decide_eq_false c6; clear c6; (first | rw [aj] | (simp only [i64_w, i32_w]; rw [aj]) | skip); have H' := mk0 H; clear H; have aU := ao.out; have aV := ap.out; obtain ⟨aW, aX, aY, aZ⟩ := cL2 aa; obtain ⟨a6, a7, a8, a9⟩ := cL2 ac; go_wp2
     go_meet
     case rel => exact ⟨_, (decide (x5_1 < (l1_0.length : Int))), eK, H', ⟨by have := ak.out; first | omega | exact Nat.le_refl _⟩, ⟨uB aa.out⟩, ⟨uB ac.out⟩, ⟨bH⟩⟩
   case rest =>
    clear aq; obtain ⟨kq, al, rfl, HA, ax, aa, ac, HB⟩ := hcut
    cases kq with
    | zero => exact absurd HA.out (by simp [furrowref14_Same.j1])
    | succ kj4 =>
     have H := HA.out; clear HA; simp only [furrowref14_Same.j1] at H
     by_cases am : al = true
     ·subst am
      replace H := iT H; obtain ⟨ae, ay, H⟩ := oB H; obtain ⟨af, az, H⟩ := oB H
      by_cases ag : ae = af
      ·rw [if_pos ag] at H
       have aC : (ae == af) = true := beq_iff_eq.mpr ag; have aD : (ae != af) = false := bne_eq_false_iff_eq.mpr ag; clear ag; have H' := mk0 H; clear H; (try go_wp2); replace aa := mk0 (blk_drew aa.out); replace ac := mk0 (blk_drew ac.out); replace HB := mk0 (below_drew1 HB.out); refine start_ (n := 7) (S := fun w' => w'.cell? ⟨ah, 0, none⟩ = some (.slice A0_0 l0_0.length c0_0) ∧ w'.cell? ⟨ah, 1, none⟩ = some (.int .i64 a0_1) ∧ w'.cell? ⟨ai, 0, none⟩ = some (.slice A1_0 l1_0.length c1_0) ∧ w'.cell? ⟨ai, 1, none⟩ = some (.int .i64 a1_1)) (ds := []) (bts 7 0) (by kernel_rfl) rfl rfl ⟨(blk_cell aa.out 0).trans rfl, (blk_cell aa.out 1).trans rfl, (blk_cell ac.out 0).trans rfl, (blk_cell ac.out 1).trans rfl⟩ (fun hHeld => ?_); generalize wc.drew = a_ at aa ac HB hHeld ⊢; refine pure_ (i := 1) (N := some 21) (v := ?_) (a' := ?_) (bts 7 2) rfl rfl (by kernel_rfl) (fun _ _ _ h => h) (Or.inl ⟨by rfl, ?_⟩) ?_ ?_; rotate_left
       ·intro w'
        go_simp; (with_reducible rfl)
       rotate_left
       ·simp only [AP, i64_w, i32_w]
        rfl
       refine pure_ (i := 4) (N := some 24) (v := ?_) (a' := ?_) (bts 7 18) rfl rfl (by kernel_rfl) (fun _ _ _ h => h) (Or.inl ⟨by rfl, ?_⟩) ?_ ?_; rotate_left
       ·intro w'
        go_simp; (with_reducible rfl)
       rotate_left
       ·simp only [AP, i64_w, i32_w]
        rfl
       refine take_ (i := 0) (N := some 20) (v := ?_) (a' := ?_) (bts 7 19) rfl rfl (by kernel_rfl) (fun _ _ _ h => h) (Or.inl ⟨by rfl, ?_⟩) hHeld ?_ ?_; rotate_left
       ·rintro w' ⟨s0, s1, s2, s3⟩
        go_simp; (with_reducible rfl)
       rotate_left
       ·simp only [AP, i64_w, i32_w]
        rfl
       refine take_ (i := 3) (N := some 23) (v := ?_) (a' := ?_) (bts 7 27) rfl rfl (by kernel_rfl) (fun _ _ _ h => h) (Or.inl ⟨by rfl, ?_⟩) hHeld ?_ ?_; rotate_left
       ·rintro w' ⟨s0, s1, s2, s3⟩
        go_simp; (with_reducible rfl)
       rotate_left
       ·simp only [AP, i64_w, i32_w]
        rfl
       refine one_ (i := 2) (N := some 22) (bts 7 31) rfl rfl (by kernel_rfl) (by decide) (fun K hK => ?_); refine goes_ Tryd.func68 (by kernel_rfl) rfl #[.agg #[.slice A0_0 l0_0.length c0_0, .int .i64 a0_1], .int .i64 x5_1] (by rfl) rfl rfl (by (try simp only [List.map_toArray, List.map_cons, List.map_nil]); first | done | rfl | (simp only [List.length_drop, List.length_take]; rfl)) ?_; (with_reducible refine (furrowref14_coef.calls _ _ l0_0 a0_1 x5_1 ae _ ?side1 ?side2 ay.out).mono ?_); (case side1 => exact uC (Kd.C_below ar.out HB.out)); (case side2 => exact au.out); rintro e ba ⟨rfl, hb⟩; refine ⟨_, rfl, ?_⟩; replace aa := bB aa hb; replace ac := bB ac hb; replace HB := hbB bH hb; (try clear hb); refine hK.out _ _ ⟨(blk_cell aa.out 0).trans rfl, (blk_cell aa.out 1).trans rfl, (blk_cell ac.out 0).trans rfl, (blk_cell ac.out 1).trans rfl⟩ (fun hHeld => ?_); clear hK K; refine norm_ (a' := ?_) ?_ ?_; rotate_left
       ·show Act.put _ (some 22) _ = _
        simp only [AP, i64_w, i32_w]; rfl
       refine one_ (i := 5) (N := some 25) (bts 7 63) rfl rfl (by kernel_rfl) (by decide) (fun K hK => ?_); refine goes_ Tryd.func68 (by kernel_rfl) rfl #[.agg #[.slice A1_0 l1_0.length c1_0, .int .i64 a1_1], .int .i64 x5_1] (by rfl) rfl rfl (by (try simp only [List.map_toArray, List.map_cons, List.map_nil]); first | done | rfl | (simp only [List.length_drop, List.length_take]; rfl)) ?_; (with_reducible refine (furrowref14_coef.calls _ _ l1_0 a1_1 x5_1 af _ ?side1 ?side2 az.out).mono ?_); (case side1 => exact uC (Kd.C_below av.out HB.out)); (case side2 => exact aw.out); rintro e bb ⟨rfl, hb⟩; refine ⟨_, rfl, ?_⟩; replace aa := bB aa hb; replace ac := bB ac hb; replace HB := hbB bH hb; (try clear hb); refine hK.out _ _ ⟨(blk_cell aa.out 0).trans rfl, (blk_cell aa.out 1).trans rfl, (blk_cell ac.out 0).trans rfl, (blk_cell ac.out 1).trans rfl⟩ (fun hHeld => ?_); clear hK K; refine norm_ (a' := ?_) ?_ ?_; rotate_left
       ·show Act.put _ (some 25) _ = _
        simp only [AP, i64_w, i32_w]; rfl
       refine pure_ (i := 6) (N := some 26) (v := ?_) (a' := ?_) (bts 7 127) rfl rfl (by kernel_rfl) (fun _ _ _ h => h) (Or.inl ⟨by rfl, ?_⟩) ?_ ?_; rotate_left
       ·intro w'
        go_simp; (with_reducible rfl)
       rotate_left
       ·simp only [AP, i64_w, i32_w]
        rfl
       refine done_ (by kernel_rfl) ?_; (try go_wp2)
       go_roundg kj4
       case measure => have := ak.out; have := ax.out; omega
       case rel => exact ⟨(wrap64 (x5_1 + 1)), eK, H', ⟨by have := ak.out; have := ax.out; omega⟩, ⟨uB aa.out⟩, ⟨uB ac.out⟩, ⟨bH⟩⟩
      ·rw [if_neg ag] at H
       have aC : (ae == af) = false := beq_eq_false_iff_ne.mpr ag; have aD : (ae != af) = true := bne_iff_ne.mpr ag; obtain rfl := Option.some.inj H; (try go_wp2); replace aa := mk0 (blk_drew aa.out); replace ac := mk0 (blk_drew ac.out); replace HB := mk0 (below_drew1 HB.out); refine start_ (n := 7) (S := fun w' => w'.cell? ⟨ah, 0, none⟩ = some (.slice A0_0 l0_0.length c0_0) ∧ w'.cell? ⟨ah, 1, none⟩ = some (.int .i64 a0_1) ∧ w'.cell? ⟨ai, 0, none⟩ = some (.slice A1_0 l1_0.length c1_0) ∧ w'.cell? ⟨ai, 1, none⟩ = some (.int .i64 a1_1)) (ds := []) (bts 7 0) (by kernel_rfl) rfl rfl ⟨(blk_cell aa.out 0).trans rfl, (blk_cell aa.out 1).trans rfl, (blk_cell ac.out 0).trans rfl, (blk_cell ac.out 1).trans rfl⟩ (fun hHeld => ?_); generalize wc.drew = bc at aa ac HB hHeld ⊢; refine pure_ (i := 1) (N := some 21) (v := ?_) (a' := ?_) (bts 7 2) rfl rfl (by kernel_rfl) (fun _ _ _ h => h) (Or.inl ⟨by rfl, ?_⟩) ?_ ?_; rotate_left
       ·intro w'
        go_simp; (with_reducible rfl)
       rotate_left
       ·simp only [AP, i64_w, i32_w]
        rfl
       refine pure_ (i := 4) (N := some 24) (v := ?_) (a' := ?_) (bts 7 18) rfl rfl (by kernel_rfl) (fun _ _ _ h => h) (Or.inl ⟨by rfl, ?_⟩) ?_ ?_; rotate_left
       ·intro w'
        go_simp; (with_reducible rfl)
       rotate_left
       ·simp only [AP, i64_w, i32_w]
        rfl
       refine take_ (i := 0) (N := some 20) (v := ?_) (a' := ?_) (bts 7 19) rfl rfl (by kernel_rfl) (fun _ _ _ h => h) (Or.inl ⟨by rfl, ?_⟩) hHeld ?_ ?_; rotate_left
       ·rintro w' ⟨s0, s1, s2, s3⟩
        go_simp; (with_reducible rfl)
       rotate_left
       ·simp only [AP, i64_w, i32_w]
        rfl
       refine take_ (i := 3) (N := some 23) (v := ?_) (a' := ?_) (bts 7 27) rfl rfl (by kernel_rfl) (fun _ _ _ h => h) (Or.inl ⟨by rfl, ?_⟩) hHeld ?_ ?_; rotate_left
       ·rintro w' ⟨s0, s1, s2, s3⟩
        go_simp; (with_reducible rfl)
       rotate_left
       ·simp only [AP, i64_w, i32_w]
        rfl
       refine one_ (i := 2) (N := some 22) (bts 7 31) rfl rfl (by kernel_rfl) (by decide) (fun K hK => ?_); refine goes_ Tryd.func68 (by kernel_rfl) rfl #[.agg #[.slice A0_0 l0_0.length c0_0, .int .i64 a0_1], .int .i64 x5_1] (by rfl) rfl rfl (by (try simp only [List.map_toArray, List.map_cons, List.map_nil]); first | done | rfl | (simp only [List.length_drop, List.length_take]; rfl)) ?_; (with_reducible refine (furrowref14_coef.calls _ _ l0_0 a0_1 x5_1 ae _ ?side1 ?side2 ay.out).mono ?_); (case side1 => exact uC (Kd.C_below ar.out HB.out)); (case side2 => exact au.out); rintro e bd ⟨rfl, hb⟩; refine ⟨_, rfl, ?_⟩; replace aa := bB aa hb; replace ac := bB ac hb; replace HB := hbB bH hb; (try clear hb); refine hK.out _ _ ⟨(blk_cell aa.out 0).trans rfl, (blk_cell aa.out 1).trans rfl, (blk_cell ac.out 0).trans rfl, (blk_cell ac.out 1).trans rfl⟩ (fun hHeld => ?_); clear hK K; refine norm_ (a' := ?_) ?_ ?_; rotate_left
       ·show Act.put _ (some 22) _ = _
        simp only [AP, i64_w, i32_w]; rfl
       refine one_ (i := 5) (N := some 25) (bts 7 63) rfl rfl (by kernel_rfl) (by decide) (fun K hK => ?_); refine goes_ Tryd.func68 (by kernel_rfl) rfl #[.agg #[.slice A1_0 l1_0.length c1_0, .int .i64 a1_1], .int .i64 x5_1] (by rfl) rfl rfl (by (try simp only [List.map_toArray, List.map_cons, List.map_nil]); first | done | rfl | (simp only [List.length_drop, List.length_take]; rfl)) ?_; (with_reducible refine (furrowref14_coef.calls _ _ l1_0 a1_1 x5_1 af _ ?side1 ?side2 az.out).mono ?_); (case side1 => exact uC (Kd.C_below av.out HB.out)); (case side2 => exact aw.out); rintro e bf ⟨rfl, hb⟩; refine ⟨_, rfl, ?_⟩; replace aa := bB aa hb; replace ac := bB ac hb; replace HB := hbB bH hb; (try clear hb); refine hK.out _ _ ⟨(blk_cell aa.out 0).trans rfl, (blk_cell aa.out 1).trans rfl, (blk_cell ac.out 0).trans rfl, (blk_cell ac.out 1).trans rfl⟩ (fun hHeld => ?_); clear hK K; refine norm_ (a' := ?_) ?_ ?_; rotate_left
       ·show Act.put _ (some 25) _ = _
        simp only [AP, i64_w, i32_w]; rfl
       refine pure_ (i := 6) (N := some 26) (v := ?_) (a' := ?_) (bts 7 127) rfl rfl (by kernel_rfl) (fun _ _ _ h => h) (Or.inl ⟨by rfl, ?_⟩) ?_ ?_; rotate_left
       ·intro w'
        go_simp; (with_reducible rfl)
       rotate_left
       ·simp only [AP, i64_w, i32_w]
        rfl
       refine done_ (by kernel_rfl) ?_; (try go_wp2); go_ret; exact ⟨rE, bH⟩
     ·replace am := Bool.eq_false_iff.mpr am
      subst am; replace H := iF H; obtain rfl := Option.some.inj H; have bg := ao.out; have bh := ap.out; obtain ⟨bi, bj, bk, bl⟩ := cL2 aa; obtain ⟨bm, bn, bo, bp⟩ := cL2 ac; go_wp2; go_ret; exact ⟨rE, bH⟩


/-! ### furrowlaw15_sameForms: function 42 -/
def furrowlaw15_sameForms.l0 : Nat → List (S65) → List (S65) → Int → Option (Bool)
 | 0, _, _, _ => none
 | k + 1, x0, x1, x5 => if x5 < (x0.length : Int) then (if 0 ≤ x5 then (if x5 < (x1.length : Int) then (if (((rd_T65 x0 x5).f0).length : Int) = (((rd_T65 x1 x5).f0).length : Int) then ((furrowref14_Same.f k ((rd_T65 x0 x5).f0) ((rd_T65 x0 x5).f1) ((rd_T65 x1 x5).f0) ((rd_T65 x1 x5).f1)).bind fun t468 => (if t468 = true then (furrowlaw15_sameForms.l0 k x0 x1 (wrap64 (x5 + 1))) else (some false))) else (some false)) else (none)) else (none)) else (some true)
def furrowlaw15_sameForms.f (k : Nat) (l0 : List (S65)) (l1 : List (S65)) : Option (Bool) := if (l0.length : Int) = (l1.length : Int) then (furrowlaw15_sameForms.l0 k l0 l1 0) else (some false)
theorem furrowlaw15_sameForms.mono_l : ∀ k, (∀ y0 y1 y2, LeO (furrowlaw15_sameForms.l0 k y0 y1 y2) (furrowlaw15_sameForms.l0 (k + 1) y0 y1 y2))
 | 0 => fun _ _ _ r h => by simp [furrowlaw15_sameForms.l0] at h
 | k + 1 => by
  have ih0 := furrowlaw15_sameForms.mono_l k
  ·intro y0 y1 y2
   unfold furrowlaw15_sameForms.l0
   repeat' first
   | (with_reducible exact ih0 _ _ _)
   | (with_reducible exact furrowref14_Same.mono _ _ _ _ _)
   | (with_reducible exact LeO.refl _)
   | (with_reducible exact LeO.none _)
   | (with_reducible refine LeO.ite ?_ ?_)
   | (with_reducible refine LeO.bind ?_ (fun _ => ?_))
   | exact ih0 _ _ _
   | exact furrowref14_Same.mono _ _ _ _ _
   | exact LeO.none _
   | refine LeO.ite ?_ ?_
   | refine LeO.bind ?_ (fun _ => ?_)
theorem furrowlaw15_sameForms.mono : ∀ a0 a1 k, LeO (furrowlaw15_sameForms.f k a0 a1) (furrowlaw15_sameForms.f (k + 1) a0 a1) := by
 intro a0 a1 k
 have ih0 := furrowlaw15_sameForms.mono_l k
 unfold furrowlaw15_sameForms.f
 repeat' first
   | (with_reducible exact ih0 _ _ _)
   | (with_reducible exact furrowref14_Same.mono _ _ _ _ _)
   | (with_reducible exact LeO.refl _)
   | (with_reducible exact LeO.none _)
   | (with_reducible refine LeO.ite ?_ ?_)
   | (with_reducible refine LeO.bind ?_ (fun _ => ?_))
   | exact ih0 _ _ _
   | exact furrowref14_Same.mono _ _ _ _ _
   | exact LeO.none _
   | refine LeO.ite ?_ ?_
   | refine LeO.bind ?_ (fun _ => ?_)
def furrowlaw15_sameForms.T6 : Bool × List (List Nat × List Nat) := (true, [([], []), ([], []), ([0, 1], [0, 1]), ([2], [2]), ([3], [3]), ([4], [4]), ([], []), ([], []), ([6, 7], [6, 7]), ([8], [8]), ([9], [9]), ([10], [10]), ([5, 11], [5, 11]), ([12], [12]), ([13], [13]), ([13], [13]), ([14, 15, 13], [13, 14, 15]), ([16, 13], [13, 16]), ([13], [13]), ([13], [13]), ([18, 19, 13], [13, 18, 19]), ([20, 13], [13, 20]), ([17, 21, 13, 13], [13, 17, 21]), ([22, 13], [13, 22]), ([13, 23], [13, 23])])
def furrowlaw15_sameForms.B6 : List Nat := [0, 0, 3, 7, 15, 31, 0, 0, 192, 448, 960, 1984, 4095, 8191, 16383, 16383, 65535, 131071, 16383, 16383, 802815, 1851391, 4194303, 8388607, 16777215]
theorem furrowlaw15_sameForms.tab6 : rtab .any (opsOf Tryd.f42 6) = furrowlaw15_sameForms.T6 := by kernel_rfl
theorem furrowlaw15_sameForms.bits6 : waitsOk furrowlaw15_sameForms.T6.2 furrowlaw15_sameForms.B6 = true := by kernel_rfl
set_option maxHeartbeats 8000000 in
set_option maxRecDepth 100000 in
theorem furrowlaw15_sameForms.calls (k : Nat) (A0 : Option Addr) (c0 : Nat) (l0 : List (S65)) (A1 : Option Addr) (c1 : Nat) (l1 : List (S65)) (r : Bool) (w : World) (hr0 : Kd.C k65 w A0 l0.length l0) (hc0 : l0.length ≤ c0) (hr1 : Kd.C k65 w A1 l1.length l1) (hc1 : l1.length ≤ c1) (h : furrowlaw15_sameForms.f k l0 l1 = some r) :
  Calls Tryd.prog 42 #[.slice A0 l0.length c0, .slice A1 l1.length c1] w fun e w' => e = .returned (.bool r) ∧ Below w.heap.size w w' := by
 have hu65 := Tryd.underlying65
 have aH := mk0 hr0
 have bp := mk0 hc0
 clear hr0 hc0
 have aI := mk0 hr1
 have bq := mk0 hc1
 clear hr1 hc1
 have HB := mk0 (Below.refl w.heap.size w)
 have H : (if (l0.length : Int) = (l1.length : Int) then (furrowlaw15_sameForms.l0 k l0 l1 0) else (some false)) = some r := h
 clear h
 by_cases c3 : (l0.length : Int) = (l1.length : Int)
 ·rw [if_pos c3] at H
  have a_ : ((l0.length : Int) == (l1.length : Int)) = true := beq_iff_eq.mpr c3; have ba : ((l0.length : Int) != (l1.length : Int)) = false := bne_eq_false_iff_eq.mpr c3; (have bb : (l0.length == l1.length) = true := by first | simpa using c3 | (simp at c3 ⊢; omega)); clear c3; have H' := mk0 H; clear H; go_enter Tryd.func42, Tryd.ntmps42; go_wp2
  go_loopg [5] k (fun kq v5 w' => ∃ (x5_1 : Int), v5 = .int .i64 x5_1 ∧ Aside0 (furrowlaw15_sameForms.l0 kq l0 l1 x5_1 = some r) ∧ Aside0 (kq ≤ k) ∧ Aside0 (Below w.heap.size w w'))
  case atStart => exact ⟨(0), eK, H', ⟨Nat.le_refl _⟩, ⟨uL HB.out⟩⟩
  case round =>
   clear H'; (try clear c1 c3 a_ ba bb); obtain ⟨x5_1, rfl, HA, bc, HB⟩ := hrel
   cases gk with
   | zero => exact absurd HA.out (by simp [furrowlaw15_sameForms.l0])
   | succ k1 =>
    have H := HA.out; clear HA; simp only [furrowlaw15_sameForms.l0] at H
    by_cases c4 : x5_1 < (l0.length : Int)
    ·rw [if_pos c4] at H
     have bg := decide_eq_true c4; clear c4
     by_cases c5 : 0 ≤ x5_1
     ·rw [if_pos c5] at H
      have br := decide_eq_true c5; clear c5
      by_cases c6 : x5_1 < (l1.length : Int)
      ·rw [if_pos c6] at H
       have bs := decide_eq_true c6; clear c6
       by_cases c7 : (((rd_T65 l0 x5_1).f0).length : Int) = (((rd_T65 l1 x5_1).f0).length : Int)
       ·rw [if_pos c7] at H
        have bh : ((((rd_T65 l0 x5_1).f0).length : Int) == (((rd_T65 l1 x5_1).f0).length : Int)) = true := beq_iff_eq.mpr c7; have bi : ((((rd_T65 l0 x5_1).f0).length : Int) != (((rd_T65 l1 x5_1).f0).length : Int)) = false := bne_eq_false_iff_eq.mpr c7; (have bj : (((rd_T65 l0 x5_1).f0).length == ((rd_T65 l1 x5_1).f0).length) = true := by first | simpa using c7 | (simp at c7 ⊢; omega)); clear c7; obtain ⟨bk, A8, H⟩ := oB H
        by_cases c9 : bk = true
        ·subst c9
         replace H := iT H; have H' := mk0 H; clear H; (try go_wp2); replace HB := mk0 (below_drew1 HB.out); have ai : 0 ≤ (x5_1 : Int) := dY; have aj : x5_1 < (l0.length : Int) := dY; obtain ⟨aa, ap, aq, aJ, ae, ag, ax, ay⟩ := at_T65 aH.out x5_1 ai aj; have hw464_1 := ag; have hw464_0 := ae
         cases aJ
         replace ae := oC HB ae; replace ag := oC HB ag; have aK := mk0 ay; have bd := mk0 ax; clear ay ax; replace ai := eq_true ai; replace aj := eq_true aj; have ak : 0 ≤ (x5_1 : Int) := dY; have al : x5_1 < (l1.length : Int) := dY; obtain ⟨ac, ar, au, aM, af, ah, az, aA⟩ := at_T65 aI.out x5_1 ak al; have hw465_1 := ah; have hw465_0 := af
         cases aM
         replace af := oC HB af; replace ah := oC HB ah; have aN := mk0 aA; have bf := mk0 az; clear aA az; replace ak := eq_true ak; replace al := eq_true al; have aC : 0 ≤ (x5_1 : Int) := dY; have aD : x5_1 < (l0.length : Int) := dY; obtain ⟨aY, bl, bm, aZ, am, av, aQ, aT⟩ := at_T65 aH.out x5_1 aC aD; have hw466_1 := av; have hw466_0 := am; obtain rfl : aa = aY := (by injection aZ); replace am := oC HB am; replace av := oC HB av; have aU := mk0 aT; have a6 := mk0 aQ; clear aT aQ; replace aC := eq_true aC; replace aD := eq_true aD; have ea_ := Option.some.inj (ae.symm.trans am); injection ea_ with ea_ en_ ec_; subst ea_; subst ec_; clear en_; have aE : 0 ≤ (x5_1 : Int) := dY; have aG : x5_1 < (l1.length : Int) := dY; obtain ⟨a7, bn, bo, a8, ao, aw, aV, aW⟩ := at_T65 aI.out x5_1 aE aG; have hw467_1 := aw; have hw467_0 := ao; obtain rfl : ac = a7 := (by injection a8); replace ao := oC HB ao; replace aw := oC HB aw; have aX := mk0 aW; have a9 := mk0 aV; clear aW aV; replace aE := eq_true aE; replace aG := eq_true aG; have ea_ := Option.some.inj (af.symm.trans ao); injection ea_ with ea_ en_ ec_; subst ea_; subst ec_; clear en_; refine start_ (n := 25) (S := fun w' => w'.cell? (aa.add ((x5_1).toNat * 2)) = some (.slice ap ((rd_T65 l0 x5_1).f0).length aq) ∧ w'.cell? ⟨(aa.add ((x5_1).toNat * 2)).block, (aa.add ((x5_1).toNat * 2)).off + 1, none⟩ = some (.int .i64 ((rd_T65 l0 x5_1).f1)) ∧ w'.cell? (ac.add ((x5_1).toNat * 2)) = some (.slice ar ((rd_T65 l1 x5_1).f0).length au) ∧ w'.cell? ⟨(ac.add ((x5_1).toNat * 2)).block, (ac.add ((x5_1).toNat * 2)).off + 1, none⟩ = some (.int .i64 ((rd_T65 l1 x5_1).f1)) ∧ w'.cell? (aa.add ((x5_1).toNat * 2)) = some (.slice ap ((rd_T65 l0 x5_1).f0).length aq) ∧ w'.cell? ⟨(aa.add ((x5_1).toNat * 2)).block, (aa.add ((x5_1).toNat * 2)).off + 1, none⟩ = some (.int .i64 ((rd_T65 l0 x5_1).f1)) ∧ w'.cell? (ac.add ((x5_1).toNat * 2)) = some (.slice ar ((rd_T65 l1 x5_1).f0).length au) ∧ w'.cell? ⟨(ac.add ((x5_1).toNat * 2)).block, (ac.add ((x5_1).toNat * 2)).off + 1, none⟩ = some (.int .i64 ((rd_T65 l1 x5_1).f1))) (ds := []) (bts 25 0) (by kernel_rfl) rfl rfl ⟨((HB.out.cell (World.block_lt_of_cell? w _ hw464_0)).trans hw464_0), ((HB.out.cell (World.block_lt_of_cell? w _ hw464_1)).trans hw464_1), ((HB.out.cell (World.block_lt_of_cell? w _ hw465_0)).trans hw465_0), ((HB.out.cell (World.block_lt_of_cell? w _ hw465_1)).trans hw465_1), ((HB.out.cell (World.block_lt_of_cell? w _ hw466_0)).trans hw466_0), ((HB.out.cell (World.block_lt_of_cell? w _ hw466_1)).trans hw466_1), ((HB.out.cell (World.block_lt_of_cell? w _ hw467_0)).trans hw467_0), ((HB.out.cell (World.block_lt_of_cell? w _ hw467_1)).trans hw467_1)⟩ (fun hHeld => ?_); refine with_tabW furrowlaw15_sameForms.tab6 furrowlaw15_sameForms.bits6 (fun HT_ HW_ => ?_); generalize wr.drew = bu at HB aK aN aU aX ae ag af ah am av ao aw hHeld ⊢; refine qA 0 1 ?_; refine qA 1 3 ?_; refine qA 2 7 ?_; refine qA 3 15 ?_; refine qA 6 79 ?_; refine qA 7 207 ?_; refine qA 8 463 ?_; refine qA 9 975 ?_; refine qT8 4 991 ?_; refine qA 5 1023 ?_; refine qT8 10 2047 ?_; refine qA 11 4095 ?_; refine qA 12 8191 ?_; refine qA 13 16383 ?_; refine qA 14 32767 ?_; refine qA 15 65535 ?_; refine qA 16 131071 ?_; refine qA 18 393215 ?_; refine qA 19 917503 ?_; refine qA 20 1966079 ?_; refine qT8 17 2097151 ?_; refine qT8 21 4194303 ?_; refine one_ (i := 22) (N := some 39) (bts 25 8388607) rfl rfl (one_of HT_.out (by kernel_rfl)) (by decide) (fun K hK => ?_); refine goes_ Tryd.func62 (by kernel_rfl) rfl #[.agg #[.slice ap ((rd_T65 l0 x5_1).f0).length aq, .int .i64 ((rd_T65 l0 x5_1).f1)], .agg #[.slice ar ((rd_T65 l1 x5_1).f0).length au, .int .i64 ((rd_T65 l1 x5_1).f1)]] (by rfl) rfl rfl (by (try simp only [List.map_toArray, List.map_cons, List.map_nil]); first | done | rfl | (simp only [List.length_drop, List.length_take]; rfl)) ?_; (with_reducible refine (furrowref14_Same.calls k1 _ _ ((rd_T65 l0 x5_1).f0) ((rd_T65 l0 x5_1).f1) _ _ ((rd_T65 l1 x5_1).f0) ((rd_T65 l1 x5_1).f1) true _ ?side1 ?side2 ?side3 ?side4 A8.out).mono ?_); (case side1 => exact uC (Kd.C_below aU.out HB.out)); (case side2 => exact a6.out); (case side3 => exact uC (Kd.C_below aX.out HB.out)); (case side4 => exact a9.out); rintro e bv ⟨rfl, hb⟩; refine ⟨_, rfl, ?_⟩; replace HB := hbB (uL HB.out) hb; (try clear hb); refine hK.out _ _ ⟨((HB.out.cell (World.block_lt_of_cell? w _ hw464_0)).trans hw464_0), ((HB.out.cell (World.block_lt_of_cell? w _ hw464_1)).trans hw464_1), ((HB.out.cell (World.block_lt_of_cell? w _ hw465_0)).trans hw465_0), ((HB.out.cell (World.block_lt_of_cell? w _ hw465_1)).trans hw465_1), ((HB.out.cell (World.block_lt_of_cell? w _ hw466_0)).trans hw466_0), ((HB.out.cell (World.block_lt_of_cell? w _ hw466_1)).trans hw466_1), ((HB.out.cell (World.block_lt_of_cell? w _ hw467_0)).trans hw467_0), ((HB.out.cell (World.block_lt_of_cell? w _ hw467_1)).trans hw467_1)⟩ (fun hHeld => ?_)
         clear hK K; refine norm_ (a' := ?_) ?_ ?_; rotate_left
         ·show Act.put _ (some 39) _ = _
          simp only [AP, i64_w, i32_w]; rfl
         refine qA 23 16777215 ?_; refine qA 24 33554431 ?_; refine done_ (done_of HT_.out (by kernel_rfl)) ?_; (try go_wp2)
         go_roundg k1
         case measure => have := bc.out; omega
         case rel => exact ⟨(wrap64 (x5_1 + 1)), eK, H', ⟨by have := bc.out; omega⟩, ⟨uL HB.out⟩⟩
        ·replace c9 := Bool.eq_false_iff.mpr c9
         subst c9; replace H := iF H; obtain rfl := Option.some.inj H; (try go_wp2); replace HB := mk0 (below_drew1 HB.out); have ai : 0 ≤ (x5_1 : Int) := dY; have aj : x5_1 < (l0.length : Int) := dY; obtain ⟨aa, ap, aq, aJ, ae, ag, ax, ay⟩ := at_T65 aH.out x5_1 ai aj; have hw464_1 := ag; have hw464_0 := ae
         cases aJ
         replace ae := oC HB ae; replace ag := oC HB ag; have aK := mk0 ay; have bd := mk0 ax; clear ay ax; replace ai := eq_true ai; replace aj := eq_true aj; have ak : 0 ≤ (x5_1 : Int) := dY; have al : x5_1 < (l1.length : Int) := dY; obtain ⟨ac, ar, au, aM, af, ah, az, aA⟩ := at_T65 aI.out x5_1 ak al; have hw465_1 := ah; have hw465_0 := af
         cases aM
         replace af := oC HB af; replace ah := oC HB ah; have aN := mk0 aA; have bf := mk0 az; clear aA az; replace ak := eq_true ak; replace al := eq_true al; have aC : 0 ≤ (x5_1 : Int) := dY; have aD : x5_1 < (l0.length : Int) := dY; obtain ⟨aY, bl, bm, aZ, am, av, aQ, aT⟩ := at_T65 aH.out x5_1 aC aD; have hw466_1 := av; have hw466_0 := am; obtain rfl : aa = aY := (by injection aZ); replace am := oC HB am; replace av := oC HB av; have aU := mk0 aT; have a6 := mk0 aQ; clear aT aQ; replace aC := eq_true aC; replace aD := eq_true aD; have ea_ := Option.some.inj (ae.symm.trans am); injection ea_ with ea_ en_ ec_; subst ea_; subst ec_; clear en_; have aE : 0 ≤ (x5_1 : Int) := dY; have aG : x5_1 < (l1.length : Int) := dY; obtain ⟨a7, bn, bo, a8, ao, aw, aV, aW⟩ := at_T65 aI.out x5_1 aE aG; have hw467_1 := aw; have hw467_0 := ao; obtain rfl : ac = a7 := (by injection a8); replace ao := oC HB ao; replace aw := oC HB aw; have aX := mk0 aW; have a9 := mk0 aV; clear aW aV; replace aE := eq_true aE; replace aG := eq_true aG; have ea_ := Option.some.inj (af.symm.trans ao); injection ea_ with ea_ en_ ec_; subst ea_; subst ec_; clear en_; refine start_ (n := 25) (S := fun w' => w'.cell? (aa.add ((x5_1).toNat * 2)) = some (.slice ap ((rd_T65 l0 x5_1).f0).length aq) ∧ w'.cell? ⟨(aa.add ((x5_1).toNat * 2)).block, (aa.add ((x5_1).toNat * 2)).off + 1, none⟩ = some (.int .i64 ((rd_T65 l0 x5_1).f1)) ∧ w'.cell? (ac.add ((x5_1).toNat * 2)) = some (.slice ar ((rd_T65 l1 x5_1).f0).length au) ∧ w'.cell? ⟨(ac.add ((x5_1).toNat * 2)).block, (ac.add ((x5_1).toNat * 2)).off + 1, none⟩ = some (.int .i64 ((rd_T65 l1 x5_1).f1)) ∧ w'.cell? (aa.add ((x5_1).toNat * 2)) = some (.slice ap ((rd_T65 l0 x5_1).f0).length aq) ∧ w'.cell? ⟨(aa.add ((x5_1).toNat * 2)).block, (aa.add ((x5_1).toNat * 2)).off + 1, none⟩ = some (.int .i64 ((rd_T65 l0 x5_1).f1)) ∧ w'.cell? (ac.add ((x5_1).toNat * 2)) = some (.slice ar ((rd_T65 l1 x5_1).f0).length au) ∧ w'.cell? ⟨(ac.add ((x5_1).toNat * 2)).block, (ac.add ((x5_1).toNat * 2)).off + 1, none⟩ = some (.int .i64 ((rd_T65 l1 x5_1).f1))) (ds := []) (bts 25 0) (by kernel_rfl) rfl rfl ⟨((HB.out.cell (World.block_lt_of_cell? w _ hw464_0)).trans hw464_0), ((HB.out.cell (World.block_lt_of_cell? w _ hw464_1)).trans hw464_1), ((HB.out.cell (World.block_lt_of_cell? w _ hw465_0)).trans hw465_0), ((HB.out.cell (World.block_lt_of_cell? w _ hw465_1)).trans hw465_1), ((HB.out.cell (World.block_lt_of_cell? w _ hw466_0)).trans hw466_0), ((HB.out.cell (World.block_lt_of_cell? w _ hw466_1)).trans hw466_1), ((HB.out.cell (World.block_lt_of_cell? w _ hw467_0)).trans hw467_0), ((HB.out.cell (World.block_lt_of_cell? w _ hw467_1)).trans hw467_1)⟩ (fun hHeld => ?_); refine with_tabW furrowlaw15_sameForms.tab6 furrowlaw15_sameForms.bits6 (fun HT_ HW_ => ?_); generalize wr.drew = bw at HB aK aN aU aX ae ag af ah am av ao aw hHeld ⊢; refine qA 0 1 ?_; refine qA 1 3 ?_; refine qA 2 7 ?_; refine qA 3 15 ?_; refine qA 6 79 ?_; refine qA 7 207 ?_; refine qA 8 463 ?_; refine qA 9 975 ?_; refine qT8 4 991 ?_; refine qA 5 1023 ?_; refine qT8 10 2047 ?_; refine qA 11 4095 ?_; refine qA 12 8191 ?_; refine qA 13 16383 ?_; refine qA 14 32767 ?_; refine qA 15 65535 ?_; refine qA 16 131071 ?_; refine qA 18 393215 ?_; refine qA 19 917503 ?_; refine qA 20 1966079 ?_; refine qT8 17 2097151 ?_; refine qT8 21 4194303 ?_; refine one_ (i := 22) (N := some 39) (bts 25 8388607) rfl rfl (one_of HT_.out (by kernel_rfl)) (by decide) (fun K hK => ?_); refine goes_ Tryd.func62 (by kernel_rfl) rfl #[.agg #[.slice ap ((rd_T65 l0 x5_1).f0).length aq, .int .i64 ((rd_T65 l0 x5_1).f1)], .agg #[.slice ar ((rd_T65 l1 x5_1).f0).length au, .int .i64 ((rd_T65 l1 x5_1).f1)]] (by rfl) rfl rfl (by (try simp only [List.map_toArray, List.map_cons, List.map_nil]); first | done | rfl | (simp only [List.length_drop, List.length_take]; rfl)) ?_; (with_reducible refine (furrowref14_Same.calls k1 _ _ ((rd_T65 l0 x5_1).f0) ((rd_T65 l0 x5_1).f1) _ _ ((rd_T65 l1 x5_1).f0) ((rd_T65 l1 x5_1).f1) false _ ?side1 ?side2 ?side3 ?side4 A8.out).mono ?_); (case side1 => exact uC (Kd.C_below aU.out HB.out)); (case side2 => exact a6.out); (case side3 => exact uC (Kd.C_below aX.out HB.out)); (case side4 => exact a9.out); rintro e bx ⟨rfl, hb⟩; refine ⟨_, rfl, ?_⟩; replace HB := hbB (uL HB.out) hb; (try clear hb); refine hK.out _ _ ⟨((HB.out.cell (World.block_lt_of_cell? w _ hw464_0)).trans hw464_0), ((HB.out.cell (World.block_lt_of_cell? w _ hw464_1)).trans hw464_1), ((HB.out.cell (World.block_lt_of_cell? w _ hw465_0)).trans hw465_0), ((HB.out.cell (World.block_lt_of_cell? w _ hw465_1)).trans hw465_1), ((HB.out.cell (World.block_lt_of_cell? w _ hw466_0)).trans hw466_0), ((HB.out.cell (World.block_lt_of_cell? w _ hw466_1)).trans hw466_1), ((HB.out.cell (World.block_lt_of_cell? w _ hw467_0)).trans hw467_0), ((HB.out.cell (World.block_lt_of_cell? w _ hw467_1)).trans hw467_1)⟩ (fun hHeld => ?_)
         clear hK K; refine norm_ (a' := ?_) ?_ ?_; rotate_left
         ·show Act.put _ (some 39) _ = _
          simp only [AP, i64_w, i32_w]; rfl
         refine qA 23 16777215 ?_; refine qA 24 33554431 ?_; refine done_ (done_of HT_.out (by kernel_rfl)) ?_; (try go_wp2); go_ret; exact ⟨rE, uL HB.out⟩
       ·rw [if_neg c7] at H
        have bh : ((((rd_T65 l0 x5_1).f0).length : Int) == (((rd_T65 l1 x5_1).f0).length : Int)) = false := beq_eq_false_iff_ne.mpr c7; have bi : ((((rd_T65 l0 x5_1).f0).length : Int) != (((rd_T65 l1 x5_1).f0).length : Int)) = true := bne_iff_ne.mpr c7; (have bj : (((rd_T65 l0 x5_1).f0).length == ((rd_T65 l1 x5_1).f0).length) = false := by first | simpa using c7 | (simp at c7 ⊢; omega)); obtain rfl := Option.some.inj H; (try go_wp2); replace HB := mk0 (below_drew1 HB.out); have ai : 0 ≤ (x5_1 : Int) := dY; have aj : x5_1 < (l0.length : Int) := dY; obtain ⟨aa, ap, aq, aJ, ae, ag, ax, ay⟩ := at_T65 aH.out x5_1 ai aj; have hw464_1 := ag; have hw464_0 := ae
        cases aJ
        replace ae := oC HB ae; replace ag := oC HB ag; have aK := mk0 ay; have bd := mk0 ax; clear ay ax; replace ai := eq_true ai; replace aj := eq_true aj; have ak : 0 ≤ (x5_1 : Int) := dY; have al : x5_1 < (l1.length : Int) := dY; obtain ⟨ac, ar, au, aM, af, ah, az, aA⟩ := at_T65 aI.out x5_1 ak al; have hw465_1 := ah; have hw465_0 := af
        cases aM
        replace af := oC HB af; replace ah := oC HB ah; have aN := mk0 aA; have bf := mk0 az; clear aA az; replace ak := eq_true ak; replace al := eq_true al; refine start_ (n := 25) (S := fun w' => w'.cell? (aa.add ((x5_1).toNat * 2)) = some (.slice ap ((rd_T65 l0 x5_1).f0).length aq) ∧ w'.cell? ⟨(aa.add ((x5_1).toNat * 2)).block, (aa.add ((x5_1).toNat * 2)).off + 1, none⟩ = some (.int .i64 ((rd_T65 l0 x5_1).f1)) ∧ w'.cell? (ac.add ((x5_1).toNat * 2)) = some (.slice ar ((rd_T65 l1 x5_1).f0).length au) ∧ w'.cell? ⟨(ac.add ((x5_1).toNat * 2)).block, (ac.add ((x5_1).toNat * 2)).off + 1, none⟩ = some (.int .i64 ((rd_T65 l1 x5_1).f1))) (ds := []) (bts 25 0) (by kernel_rfl) rfl rfl ⟨((HB.out.cell (World.block_lt_of_cell? w _ hw464_0)).trans hw464_0), ((HB.out.cell (World.block_lt_of_cell? w _ hw464_1)).trans hw464_1), ((HB.out.cell (World.block_lt_of_cell? w _ hw465_0)).trans hw465_0), ((HB.out.cell (World.block_lt_of_cell? w _ hw465_1)).trans hw465_1)⟩ (fun hHeld => ?_); refine with_tabW furrowlaw15_sameForms.tab6 furrowlaw15_sameForms.bits6 (fun HT_ HW_ => ?_); generalize wr.drew = bz at HB aK aN ae ag af ah hHeld ⊢; refine qA 0 1 ?_; refine qA 1 3 ?_; refine qA 2 7 ?_; refine qA 3 15 ?_; refine qA 6 79 ?_; refine qA 7 207 ?_; refine qA 8 463 ?_; refine qA 9 975 ?_; refine qT4 4 991 ?_; refine qA 5 1023 ?_; refine qT4 10 2047 ?_; refine qA 11 4095 ?_; refine qA 12 8191 ?_; refine qA 13 16383 ?_; refine qU 14 32767 ?_; refine qU 15 65535 ?_; refine qU 16 131071 ?_; refine qU 17 262143 ?_; refine qU 18 524287 ?_; refine qU 19 1048575 ?_; refine qU 20 2097151 ?_; refine qU 21 4194303 ?_; refine qU 22 8388607 ?_; refine qU 23 16777215 ?_; refine qA 24 33554431 ?_; refine done_ (done_of HT_.out (by kernel_rfl)) ?_; (try go_wp2); go_ret; exact ⟨rE, uL HB.out⟩
      ·exact nO H c6
     ·exact nO H c5
    ·rw [if_neg c4] at H
     have bg := decide_eq_false c4; clear c4; obtain rfl := Option.some.inj H; go_wp2; go_ret; exact ⟨rE, uL HB.out⟩
 ·rw [if_neg c3] at H
  have a_ : ((l0.length : Int) == (l1.length : Int)) = false := beq_eq_false_iff_ne.mpr c3; have ba : ((l0.length : Int) != (l1.length : Int)) = true := bne_iff_ne.mpr c3; (have bb : (l0.length == l1.length) = false := by first | simpa using c3 | (simp at c3 ⊢; omega)); obtain rfl := Option.some.inj H; go_enter Tryd.func42, Tryd.ntmps42; go_wp2; go_ret; exact ⟨rE, uL HB.out⟩


/-! ### furrowlaw15_Same: function 16 -/
def furrowlaw15_Same.f (k : Nat) (a0_0 : Int) (l0_1 : List (S65)) (l0_2 : List (S65)) (a1_0 : Int) (l1_1 : List (S65)) (l1_2 : List (S65)) : Option (Bool) := if a0_0 = a1_0 then ((furrowlaw15_sameForms.f k l0_1 l1_1).bind fun t471 => (if t471 = true then ((furrowlaw15_sameForms.f k l0_2 l1_2).bind fun t472 => (some t472)) else (some false))) else (some false)
theorem furrowlaw15_Same.mono : ∀ a0 a1 a2 a3 a4 a5 k, LeO (furrowlaw15_Same.f k a0 a1 a2 a3 a4 a5) (furrowlaw15_Same.f (k + 1) a0 a1 a2 a3 a4 a5) := by
 intro a0 a1 a2 a3 a4 a5 k
 have m0_ := @furrowlaw15_sameForms.mono; unfold furrowlaw15_Same.f; exact lO_
set_option maxHeartbeats 8000000 in
set_option maxRecDepth 100000 in
theorem furrowlaw15_Same.calls (k : Nat) (a0_0 : Int) (A0_1 : Option Addr) (c0_1 : Nat) (l0_1 : List (S65)) (A0_2 : Option Addr) (c0_2 : Nat) (l0_2 : List (S65)) (a1_0 : Int) (A1_1 : Option Addr) (c1_1 : Nat) (l1_1 : List (S65)) (A1_2 : Option Addr) (c1_2 : Nat) (l1_2 : List (S65)) (r : Bool) (w : World) (hr0_1 : Kd.C k65 w A0_1 l0_1.length l0_1) (hc0_1 : l0_1.length ≤ c0_1) (hr0_2 : Kd.C k65 w A0_2 l0_2.length l0_2) (hc0_2 : l0_2.length ≤ c0_2) (hr1_1 : Kd.C k65 w A1_1 l1_1.length l1_1) (hc1_1 : l1_1.length ≤ c1_1) (hr1_2 : Kd.C k65 w A1_2 l1_2.length l1_2) (hc1_2 : l1_2.length ≤ c1_2) (h : furrowlaw15_Same.f k a0_0 l0_1 l0_2 a1_0 l1_1 l1_2 = some r) :
  Calls Tryd.prog 16 #[.agg #[.int .i64 a0_0, .slice A0_1 l0_1.length c0_1, .slice A0_2 l0_2.length c0_2], .agg #[.int .i64 a1_0, .slice A1_1 l1_1.length c1_1, .slice A1_2 l1_2.length c1_2]] w fun e w' => e = .returned (.bool r) ∧ Below w.heap.size w w' := by
 have hu34 := Tryd.underlying34
 have ai := mk0 hr0_1
 have aj := mk0 hc0_1
 clear hr0_1 hc0_1
 have av := mk0 hr0_2
 have aw := mk0 hc0_2
 clear hr0_2 hc0_2
 have ak := mk0 hr1_1
 have al := mk0 hc1_1
 clear hr1_1 hc1_1
 have ax := mk0 hr1_2
 have ay := mk0 hc1_2
 clear hr1_2 hc1_2
 have HB := mk0 (Below.refl w.heap.size w)
 have H : (if a0_0 = a1_0 then ((furrowlaw15_sameForms.f k l0_1 l1_1).bind fun ag => (if ag = true then ((furrowlaw15_sameForms.f k l0_2 l1_2).bind fun ah => (some ah)) else (some false))) else (some false)) = some r := h
 clear h
 by_cases c3 : a0_0 = a1_0
 ·rw [if_pos c3] at H
  have az : (a0_0 == a1_0) = true := beq_iff_eq.mpr c3; have aA : (a0_0 != a1_0) = false := bne_eq_false_iff_eq.mpr c3; clear c3; obtain ⟨ag, A4, H⟩ := oB H
  by_cases c5 : ag = true
  ·subst c5
   replace H := iT H; obtain ⟨ah, A6, H⟩ := oB H; obtain rfl := Option.some.inj H; go_enter Tryd.func16, Tryd.ntmps16
   go_wp2_with (first | ((with_reducible refine gate_dst (N := 2) rfl ?_); refine bxE 2 #[.int .i64 a0_0, .slice A0_1 l0_1.length c0_1, .slice A0_2 l0_2.length c0_2] 34 ?_; intro am hg w7 hbox hb; have aa := mk0 (hbox); have ao := gE (uL HB.out) hg; have ap := gE (uL HB.out) hg; replace HB := hbB (uL HB.out) hb; clear hb hbox hg) | ((with_reducible refine gate_dst (N := 3) rfl ?_); refine bxE 3 #[.int .i64 a1_0, .slice A1_1 l1_1.length c1_1, .slice A1_2 l1_2.length c1_2] 34 ?_; intro aq hg w8 hbox hb; have ac := mk0 (hbox); have ar := gE bH hg; have au := gE bH hg; replace HB := hbB bH hb; have ae := nL aa hg; have af := nG aa hg; replace aa := bB aa hb; clear hb hbox hg; have aC := ae.out; have aD := af.out; obtain ⟨aE, aG, aH, aI, aJ, aK⟩ := cL3 aa; obtain ⟨aM, aN, aQ, aT, aU, aV⟩ := cL3 ac) | (go_at_call 42; (with_reducible refine (furrowlaw15_sameForms.calls k _ _ l0_1 _ _ l1_1 true _ ?side1 ?side2 ?side3 ?side4 A4.out).mono ?_); (case side1 => exact uC (Kd.C_below ai.out HB.out)); (case side2 => exact aj.out); (case side3 => exact uC (Kd.C_below ak.out HB.out)); (case side4 => exact al.out); rintro e aW ⟨rfl, hb⟩; replace aa := bB aa hb; replace ac := bB ac hb; replace HB := hbB bH hb; (try clear hb); obtain ⟨aX, aY, aZ, a6, a7, a8⟩ := cL3 aa; obtain ⟨a9, a_, ba, bb, bc, bd⟩ := cL3 ac) | (go_at_call 42; (with_reducible refine (furrowlaw15_sameForms.calls k _ _ l0_2 _ _ l1_2 ah _ ?side1 ?side2 ?side3 ?side4 A6.out).mono ?_); (case side1 => exact uC (Kd.C_below av.out HB.out)); (case side2 => exact aw.out); (case side3 => exact uC (Kd.C_below ax.out HB.out)); (case side4 => exact ay.out); rintro e bf ⟨rfl, hb⟩; replace HB := hbB bH hb; (try clear hb); ))
   go_ret; exact ⟨rE, bH⟩
  ·replace c5 := Bool.eq_false_iff.mpr c5
   subst c5; replace H := iF H; obtain rfl := Option.some.inj H; go_enter Tryd.func16, Tryd.ntmps16
   go_wp2_with (first | ((with_reducible refine gate_dst (N := 2) rfl ?_); refine bxE 2 #[.int .i64 a0_0, .slice A0_1 l0_1.length c0_1, .slice A0_2 l0_2.length c0_2] 34 ?_; intro am hg bg hbox hb; have aa := mk0 (hbox); have ao := gE (uL HB.out) hg; have ap := gE (uL HB.out) hg; replace HB := hbB (uL HB.out) hb; clear hb hbox hg) | ((with_reducible refine gate_dst (N := 3) rfl ?_); refine bxE 3 #[.int .i64 a1_0, .slice A1_1 l1_1.length c1_1, .slice A1_2 l1_2.length c1_2] 34 ?_; intro aq hg bh hbox hb; have ac := mk0 (hbox); have ar := gE bH hg; have au := gE bH hg; replace HB := hbB bH hb; have ae := nL aa hg; have af := nG aa hg; replace aa := bB aa hb; clear hb hbox hg; have bi := ae.out; have bj := af.out; obtain ⟨bk, bl, bm, bn, bo, bp⟩ := cL3 aa; obtain ⟨bq, br, bs, bu, bv, bw⟩ := cL3 ac) | (go_at_call 42; (with_reducible refine (furrowlaw15_sameForms.calls k _ _ l0_1 _ _ l1_1 false _ ?side1 ?side2 ?side3 ?side4 A4.out).mono ?_); (case side1 => exact uC (Kd.C_below ai.out HB.out)); (case side2 => exact aj.out); (case side3 => exact uC (Kd.C_below ak.out HB.out)); (case side4 => exact al.out); rintro e bx ⟨rfl, hb⟩; replace HB := hbB bH hb; (try clear hb); ))
   go_ret; exact ⟨rE, bH⟩
 ·rw [if_neg c3] at H
  have az : (a0_0 == a1_0) = false := beq_eq_false_iff_ne.mpr c3; have aA : (a0_0 != a1_0) = true := bne_iff_ne.mpr c3; obtain rfl := Option.some.inj H; go_enter Tryd.func16, Tryd.ntmps16
  go_wp2_with (first | ((with_reducible refine gate_dst (N := 2) rfl ?_); refine bxE 2 #[.int .i64 a0_0, .slice A0_1 l0_1.length c0_1, .slice A0_2 l0_2.length c0_2] 34 ?_; intro am hg bz hbox hb; have aa := mk0 (hbox); have ao := gE (uL HB.out) hg; have ap := gE (uL HB.out) hg; replace HB := hbB (uL HB.out) hb; clear hb hbox hg) | ((with_reducible refine gate_dst (N := 3) rfl ?_); refine bxE 3 #[.int .i64 a1_0, .slice A1_1 l1_1.length c1_1, .slice A1_2 l1_2.length c1_2] 34 ?_; intro aq hg bC hbox hb; have ac := mk0 (hbox); have ar := gE bH hg; have au := gE bH hg; replace HB := hbB bH hb; have ae := nL aa hg; have af := nG aa hg; replace aa := bB aa hb; clear hb hbox hg; have bE := ae.out; have bF := af.out; obtain ⟨bG, bI, bJ, bK, bL, bM⟩ := cL3 aa; obtain ⟨bO, bP, bQ, bR, bT, bU⟩ := cL3 ac))
  go_ret; exact ⟨rE, bH⟩

/-! ### furrowref20_value: function 47 -/
def furrowref20_value.l0 : Nat → List Int → Int → Int → List Int → Int → Option (Int)
 | 0, _, _, _, _, _ => none
 | k + 1, x1, x5, x6, x474000, x474001 => if x6 < (x1.length : Int) then (if x6 < (x474000.length : Int) then (if 0 ≤ x6 then (furrowref20_value.l0 k x1 (wrap64 (x5 + (wrap64 ((rd x474000 x6) * (rd x1 x6))))) (wrap64 (x6 + 1)) x474000 x474001) else (none)) else (some x5)) else (some x5)
def furrowref20_value.f (k : Nat) (l0_0 : List Int) (a0_1 : Int) (l1 : List Int) : Option (Int) := furrowref20_value.l0 k l1 a0_1 0 l0_0 a0_1
theorem furrowref20_value.mono_l : ∀ k, (∀ y0 y1 y2 y3 y4, LeO (furrowref20_value.l0 k y0 y1 y2 y3 y4) (furrowref20_value.l0 (k + 1) y0 y1 y2 y3 y4))
 | 0 => fun _ _ _ _ _ r h => by simp [furrowref20_value.l0] at h
 | k + 1 => by
  have ih0 := furrowref20_value.mono_l k
  ·intro y0 y1 y2 y3 y4
   unfold furrowref20_value.l0
   repeat' first
   | (with_reducible exact ih0 _ _ _ _ _)
   | (with_reducible exact LeO.refl _)
   | (with_reducible exact LeO.none _)
   | (with_reducible refine LeO.ite ?_ ?_)
   | (with_reducible refine LeO.bind ?_ (fun _ => ?_))
   | exact ih0 _ _ _ _ _
   | exact LeO.none _
   | refine LeO.ite ?_ ?_
   | refine LeO.bind ?_ (fun _ => ?_)
theorem furrowref20_value.mono : ∀ a0 a1 a2 k, LeO (furrowref20_value.f k a0 a1 a2) (furrowref20_value.f (k + 1) a0 a1 a2) := by
 intro a0 a1 a2 k
 have ih0 := furrowref20_value.mono_l k
 unfold furrowref20_value.f
 repeat' first
   | (with_reducible exact ih0 _ _ _ _ _)
   | (with_reducible exact LeO.refl _)
   | (with_reducible exact LeO.none _)
   | (with_reducible refine LeO.ite ?_ ?_)
   | (with_reducible refine LeO.bind ?_ (fun _ => ?_))
   | exact ih0 _ _ _ _ _
   | exact LeO.none _
   | refine LeO.ite ?_ ?_
   | refine LeO.bind ?_ (fun _ => ?_)
set_option maxHeartbeats 8000000 in
set_option maxRecDepth 100000 in
theorem furrowref20_value.calls (k : Nat) (A0_0 : Option Addr) (c0_0 : Nat) (l0_0 : List Int) (a0_1 : Int) (A1 : Option Addr) (c1 : Nat) (l1 : List Int) (r : Int) (w : World) (hr0_0 : Kd.C (Kd.int .i64) w A0_0 l0_0.length l0_0) (hc0_0 : l0_0.length ≤ c0_0) (hr1 : Kd.C (Kd.int .i64) w A1 l1.length l1) (hc1 : l1.length ≤ c1) (h : furrowref20_value.f k l0_0 a0_1 l1 = some r) :
  Calls Tryd.prog 47 #[.agg #[.slice A0_0 l0_0.length c0_0, .int .i64 a0_1], .slice A1 l1.length c1] w fun e w' => e = .returned (.int .i64 r) ∧ Below w.heap.size w w' := by
 have hu65 := Tryd.underlying65
 have au := mk0 hr0_0
 have aA := mk0 hc0_0
 clear hr0_0 hc0_0
 have av := mk0 hr1
 have aC := mk0 hc1
 clear hr1 hc1
 have HB := mk0 (Below.refl w.heap.size w)
 have H : (furrowref20_value.l0 k l1 a0_1 0 l0_0 a0_1) = some r := h
 clear h
 have H' := mk0 H
 clear H
 go_enter Tryd.func47, Tryd.ntmps47
 go_wp2_with (first | ((with_reducible refine gate_dst (N := 2) rfl ?_); (try (refine gate_guard (by rfl) ?_; dsimp only)); refine bxE 2 #[.slice A0_0 l0_0.length c0_0, .int .i64 a0_1] 65 ?_; intro ac hg w3 hbox hb; have aa := mk0 (hbox); have am := gE (uL HB.out) hg; have ao := gE (uL HB.out) hg; replace HB := hbB (uL HB.out) hb; clear hb hbox hg; obtain ⟨ae, af, ag, ah⟩ := cL2 aa))
 repeat (go_quiet (first | ((with_reducible refine gate_dst (N := 2) rfl ?_); (try (refine gate_guard (by rfl) ?_; dsimp only)); refine bxE 2 #[.slice A0_0 l0_0.length c0_0, .int .i64 a0_1] 65 ?_; intro ac hg w3 hbox hb; have aa := mk0 (hbox); have am := gE (uL HB.out) hg; have ao := gE (uL HB.out) hg; replace HB := hbB (uL HB.out) hb; clear hb hbox hg; obtain ⟨ae, af, ag, ah⟩ := cL2 aa)); try go_wp2_with (first | ((with_reducible refine gate_dst (N := 2) rfl ?_); (try (refine gate_guard (by rfl) ?_; dsimp only)); refine bxE 2 #[.slice A0_0 l0_0.length c0_0, .int .i64 a0_1] 65 ?_; intro ac hg w3 hbox hb; have aa := mk0 (hbox); have am := gE (uL HB.out) hg; have ao := gE (uL HB.out) hg; replace HB := hbB (uL HB.out) hb; clear hb hbox hg; obtain ⟨ae, af, ag, ah⟩ := cL2 aa)))
 go_loopg [5, 6] k (fun kq v5 v6 w' => ∃ (x5_1 : Int) (x6_1 : Int), v5 = .int .i64 x5_1 ∧ v6 = .int .i64 x6_1 ∧ Aside0 (furrowref20_value.l0 kq l1 x5_1 x6_1 l0_0 a0_1 = some r) ∧ Aside0 (kq ≤ k) ∧ Aside0 (w'.heap[ac]? = some (.cells #[(.slice A0_0 l0_0.length c0_0), .int .i64 a0_1] 65 (0, 0))) ∧ Aside0 (Below w.heap.size w w'))
 case atStart => exact ⟨(a0_1), (0), eK, eK, H', ⟨Nat.le_refl _⟩, ⟨uB aa.out⟩, ⟨bH⟩⟩
 case round =>
  clear H'; (try clear c1 ae af ag ah); obtain ⟨x5_1, x6_1, rfl, rfl, HA, ap, aa, HB⟩ := hrel
  cases gk with
  | zero => exact absurd HA.out (by simp [furrowref20_value.l0])
  | succ k1 =>
   have H := HA.out; clear HA; simp only [furrowref20_value.l0] at H
   by_cases c5 : x6_1 < (l1.length : Int)
   ·rw [if_pos c5] at H
    have aw := decide_eq_true c5; clear c5
    by_cases c6 : x6_1 < (l0_0.length : Int)
    ·rw [if_pos c6] at H
     have ax := decide_eq_true c6; clear c6
     by_cases c7 : 0 ≤ x6_1
     ·rw [if_pos c7] at H
      have aD := decide_eq_true c7; clear c7; have H' := mk0 H; clear H; obtain ⟨aE, aG, aH, aI⟩ := cL2 aa; have ai : 0 ≤ (x6_1 : Int) := dY; have aj : x6_1 < (l0_0.length : Int) := dY; obtain ⟨aJ, ay, aq⟩ := Kd.at_int au.out x6_1 ai aj
      cases ay
      replace aq := oC HB aq; replace ai := eq_true ai; replace aj := eq_true aj; have ak : 0 ≤ (x6_1 : Int) := dY; have al : x6_1 < (l1.length : Int) := dY; obtain ⟨aK, az, ar⟩ := Kd.at_int av.out x6_1 ak al
      cases az
      replace ar := oC HB ar; replace ak := eq_true ak; replace al := eq_true al; go_wp2; (repeat (go_quiet (fail); try go_wp2))
      go_roundg k1
      case measure => have := ap.out; omega
      case rel => exact ⟨(wrap64 (x5_1 + (wrap64 ((rd l0_0 x6_1) * (rd l1 x6_1))))), (wrap64 (x6_1 + 1)), eK, eK, H', ⟨by have := ap.out; omega⟩, ⟨uB aa.out⟩, ⟨bH⟩⟩
     ·exact nO H c7
    ·rw [if_neg c6] at H
     have ax := decide_eq_false c6; clear c6; obtain rfl := Option.some.inj H; obtain ⟨aM, aN, aQ, aT⟩ := cL2 aa; go_wp2; (repeat (go_quiet (fail); try go_wp2)); go_ret; exact ⟨rE, bH⟩
   ·rw [if_neg c5] at H
    have aw := decide_eq_false c5; clear c5; obtain rfl := Option.some.inj H; go_wp2; (repeat (go_quiet (fail); try go_wp2)); go_ret; exact ⟨rE, bH⟩


/-! ### furrowref20_Holds: function 18 -/
mutual
def furrowref20_Holds.l0 : Nat → List Int → Int → Int → List (S65) → List (S65) → Option (Bool)
 | 0, _, _, _, _, _ => none
 | k + 1, x1, x5, x477000, x477001, x477002 => if x5 < (x477001.length : Int) then (if 0 ≤ x5 then ((furrowref20_value.f k ((rd_T65 x477001 x5).f0) ((rd_T65 x477001 x5).f1) x1).bind fun t478 => (if t478 = 0 then (furrowref20_Holds.l0 k x1 (wrap64 (x5 + 1)) x477000 x477001 x477002) else (some false))) else (none)) else (furrowref20_Holds.l1 k x1 0 x477000 x477001 x477002)
def furrowref20_Holds.l1 : Nat → List Int → Int → Int → List (S65) → List (S65) → Option (Bool)
 | 0, _, _, _, _, _ => none
 | k + 1, x1, x6, x477000, x477001, x477002 => if x6 < (x477002.length : Int) then (if 0 ≤ x6 then ((furrowref20_value.f k ((rd_T65 x477002 x6).f0) ((rd_T65 x477002 x6).f1) x1).bind fun t480 => (if t480 < 0 then (some false) else (furrowref20_Holds.l1 k x1 (wrap64 (x6 + 1)) x477000 x477001 x477002))) else (none)) else (some true)
end
def furrowref20_Holds.f (k : Nat) (a0_0 : Int) (l0_1 : List (S65)) (l0_2 : List (S65)) (l1 : List Int) : Option (Bool) := furrowref20_Holds.l0 k l1 0 a0_0 l0_1 l0_2
theorem furrowref20_Holds.mono_l : ∀ k, (∀ y0 y1 y2 y3 y4, LeO (furrowref20_Holds.l0 k y0 y1 y2 y3 y4) (furrowref20_Holds.l0 (k + 1) y0 y1 y2 y3 y4)) ∧ (∀ y0 y1 y2 y3 y4, LeO (furrowref20_Holds.l1 k y0 y1 y2 y3 y4) (furrowref20_Holds.l1 (k + 1) y0 y1 y2 y3 y4))
 | 0 => by refine ⟨?_, ?_⟩ <;> intros <;> exact fun r h => by simp [furrowref20_Holds.l0, furrowref20_Holds.l1] at h
 | k + 1 => by
  obtain ⟨i0_, i1_⟩ := furrowref20_Holds.mono_l k; have m0_ := @furrowref20_value.mono; refine ⟨?_, ?_⟩ <;> intros
  ·unfold furrowref20_Holds.l0; exact lO_
  ·unfold furrowref20_Holds.l1; exact lO_
theorem furrowref20_Holds.mono : ∀ a0 a1 a2 a3 k, LeO (furrowref20_Holds.f k a0 a1 a2 a3) (furrowref20_Holds.f (k + 1) a0 a1 a2 a3) := by
 intro a0 a1 a2 a3 k
 obtain ⟨i0_, i1_⟩ := furrowref20_Holds.mono_l k; have m0_ := @furrowref20_value.mono; unfold furrowref20_Holds.f; exact lO_
set_option maxHeartbeats 8000000 in
set_option maxRecDepth 100000 in
theorem furrowref20_Holds.calls (k : Nat) (a0_0 : Int) (A0_1 : Option Addr) (c0_1 : Nat) (l0_1 : List (S65)) (A0_2 : Option Addr) (c0_2 : Nat) (l0_2 : List (S65)) (A1 : Option Addr) (c1 : Nat) (l1 : List Int) (r : Bool) (w : World) (hr0_1 : Kd.C k65 w A0_1 l0_1.length l0_1) (hc0_1 : l0_1.length ≤ c0_1) (hr0_2 : Kd.C k65 w A0_2 l0_2.length l0_2) (hc0_2 : l0_2.length ≤ c0_2) (hr1 : Kd.C (Kd.int .i64) w A1 l1.length l1) (hc1 : l1.length ≤ c1) (h : furrowref20_Holds.f k a0_0 l0_1 l0_2 l1 = some r) :
  Calls Tryd.prog 18 #[.agg #[.int .i64 a0_0, .slice A0_1 l0_1.length c0_1, .slice A0_2 l0_2.length c0_2], .slice A1 l1.length c1] w fun e w' => e = .returned (.bool r) ∧ Below w.heap.size w w' := by
 have hu34 := Tryd.underlying34
 have hu65 := Tryd.underlying65
 have aN := mk0 hr0_1
 have bf := mk0 hc0_1
 clear hr0_1 hc0_1
 have aQ := mk0 hr0_2
 have bg := mk0 hc0_2
 clear hr0_2 hc0_2
 have av := mk0 hr1
 have aw := mk0 hc1
 clear hr1 hc1
 have HB := mk0 (Below.refl w.heap.size w)
 have H : (furrowref20_Holds.l0 k l1 0 a0_0 l0_1 l0_2) = some r := h
 clear h
 have H' := mk0 H
 clear H
 go_enter Tryd.func18, Tryd.ntmps18
 go_wp2_with (first | ((with_reducible refine gate_dst (N := 2) rfl ?_); refine bxE 2 #[.int .i64 a0_0, .slice A0_1 l0_1.length c0_1, .slice A0_2 l0_2.length c0_2] 34 ?_; intro aT hg w3 hbox hb; have aa := mk0 (hbox); have bh := gE (uL HB.out) hg; have bi := gE (uL HB.out) hg; replace HB := hbB (uL HB.out) hb; clear hb hbox hg))
 go_loopg [5] k (fun kq v5 w' => ∃ (x5_1 : Int), v5 = .int .i64 x5_1 ∧ Aside0 (furrowref20_Holds.l0 kq l1 x5_1 a0_0 l0_1 l0_2 = some r) ∧ Aside0 (kq ≤ k) ∧ Aside0 (w'.heap[aT]? = some (.cells #[.int .i64 a0_0, (.slice A0_1 l0_1.length c0_1), (.slice A0_2 l0_2.length c0_2)] 34 (0, 0))) ∧ Aside0 (Below w.heap.size w w'))
 case atStart => exact ⟨(0), eK, H', ⟨Nat.le_refl _⟩, ⟨uB aa.out⟩, ⟨bH⟩⟩
 case round =>
  clear H'; (try clear c1); obtain ⟨x5_1, rfl, HA, ax, aa, HB⟩ := hrel
  cases gk with
  | zero => exact absurd HA.out (by simp [furrowref20_Holds.l0])
  | succ k1 =>
   have H := HA.out; clear HA; simp only [furrowref20_Holds.l0] at H
   by_cases c4 : x5_1 < (l0_1.length : Int)
   ·rw [if_pos c4] at H
    have aU := decide_eq_true c4; clear c4
    by_cases c5 : 0 ≤ x5_1
    ·rw [if_pos c5] at H
     have bj := decide_eq_true c5; clear c5; obtain ⟨ac, A6, H⟩ := oB H
     by_cases c7 : ac = 0
     ·rw [if_pos c7] at H
      have aX : (ac == 0) = true := beq_iff_eq.mpr c7; have aY : (ac != 0) = false := bne_eq_false_iff_eq.mpr c7; clear c7; have H' := mk0 H; clear H; obtain ⟨bk, bl, bm, bn, bo, bp⟩ := cL3 aa; have ae : 0 ≤ (x5_1 : Int) := dY; have af : x5_1 < (l0_1.length : Int) := dY; obtain ⟨aZ, az, aA, aC, ak, al, am, ao⟩ := at_T65 aN.out x5_1 ae af
      cases aC
      replace ak := oC HB ak; replace al := oC HB al; have aD := mk0 ao; have aE := mk0 am; clear ao am; replace ae := eq_true ae; replace af := eq_true af
      go_wp2_with (first | ((with_reducible refine gate_dst (N := 20) rfl ?_); refine gsM (some 20) Tryd.func47 #[.agg #[.slice az ((rd_T65 l0_1 x5_1).f0).length aA, .int .i64 ((rd_T65 l0_1 x5_1).f1)], .slice A1 l1.length c1] ?_; (with_reducible refine (furrowref20_value.calls k1 _ _ ((rd_T65 l0_1 x5_1).f0) ((rd_T65 l0_1 x5_1).f1) _ _ l1 ac _ ?side1 ?side2 ?side3 ?side4 A6.out).mono ?_); (case side1 => exact uC (Kd.C_below aD.out HB.out)); (case side2 => exact aE.out); (case side3 => exact uC (Kd.C_below av.out HB.out)); (case side4 => exact aw.out); rintro e w9 ⟨rfl, hb⟩; refine ⟨_, rfl, ?_⟩; replace aa := bB aa hb; replace HB := hbB bH hb; (try clear hb); ))
      go_roundg k1
      case measure => have := ax.out; omega
      case rel => exact ⟨(wrap64 (x5_1 + 1)), eK, H', ⟨by have := ax.out; omega⟩, ⟨uB aa.out⟩, ⟨bH⟩⟩
     ·rw [if_neg c7] at H
      have aX : (ac == 0) = false := beq_eq_false_iff_ne.mpr c7; have aY : (ac != 0) = true := bne_iff_ne.mpr c7; obtain rfl := Option.some.inj H; obtain ⟨bq, br, bs, bu, bv, bw⟩ := cL3 aa; have ae : 0 ≤ (x5_1 : Int) := dY; have af : x5_1 < (l0_1.length : Int) := dY; obtain ⟨aZ, az, aA, aC, ak, al, am, ao⟩ := at_T65 aN.out x5_1 ae af
      cases aC
      replace ak := oC HB ak; replace al := oC HB al; have aD := mk0 ao; have aE := mk0 am; clear ao am; replace ae := eq_true ae; replace af := eq_true af
      go_wp2_with (first | ((with_reducible refine gate_dst (N := 20) rfl ?_); refine gsM (some 20) Tryd.func47 #[.agg #[.slice az ((rd_T65 l0_1 x5_1).f0).length aA, .int .i64 ((rd_T65 l0_1 x5_1).f1)], .slice A1 l1.length c1] ?_; (with_reducible refine (furrowref20_value.calls k1 _ _ ((rd_T65 l0_1 x5_1).f0) ((rd_T65 l0_1 x5_1).f1) _ _ l1 ac _ ?side1 ?side2 ?side3 ?side4 A6.out).mono ?_); (case side1 => exact uC (Kd.C_below aD.out HB.out)); (case side2 => exact aE.out); (case side3 => exact uC (Kd.C_below av.out HB.out)); (case side4 => exact aw.out); rintro e bx ⟨rfl, hb⟩; refine ⟨_, rfl, ?_⟩; replace HB := hbB bH hb; (try clear hb); ))
      go_ret; exact ⟨rE, bH⟩
    ·exact nO H c5
   ·rw [if_neg c4] at H
    have aU := decide_eq_false c4; clear c4; have H' := mk0 H; clear H; obtain ⟨a6, a7, a8, a9, a_, ba⟩ := cL3 aa; go_wp2
    go_loopg [6] k1 (fun kq v6 w' => ∃ (x6_2 : Int), v6 = .int .i64 x6_2 ∧ Aside0 (furrowref20_Holds.l1 kq l1 x6_2 a0_0 l0_1 l0_2 = some r) ∧ Aside0 (kq ≤ k1) ∧ Aside0 (w'.heap[aT]? = some (.cells #[.int .i64 a0_0, (.slice A0_1 l0_1.length c0_1), (.slice A0_2 l0_2.length c0_2)] 34 (0, 0))) ∧ Aside0 (Below w.heap.size w w'))
    case atStart => exact ⟨(0), eK, H', ⟨Nat.le_refl _⟩, ⟨uB aa.out⟩, ⟨bH⟩⟩
    case round =>
     clear H'; (try clear c1 c4 aU a6 a7 a8 a9 a_ ba); obtain ⟨x6_2, rfl, HA, aV, aa, HB⟩ := hrel
     cases gk with
     | zero => exact absurd HA.out (by simp [furrowref20_Holds.l1])
     | succ k2 =>
      have H := HA.out; clear HA; simp only [furrowref20_Holds.l1] at H
      by_cases ai : x6_2 < (l0_2.length : Int)
      ·rw [if_pos ai] at H
       have bb := decide_eq_true ai; clear ai
       by_cases ay : 0 ≤ x6_2
       ·rw [if_pos ay] at H
        have bz := decide_eq_true ay; clear ay; obtain ⟨aG, aW, H⟩ := oB H
        by_cases aj : aG < 0
        ·rw [if_pos aj] at H
         have bc := decide_eq_true aj; clear aj; obtain rfl := Option.some.inj H; obtain ⟨bC, bE, bF, bG, bI, bJ⟩ := cL3 aa; have ag : 0 ≤ (x6_2 : Int) := dY; have ah : x6_2 < (l0_2.length : Int) := dY; obtain ⟨bd, aH, aI, aJ, ap, aq, ar, au⟩ := at_T65 aQ.out x6_2 ag ah
         cases aJ
         replace ap := oC HB ap; replace aq := oC HB aq; have aK := mk0 au; have aM := mk0 ar; clear au ar; replace ag := eq_true ag; replace ah := eq_true ah
         go_wp2_with (first | ((with_reducible refine gate_dst (N := 35) rfl ?_); refine gsM (some 35) Tryd.func47 #[.agg #[.slice aH ((rd_T65 l0_2 x6_2).f0).length aI, .int .i64 ((rd_T65 l0_2 x6_2).f1)], .slice A1 l1.length c1] ?_; (with_reducible refine (furrowref20_value.calls k2 _ _ ((rd_T65 l0_2 x6_2).f0) ((rd_T65 l0_2 x6_2).f1) _ _ l1 aG _ ?side1 ?side2 ?side3 ?side4 aW.out).mono ?_); (case side1 => exact uC (Kd.C_below aK.out HB.out)); (case side2 => exact aM.out); (case side3 => exact uC (Kd.C_below av.out HB.out)); (case side4 => exact aw.out); rintro e bK ⟨rfl, hb⟩; refine ⟨_, rfl, ?_⟩; replace HB := hbB bH hb; (try clear hb); ))
         go_ret; exact ⟨rE, bH⟩
        ·rw [if_neg aj] at H
         have bc := decide_eq_false aj; clear aj; have H' := mk0 H; clear H; obtain ⟨bL, bM, bO, bP, bQ, bR⟩ := cL3 aa; have ag : 0 ≤ (x6_2 : Int) := dY; have ah : x6_2 < (l0_2.length : Int) := dY; obtain ⟨bd, aH, aI, aJ, ap, aq, ar, au⟩ := at_T65 aQ.out x6_2 ag ah
         cases aJ
         replace ap := oC HB ap; replace aq := oC HB aq; have aK := mk0 au; have aM := mk0 ar; clear au ar; replace ag := eq_true ag; replace ah := eq_true ah
         go_wp2_with (first | ((with_reducible refine gate_dst (N := 35) rfl ?_); refine gsM (some 35) Tryd.func47 #[.agg #[.slice aH ((rd_T65 l0_2 x6_2).f0).length aI, .int .i64 ((rd_T65 l0_2 x6_2).f1)], .slice A1 l1.length c1] ?_; (with_reducible refine (furrowref20_value.calls k2 _ _ ((rd_T65 l0_2 x6_2).f0) ((rd_T65 l0_2 x6_2).f1) _ _ l1 aG _ ?side1 ?side2 ?side3 ?side4 aW.out).mono ?_); (case side1 => exact uC (Kd.C_below aK.out HB.out)); (case side2 => exact aM.out); (case side3 => exact uC (Kd.C_below av.out HB.out)); (case side4 => exact aw.out); rintro e bT ⟨rfl, hb⟩; refine ⟨_, rfl, ?_⟩; replace aa := bB aa hb; replace HB := hbB bH hb; (try clear hb); ))
         go_roundg k2
         case measure => have := ax.out; have := aV.out; omega
         case rel => exact ⟨(wrap64 (x6_2 + 1)), eK, H', ⟨by have := ax.out; have := aV.out; omega⟩, ⟨uB aa.out⟩, ⟨bH⟩⟩
       ·exact nO H ay
      ·rw [if_neg ai] at H
       have bb := decide_eq_false ai; clear ai; obtain rfl := Option.some.inj H; obtain ⟨bU, bV, bW, bX, bY, bZ⟩ := cL3 aa; go_wp2; go_ret; exact ⟨rE, bH⟩

end Go.Proofs.YtkkpgjkjkcmcbaaDoor.X
