-- PRINTED by print.py (a twelfth state) out of the translation. Not trusted: Lean checks it.
import Derived.Test.YtkkpgjkjkcmcbaaDoorXx0
import Derived.Lib.SliceRun
namespace Go.Proofs.YtkkpgjkjkcmcbaaDoor.X
open Go.Proofs.YtkkpgjkjkcmcbaaDoor.Flt Go.Proofs.YtkkpgjkjkcmcbaaDoor.H Go.RowKit Go.Proofs.YtkkpgjkjkcmcbaaDoorW.PrintWords Go.Proofs.YtkkpgjkjkcmcbaaDoorW.PrintLast Go.Proofs.YtkkpgjkjkcmcbaaDoorW.PrintMore
attribute [local go_sem] max2_int min2_int max_two min_two max_three min_three max_four min_four   -- for this text's walks alone
set_option linter.unusedVariables false
set_option linter.unusedSimpArgs false

/-! ### num_Floor: function 60 -/
def num_Floor.j0 : Nat → Int → Int → Bool → Option (Int × Bool)
 | 0, _, _, _ => none
 | k + 1, x0, x1, x16 => if x16 = true then (some (0, false)) else (if x1 = 0 then (none) else (if (Int.tmod x0 x1) = 0 then (some (wrap64 (Int.tdiv x0 x1), true)) else (if ((decide (x0 < 0)) != (decide (x1 < 0))) = true then (some (wrap64 ((wrap64 (Int.tdiv x0 x1)) - 1), true)) else (some (wrap64 (Int.tdiv x0 x1), true)))))
def num_Floor.f (k : Nat) (a0 : Int) (a1 : Int) : Option (Int × Bool) := if a1 = 0 then (num_Floor.j0 k a0 a1 true) else (if a0 = (-9223372036854775808) then (num_Floor.j0 k a0 a1 (a1 == (-1))) else (num_Floor.j0 k a0 a1 false))
theorem num_Floor.mono_l : ∀ k, (∀ y0 y1 y2, LeO (num_Floor.j0 k y0 y1 y2) (num_Floor.j0 (k + 1) y0 y1 y2))
 | 0 => fun _ _ _ r h => by simp [num_Floor.j0] at h
 | k + 1 => by
  have ih0 := num_Floor.mono_l k
  ·intro y0 y1 y2
   unfold num_Floor.j0
   repeat' first
   | (with_reducible exact ih0 _ _ _)
   | (with_reducible exact LeO.refl _)
   | (with_reducible exact LeO.none _)
   | (with_reducible refine LeO.ite ?_ ?_)
   | (with_reducible refine LeO.bind ?_ (fun _ => ?_))
   | exact ih0 _ _ _
   | exact LeO.none _
   | refine LeO.ite ?_ ?_
   | refine LeO.bind ?_ (fun _ => ?_)
theorem num_Floor.mono : ∀ a0 a1 k, LeO (num_Floor.f k a0 a1) (num_Floor.f (k + 1) a0 a1) := by
 intro a0 a1 k
 have ih0 := num_Floor.mono_l k
 unfold num_Floor.f
 repeat' first
   | (with_reducible exact ih0 _ _ _)
   | (with_reducible exact LeO.refl _)
   | (with_reducible exact LeO.none _)
   | (with_reducible refine LeO.ite ?_ ?_)
   | (with_reducible refine LeO.bind ?_ (fun _ => ?_))
   | exact ih0 _ _ _
   | exact LeO.none _
   | refine LeO.ite ?_ ?_
   | refine LeO.bind ?_ (fun _ => ?_)
set_option maxHeartbeats 8000000 in
set_option maxRecDepth 100000 in
theorem num_Floor.calls (k : Nat) (a0 : Int) (a1 : Int) (r1 : Int) (r2 : Bool) (w : World) (h : num_Floor.f k a0 a1 = some (r1, r2)) :
  Calls Tryd.prog 60 #[.int .i64 a0, .int .i64 a1] w fun e w' => e = .returned (.tuple #[.int .i64 r1, .bool r2]) ∧ Drawn0 w w' := by
 have H : (if a1 = 0 then (num_Floor.j0 k a0 a1 true) else (if a0 = (-9223372036854775808) then (num_Floor.j0 k a0 a1 (a1 == (-1))) else (num_Floor.j0 k a0 a1 false))) = some (r1, r2) := h
 clear h
 have HC3 := mk0 H
 clear H
 go_enter Tryd.func60, Tryd.ntmps60
 go_upto_region 1 with (fail)
 go_cut [16] (fun v16 wc => ∃ (kq : Nat) (x16_2 : Bool), v16 = .bool x16_2 ∧ Aside0 (num_Floor.j0 kq a0 a1 x16_2 = some (r1, r2)) ∧ Aside0 (kq ≤ k) ∧ Drawn0 w wc)
 case first =>
  have H := HC3.out; clear HC3
  by_cases c4 : a1 = 0
  ·rw [if_pos c4] at H
   have c4b0 : (a1 == 0) = true := beq_iff_eq.mpr c4; have c4b1 : (a1 != 0) = false := bne_eq_false_iff_eq.mpr c4; clear c4; (first | rw [c4b0] | (simp only [i64_w, i32_w]; rw [c4b0]) | skip); have H' := mk0 H; clear H; go_wp2
   go_meet
   case rel => exact ⟨_, (true), eK, H', ⟨by first | omega | exact Nat.le_refl _⟩, by repeat (first | exact Drawn0.refl _ | apply Drawn0.step)⟩
  ·rw [if_neg c4] at H
   have c4b0 : (a1 == 0) = false := beq_eq_false_iff_ne.mpr c4; have c4b1 : (a1 != 0) = true := bne_iff_ne.mpr c4; (first | rw [c4b0] | (simp only [i64_w, i32_w]; rw [c4b0]) | skip)
   by_cases c5 : a0 = (-9223372036854775808)
   ·rw [if_pos c5] at H
    have c5b0 : (a0 == (-9223372036854775808)) = true := beq_iff_eq.mpr c5; have c5b1 : (a0 != (-9223372036854775808)) = false := bne_eq_false_iff_eq.mpr c5; clear c5; have H' := mk0 H; clear H; go_wp2
    go_meet
    case rel => exact ⟨_, ((a1 == (-1))), eK, H', ⟨by first | omega | exact Nat.le_refl _⟩, by repeat (first | exact Drawn0.refl _ | apply Drawn0.step)⟩
   ·rw [if_neg c5] at H
    have c5b0 : (a0 == (-9223372036854775808)) = false := beq_eq_false_iff_ne.mpr c5; have c5b1 : (a0 != (-9223372036854775808)) = true := bne_iff_ne.mpr c5; have H' := mk0 H; clear H; go_wp2
    go_meet
    case rel => exact ⟨_, (false), eK, H', ⟨by first | omega | exact Nat.le_refl _⟩, by repeat (first | exact Drawn0.refl _ | apply Drawn0.step)⟩
 case rest =>
  clear HC3; obtain ⟨kq, x16_2, rfl, HA, HJ2, ⟨mc2, rfl⟩⟩ := hcut
  cases kq with
  | zero => exact absurd HA.out (by simp [num_Floor.j0])
  | succ kj2 =>
   have H := HA.out; clear HA; simp only [num_Floor.j0] at H
   by_cases c6 : x16_2 = true
   ·subst c6
    replace H := iT H; simp only [Option.some.injEq, Prod.mk.injEq] at H; obtain ⟨rfl, rfl⟩ := H; go_wp2
    go_ret2
    exact ⟨eK, by repeat (first | exact Drawn0.refl _ | apply Drawn0.step)⟩
   ·replace c6 := Bool.eq_false_iff.mpr c6
    subst c6; replace H := iF H
    by_cases c7 : a1 = 0
    ·exact nI H c7
    ·rw [if_neg c7] at H
     have c7b0 : (a1 == 0) = false := beq_eq_false_iff_ne.mpr c7; have c7b1 : (a1 != 0) = true := bne_iff_ne.mpr c7
     by_cases c8 : (Int.tmod a0 a1) = 0
     ·rw [if_pos c8] at H
      have c8b0 : ((Int.tmod a0 a1) == 0) = true := beq_iff_eq.mpr c8; have c8b1 : ((Int.tmod a0 a1) != 0) = false := bne_eq_false_iff_eq.mpr c8; clear c8; simp only [Option.some.injEq, Prod.mk.injEq] at H; obtain ⟨rfl, rfl⟩ := H; go_wp2
      go_ret2
      exact ⟨eK, by repeat (first | exact Drawn0.refl _ | apply Drawn0.step)⟩
     ·rw [if_neg c8] at H
      have c8b0 : ((Int.tmod a0 a1) == 0) = false := beq_eq_false_iff_ne.mpr c8; have c8b1 : ((Int.tmod a0 a1) != 0) = true := bne_iff_ne.mpr c8
      by_cases c9 : ((decide (a0 < 0)) != (decide (a1 < 0))) = true
      ·rw [if_pos c9] at H
       have c9b0 : ((decide (a0 < 0)) != (decide (a1 < 0))) = true := c9; (try (have c9b1 : decide ((decide (a0 < 0)) = (decide (a1 < 0))) = false := by (revert c9; generalize ((decide (a0 < 0))) = p_; generalize ((decide (a1 < 0))) = q_; revert p_ q_; decide))); (try (have c9b2 : ((decide (a0 < 0)) == (decide (a1 < 0))) = false := by (revert c9; generalize ((decide (a0 < 0))) = p_; generalize ((decide (a1 < 0))) = q_; revert p_ q_; decide))); (try (have c9b3 : ¬ ((decide (a0 < 0)) = (decide (a1 < 0))) := by (revert c9; generalize ((decide (a0 < 0))) = p_; generalize ((decide (a1 < 0))) = q_; revert p_ q_; decide))); clear c9; simp only [Option.some.injEq, Prod.mk.injEq] at H; obtain ⟨rfl, rfl⟩ := H; go_wp2
       all_goals (try (exfalso; rename_i h_; rw [c9b2] at h_; revert h_; decide))
       go_ret2
       exact ⟨eK, by repeat (first | exact Drawn0.refl _ | apply Drawn0.step)⟩
      ·rw [if_neg c9] at H
       (have c9b0 : ((decide (a0 < 0)) != (decide (a1 < 0))) = false := by simpa using c9); (try (have c9b1 : decide ((decide (a0 < 0)) = (decide (a1 < 0))) = true := by (revert c9; generalize ((decide (a0 < 0))) = p_; generalize ((decide (a1 < 0))) = q_; revert p_ q_; decide))); (try (have c9b2 : ((decide (a0 < 0)) == (decide (a1 < 0))) = true := by (revert c9; generalize ((decide (a0 < 0))) = p_; generalize ((decide (a1 < 0))) = q_; revert p_ q_; decide))); clear c9; simp only [Option.some.injEq, Prod.mk.injEq] at H; obtain ⟨rfl, rfl⟩ := H; go_wp2
       all_goals (try (exfalso; rename_i h_; rw [c9b2] at h_; revert h_; decide))
       go_ret2
       exact ⟨eK, by repeat (first | exact Drawn0.refl _ | apply Drawn0.step)⟩

/-! ### num_Ceil: function 58 -/
def num_Ceil.f (k : Nat) (a0 : Int) (a1 : Int) : Option (Int × Bool) := (num_Floor.f k a0 a1).bind fun bt101 => (if bt101.2 = true then (if a1 = 0 then (none) else (if (Int.tmod a0 a1) = 0 then (some (bt101.1, bt101.2)) else (some (wrap64 (bt101.1 + 1), bt101.2)))) else (some (bt101.1, bt101.2)))
theorem num_Ceil.mono : ∀ a0 a1 k, LeO (num_Ceil.f k a0 a1) (num_Ceil.f (k + 1) a0 a1) := by
 intro a0 a1 k
 have m0_ := @num_Floor.mono; unfold num_Ceil.f; exact lO_
set_option maxHeartbeats 8000000 in
set_option maxRecDepth 100000 in
theorem num_Ceil.calls (k : Nat) (a0 : Int) (a1 : Int) (r1 : Int) (r2 : Bool) (w : World) (h : num_Ceil.f k a0 a1 = some (r1, r2)) :
  Calls Tryd.prog 58 #[.int .i64 a0, .int .i64 a1] w fun e w' => e = .returned (.tuple #[.int .i64 r1, .bool r2]) ∧ Drawn0 w w' := by
 have H : ((num_Floor.f k a0 a1).bind fun bt101 => (if bt101.2 = true then (if a1 = 0 then (none) else (if (Int.tmod a0 a1) = 0 then (some (bt101.1, bt101.2)) else (some (wrap64 (bt101.1 + 1), bt101.2)))) else (some (bt101.1, bt101.2)))) = some (r1, r2) := h
 clear h
 replace H := Option.bind_eq_some_iff.mp H
 obtain ⟨⟨t101, t102⟩, A30, H⟩ := H
 dsimp only at H
 have A3 := mk0 A30
 clear A30
 by_cases c4 : t102 = true
 ·subst c4
  replace H := iT H
  by_cases c5 : a1 = 0
  ·exact nI H c5
  ·rw [if_neg c5] at H
   have c5b0 : (a1 == 0) = false := beq_eq_false_iff_ne.mpr c5; have c5b1 : (a1 != 0) = true := bne_iff_ne.mpr c5
   by_cases c6 : (Int.tmod a0 a1) = 0
   ·rw [if_pos c6] at H
    have c6b0 : ((Int.tmod a0 a1) == 0) = true := beq_iff_eq.mpr c6; have c6b1 : ((Int.tmod a0 a1) != 0) = false := bne_eq_false_iff_eq.mpr c6; clear c6; simp only [Option.some.injEq, Prod.mk.injEq] at H; obtain ⟨rfl, rfl⟩ := H; go_enter Tryd.func58, Tryd.ntmps58
    go_wp2_with (first | ((with_reducible refine gate_dst (N := 11) rfl ?_); refine gsM (some 11) Tryd.func60 #[.int .i64 a0, .int .i64 a1] ?_; (with_reducible refine (num_Floor.calls k a0 a1 t101 true _ A3.out).mono ?_); rintro e w' ⟨rfl, ⟨nd, rfl⟩⟩; refine ⟨_, rfl, ?_⟩))
    go_ret2
    exact ⟨eK, by repeat (first | exact Drawn0.refl _ | apply Drawn0.step)⟩
   ·rw [if_neg c6] at H
    have c6b0 : ((Int.tmod a0 a1) == 0) = false := beq_eq_false_iff_ne.mpr c6; have c6b1 : ((Int.tmod a0 a1) != 0) = true := bne_iff_ne.mpr c6; simp only [Option.some.injEq, Prod.mk.injEq] at H; obtain ⟨rfl, rfl⟩ := H; go_enter Tryd.func58, Tryd.ntmps58
    go_wp2_with (first | ((with_reducible refine gate_dst (N := 11) rfl ?_); refine gsM (some 11) Tryd.func60 #[.int .i64 a0, .int .i64 a1] ?_; (with_reducible refine (num_Floor.calls k a0 a1 t101 true _ A3.out).mono ?_); rintro e w' ⟨rfl, ⟨nd, rfl⟩⟩; refine ⟨_, rfl, ?_⟩))
    go_ret2
    exact ⟨eK, by repeat (first | exact Drawn0.refl _ | apply Drawn0.step)⟩
 ·replace c4 := Bool.eq_false_iff.mpr c4
  subst c4; replace H := iF H; simp only [Option.some.injEq, Prod.mk.injEq] at H; obtain ⟨rfl, rfl⟩ := H; go_enter Tryd.func58, Tryd.ntmps58
  go_wp2_with (first | ((with_reducible refine gate_dst (N := 11) rfl ?_); refine gsM (some 11) Tryd.func60 #[.int .i64 a0, .int .i64 a1] ?_; (with_reducible refine (num_Floor.calls k a0 a1 t101 false _ A3.out).mono ?_); rintro e w' ⟨rfl, ⟨nd, rfl⟩⟩; refine ⟨_, rfl, ?_⟩))
  go_ret2
  exact ⟨eK, by repeat (first | exact Drawn0.refl _ | apply Drawn0.step)⟩

/-! ### sys_alone: function 35 -/
mutual
def sys_alone.l0 : Nat → Int → List Int → Int → Int → Option (Int)
 | 0, _, _, _, _ => none
 | k + 1, x3, x7, x8, x9 => if x9 < x8 then (if 0 ≤ x9 then (if x9 < (x7.length : Int) then (if (rd x7 x9) = 0 then (sys_alone.j1 k x3 x9 (rd x7 x9) x7 x8 x9 false) else (sys_alone.j1 k x3 x9 (rd x7 x9) x7 x8 x9 (decide (x3 ≥ 0)))) else (none)) else (none)) else (some x3)
def sys_alone.j1 : Nat → Int → Int → Int → List Int → Int → Int → Bool → Option (Int)
 | 0, _, _, _, _, _, _, _ => none
 | k + 1, x3, x4, x5, x7, x8, x9, x14 => if x14 = true then (some (-1)) else (if x5 = 0 then (sys_alone.l0 k x3 x7 x8 (wrap64 (x9 + 1))) else (sys_alone.l0 k x4 x7 x8 (wrap64 (x9 + 1))))
end
def sys_alone.f (k : Nat) (l0_0 : List Int) (a0_1 : Int) : Option (Int) := sys_alone.l0 k (-1) l0_0 (l0_0.length : Int) 0
theorem sys_alone.mono_l : ∀ k, (∀ y0 y1 y2 y3, LeO (sys_alone.l0 k y0 y1 y2 y3) (sys_alone.l0 (k + 1) y0 y1 y2 y3)) ∧ (∀ y0 y1 y2 y3 y4 y5 y6, LeO (sys_alone.j1 k y0 y1 y2 y3 y4 y5 y6) (sys_alone.j1 (k + 1) y0 y1 y2 y3 y4 y5 y6))
 | 0 => by refine ⟨?_, ?_⟩ <;> intros <;> exact fun r h => by simp [sys_alone.l0, sys_alone.j1] at h
 | k + 1 => by
  obtain ⟨i0_, i1_⟩ := sys_alone.mono_l k; refine ⟨?_, ?_⟩ <;> intros
  ·unfold sys_alone.l0; exact lO_
  ·unfold sys_alone.j1; exact lO_
theorem sys_alone.mono : ∀ a0 a1 k, LeO (sys_alone.f k a0 a1) (sys_alone.f (k + 1) a0 a1) := by
 intro a0 a1 k
 obtain ⟨i0_, i1_⟩ := sys_alone.mono_l k; unfold sys_alone.f; exact lO_
set_option maxHeartbeats 8000000 in
set_option maxRecDepth 100000 in
theorem sys_alone.calls (k : Nat) (A0_0 : Option Addr) (c0_0 : Nat) (l0_0 : List Int) (a0_1 : Int) (r : Int) (w : World) (hr0_0 : Kd.C (Kd.int .i64) w A0_0 l0_0.length l0_0) (hc0_0 : l0_0.length ≤ c0_0) (h : sys_alone.f k l0_0 a0_1 = some r) :
  Calls Tryd.prog 35 #[.agg #[.slice A0_0 l0_0.length c0_0, .int .i64 a0_1]] w fun e w' => e = .returned (.int .i64 r) ∧ Below w.heap.size w w' := by
 have hu59 := Tryd.underlying59
 have av := mk0 hr0_0
 have aG := mk0 hc0_0
 clear hr0_0 hc0_0
 have HB := mk0 (Below.refl w.heap.size w)
 have H : (sys_alone.l0 k (-1) l0_0 (l0_0.length : Int) 0) = some r := h
 clear h
 have H' := mk0 H
 clear H
 go_enter Tryd.func35, Tryd.ntmps35
 go_wp2_with (first | ((with_reducible refine gate_dst (N := 1) rfl ?_); refine bxE 1 #[.slice A0_0 l0_0.length c0_0, .int .i64 a0_1] 59 ?_; intro am hg w2 hbox hb; have aa := mk0 (hbox); have aH := gE (uL HB.out) hg; have aI := gE (uL HB.out) hg; replace HB := hbB (uL HB.out) hb; clear hb hbox hg; obtain ⟨ao, ap, aq, ar⟩ := cL2 aa))
 go_loopg [3, 9] k (fun kq v3 v9 w' => ∃ (x3_1 : Int) (x9_1 : Int), v3 = .int .i64 x3_1 ∧ v9 = .int .i64 x9_1 ∧ Aside0 (sys_alone.l0 kq x3_1 l0_0 (l0_0.length : Int) x9_1 = some r) ∧ Aside0 (kq ≤ k) ∧ Aside0 (w'.heap[am]? = some (.cells #[(.slice A0_0 l0_0.length c0_0), .int .i64 a0_1] 59 (0, 0))) ∧ Aside0 (Below w.heap.size w w'))
 case atStart => exact ⟨((-1)), (0), eK, eK, H', ⟨Nat.le_refl _⟩, ⟨uB aa.out⟩, ⟨bH⟩⟩
 case round =>
  clear H'; (try clear ao ap aq ar); obtain ⟨x3_1, x9_1, rfl, rfl, HA, ae, aa, HB⟩ := hrel
  cases gk with
  | zero => exact absurd HA.out (by simp [sys_alone.l0])
  | succ k1 =>
   have H := HA.out; clear HA; simp only [sys_alone.l0] at H
   by_cases c4 : x9_1 < (l0_0.length : Int)
   ·rw [if_pos c4] at H
    have au := decide_eq_true c4; clear c4
    by_cases c5 : 0 ≤ x9_1
    ·rw [if_pos c5] at H
     have aw := decide_eq_true c5; clear c5
     by_cases c6 : x9_1 < (l0_0.length : Int)
     ·rw [if_pos c6] at H
      have ax := decide_eq_true c6; clear c6; have ak := mk0 H; clear H; have ag : 0 ≤ (x9_1 : Int) := dY; have ah : x9_1 < (l0_0.length : Int) := dY; obtain ⟨ay, az, al⟩ := Kd.at_int av.out x9_1 ag ah
      cases az
      replace al := oC HB al; replace ag := eq_true ag; replace ah := eq_true ah
      go_upto_region 5 with (fail)
      go_cut [14] (fun aA wc => ∃ (kq : Nat) (ai : Bool), aA = .bool ai ∧ Aside0 (sys_alone.j1 kq x3_1 x9_1 (rd l0_0 x9_1) l0_0 (l0_0.length : Int) x9_1 ai = some r) ∧ Aside0 (kq ≤ k1) ∧ Aside0 (wc.heap[am]? = some (.cells #[(.slice (some ay) l0_0.length c0_0), .int .i64 a0_1] 59 (0, 0))) ∧ Aside0 (Below w.heap.size w wc))
      case first =>
       have H := ak.out; clear ak
       by_cases c8 : (rd l0_0 x9_1) = 0
       ·rw [if_pos c8] at H
        have af : ((rd l0_0 x9_1) == 0) = true := beq_iff_eq.mpr c8; have aC : ((rd l0_0 x9_1) != 0) = false := bne_eq_false_iff_eq.mpr c8; clear c8; (first | rw [af] | (simp only [i64_w, i32_w]; rw [af]) | skip); have H' := mk0 H; clear H; go_wp2
        go_meet
        case rel => exact ⟨_, (false), eK, H', ⟨by have := ae.out; first | omega | exact Nat.le_refl _⟩, ⟨uB aa.out⟩, ⟨bH⟩⟩
       ·rw [if_neg c8] at H
        have af : ((rd l0_0 x9_1) == 0) = false := beq_eq_false_iff_ne.mpr c8; have aC : ((rd l0_0 x9_1) != 0) = true := bne_iff_ne.mpr c8; (first | rw [af] | (simp only [i64_w, i32_w]; rw [af]) | skip); have H' := mk0 H; clear H; go_wp2
        go_meet
        case rel => exact ⟨_, (decide (x3_1 ≥ 0)), eK, H', ⟨by have := ae.out; first | omega | exact Nat.le_refl _⟩, ⟨uB aa.out⟩, ⟨bH⟩⟩
      case rest =>
       clear ak; (try clear c4 au c5 aw c6 ax ao ap aq ar al ag ah); obtain ⟨kq, ai, rfl, HA, aj, aa, HB⟩ := hcut
       cases kq with
       | zero => exact absurd HA.out (by simp [sys_alone.j1])
       | succ kj6 =>
        have H := HA.out; clear HA; simp only [sys_alone.j1] at H
        by_cases c9 : ai = true
        ·subst c9
         replace H := iT H; obtain rfl := Option.some.inj H; go_wp2; go_ret; exact ⟨rE, bH⟩
        ·replace c9 := Bool.eq_false_iff.mpr c9
         subst c9; replace H := iF H
         by_cases ac : (rd l0_0 x9_1) = 0
         ·rw [if_pos ac] at H
          have aD : ((rd l0_0 x9_1) == 0) = true := beq_iff_eq.mpr ac; have aE : ((rd l0_0 x9_1) != 0) = false := bne_eq_false_iff_eq.mpr ac; clear ac; have H' := mk0 H; clear H; go_wp2
          go_roundg kj6
          case measure => have := ae.out; have := aj.out; omega
          case rel => exact ⟨(x3_1), (wrap64 (x9_1 + 1)), eK, eK, H', ⟨by have := ae.out; have := aj.out; omega⟩, ⟨uB aa.out⟩, ⟨bH⟩⟩
         ·rw [if_neg ac] at H
          have aD : ((rd l0_0 x9_1) == 0) = false := beq_eq_false_iff_ne.mpr ac; have aE : ((rd l0_0 x9_1) != 0) = true := bne_iff_ne.mpr ac; have H' := mk0 H; clear H; go_wp2
          go_roundg kj6
          case measure => have := ae.out; have := aj.out; omega
          case rel => exact ⟨(x9_1), (wrap64 (x9_1 + 1)), eK, eK, H', ⟨by have := ae.out; have := aj.out; omega⟩, ⟨uB aa.out⟩, ⟨bH⟩⟩
     ·exact nO H c6
    ·exact nO H c5
   ·rw [if_neg c4] at H
    have au := decide_eq_false c4; clear c4; obtain rfl := Option.some.inj H; go_wp2; go_ret; exact ⟨rE, bH⟩


/-! ### sys_of: function 45 -/
def sys_of.l0 : Nat → List Int → Int → List Int → Int → Int → Option (Int)
 | 0, _, _, _, _, _ => none
 | k + 1, x1, x5, x11, x12, x13 => if x13 < x12 then (if 0 ≤ x13 then (if x13 < (x11.length : Int) then (if x13 < (x1.length : Int) then (sys_of.l0 k x1 (wrap64 (x5 + (wrap64 ((rd x11 x13) * (rd x1 x13))))) x11 x12 (wrap64 (x13 + 1))) else (none)) else (none)) else (none)) else (some x5)
def sys_of.f (k : Nat) (l0_0 : List Int) (a0_1 : Int) (l1 : List Int) : Option (Int) := sys_of.l0 k l1 a0_1 l0_0 (l0_0.length : Int) 0
theorem sys_of.mono_l : ∀ k, (∀ y0 y1 y2 y3 y4, LeO (sys_of.l0 k y0 y1 y2 y3 y4) (sys_of.l0 (k + 1) y0 y1 y2 y3 y4))
 | 0 => fun _ _ _ _ _ r h => by simp [sys_of.l0] at h
 | k + 1 => by
  have ih0 := sys_of.mono_l k
  ·intro y0 y1 y2 y3 y4
   unfold sys_of.l0
   repeat' first
   | (with_reducible exact ih0 _ _ _ _ _)
   | (with_reducible exact LeO.refl _)
   | (with_reducible exact LeO.none _)
   | (with_reducible refine LeO.ite ?_ ?_)
   | (with_reducible refine LeO.bind ?_ (fun _ => ?_))
   | exact ih0 _ _ _ _ _
   | exact LeO.none _
   | refine LeO.ite ?_ ?_
   | refine LeO.bind ?_ (fun _ => ?_)
theorem sys_of.mono : ∀ a0 a1 a2 k, LeO (sys_of.f k a0 a1 a2) (sys_of.f (k + 1) a0 a1 a2) := by
 intro a0 a1 a2 k
 have ih0 := sys_of.mono_l k
 unfold sys_of.f
 repeat' first
   | (with_reducible exact ih0 _ _ _ _ _)
   | (with_reducible exact LeO.refl _)
   | (with_reducible exact LeO.none _)
   | (with_reducible refine LeO.ite ?_ ?_)
   | (with_reducible refine LeO.bind ?_ (fun _ => ?_))
   | exact ih0 _ _ _ _ _
   | exact LeO.none _
   | refine LeO.ite ?_ ?_
   | refine LeO.bind ?_ (fun _ => ?_)
set_option maxHeartbeats 8000000 in
set_option maxRecDepth 100000 in
theorem sys_of.calls (k : Nat) (A0_0 : Option Addr) (c0_0 : Nat) (l0_0 : List Int) (a0_1 : Int) (A1 : Option Addr) (c1 : Nat) (l1 : List Int) (r : Int) (w : World) (hr0_0 : Kd.C (Kd.int .i64) w A0_0 l0_0.length l0_0) (hc0_0 : l0_0.length ≤ c0_0) (hr1 : Kd.C (Kd.int .i64) w A1 l1.length l1) (hc1 : l1.length ≤ c1) (h : sys_of.f k l0_0 a0_1 l1 = some r) :
  Calls Tryd.prog 45 #[.agg #[.slice A0_0 l0_0.length c0_0, .int .i64 a0_1], .slice A1 l1.length c1] w fun e w' => e = .returned (.int .i64 r) ∧ Below w.heap.size w w' := by
 have hu59 := Tryd.underlying59
 have al := mk0 hr0_0
 have az := mk0 hc0_0
 clear hr0_0 hc0_0
 have am := mk0 hr1
 have aA := mk0 hc1
 clear hr1 hc1
 have HB := mk0 (Below.refl w.heap.size w)
 have H : (sys_of.l0 k l1 a0_1 l0_0 (l0_0.length : Int) 0) = some r := h
 clear h
 have H' := mk0 H
 clear H
 go_enter Tryd.func45, Tryd.ntmps45
 go_wp2_with (first | ((with_reducible refine gate_dst (N := 2) rfl ?_); refine bxE 2 #[.slice A0_0 l0_0.length c0_0, .int .i64 a0_1] 59 ?_; intro ao hg w3 hbox hb; have ac := mk0 (hbox); have aC := gE (uL HB.out) hg; have aD := gE (uL HB.out) hg; replace HB := hbB (uL HB.out) hb; clear hb hbox hg; obtain ⟨ap, aq, ar, au⟩ := cL2 ac))
 go_loopg [5, 13] k (fun kq v5 av w' => ∃ (x5_1 : Int) (aa : Int), v5 = .int .i64 x5_1 ∧ av = .int .i64 aa ∧ Aside0 (sys_of.l0 kq l1 x5_1 l0_0 (l0_0.length : Int) aa = some r) ∧ Aside0 (kq ≤ k) ∧ Aside0 (w'.heap[ao]? = some (.cells #[(.slice A0_0 l0_0.length c0_0), .int .i64 a0_1] 59 (0, 0))) ∧ Aside0 (Below w.heap.size w w'))
 case atStart => exact ⟨(a0_1), (0), eK, eK, H', ⟨Nat.le_refl _⟩, ⟨uB ac.out⟩, ⟨bH⟩⟩
 case round =>
  clear H'; (try clear c1 ap aq ar au); obtain ⟨x5_1, aa, rfl, rfl, HA, ai, ac, HB⟩ := hrel
  cases gk with
  | zero => exact absurd HA.out (by simp [sys_of.l0])
  | succ k1 =>
   have H := HA.out; clear HA; simp only [sys_of.l0] at H
   by_cases c5 : aa < (l0_0.length : Int)
   ·rw [if_pos c5] at H
    have aw := decide_eq_true c5; clear c5
    by_cases c6 : 0 ≤ aa
    ·rw [if_pos c6] at H
     have aE := decide_eq_true c6; clear c6
     by_cases c7 : aa < (l0_0.length : Int)
     ·rw [if_pos c7] at H
      have aG := decide_eq_true c7; clear c7
      by_cases c8 : aa < (l1.length : Int)
      ·rw [if_pos c8] at H
       have aH := decide_eq_true c8; clear c8; have H' := mk0 H; clear H; have ae : 0 ≤ (aa : Int) := dY; have af : aa < (l0_0.length : Int) := dY; obtain ⟨aI, ax, aj⟩ := Kd.at_int al.out aa ae af
       cases ax
       replace aj := oC HB aj; replace ae := eq_true ae; replace af := eq_true af; have ag : 0 ≤ (aa : Int) := dY; have ah : aa < (l1.length : Int) := dY; obtain ⟨aJ, ay, ak⟩ := Kd.at_int am.out aa ag ah
       cases ay
       replace ak := oC HB ak; replace ag := eq_true ag; replace ah := eq_true ah; go_wp2
       go_roundg k1
       case measure => have := ai.out; omega
       case rel => exact ⟨(wrap64 (x5_1 + (wrap64 ((rd l0_0 aa) * (rd l1 aa))))), (wrap64 (aa + 1)), eK, eK, H', ⟨by have := ai.out; omega⟩, ⟨uB ac.out⟩, ⟨bH⟩⟩
      ·exact nO H c8
     ·exact nO H c7
    ·exact nO H c6
   ·rw [if_neg c5] at H
    have aw := decide_eq_false c5; clear c5; obtain rfl := Option.some.inj H; go_wp2; go_ret; exact ⟨rE, bH⟩

-- NOT PRINTED: function 48 (reflectlite_TypeOf)

-- NOT PRINTED: function 49 (errors_is)

-- NOT PRINTED: function 25 (errors_Is)

-- NOT PRINTED: function 50 (reflectlite_ValueOf)

-- NOT PRINTED: function 51 (reflectlite_Value_Type)

-- NOT PRINTED: function 52 (reflectlite_Value_IsNil)

-- NOT PRINTED: function 64 (reflectlite_Value_Elem)

-- NOT PRINTED: function 65 (reflectlite_Value_Set)

-- NOT PRINTED: function 53 (errors_as)

-- NOT PRINTED: function 26 (errors_As)

/-! ### lin_Form_28: function 28 -/
def lin_Form_28.f (l0 : List (S59)) : Option ((List (S59))) := (some (([] : List (S59)) : List (S59))).bind fun y108 => (if y108.length + l0.length < 4398046511104 then (some (y108 ++ l0)) else (none))
set_option maxHeartbeats 8000000 in
set_option maxRecDepth 100000 in
theorem lin_Form_28.calls (P0_ : Nat → Prop) (A0 : Option Addr) (c0 : Nat) (l0 : List (S59)) (r : List (S59)) (w : World) (hs0 : Kd.V k59 59 w w.heap.size (fun k_ => P0_ k_) (.slice A0 l0.length c0) l0) (h : lin_Form_28.f l0 = some r) :
  Calls Tryd.prog 28 #[.slice A0 l0.length c0] w fun e w' => ∃ v0_ : Value, e = .returned (v0_) ∧ Kd.N k59 59 w' w.heap.size (fun k_ => (P0_ k_ ∨ w.heap.size ≤ k_)) v0_ r ∧ Below w.heap.size w w' := by
 have ac := mk0 (show Kd.V k59 59 w w.heap.size (fun k_ => (P0_ k_ ∨ w.heap.size ≤ k_)) (.slice A0 l0.length c0) l0 from Kd.V_mono hs0 (fun k_ hk => .inl hk))
 have HB := mk0 (Below.refl w.heap.size w)
 have H : ((some (([] : List (S59)) : List (S59))).bind fun aa => (if aa.length + l0.length < 4398046511104 then (some (aa ++ l0)) else (none))) = some r := h
 clear h
 obtain ⟨aa, ae⟩ : ∃ y_ : List (S59), y_ = (([] : List (S59))) := ⟨_, rfl⟩
 replace H : (if aa.length + l0.length < 4398046511104 then (some (aa ++ l0)) else (none)) = some r := by first | (rw [ae]; with_reducible exact H) | (have H2_ := (Option.bind_some _ _).symm.trans H; rw [ae]; with_reducible exact H2_) | (have H2_ := (Option.bind_some _ _).symm.trans H; with_reducible exact H2_) | with_reducible exact H | (rw [ae]; exact H) | exact H
 have af := mk0 ae
 clear ae
 by_cases c2 : aa.length + l0.length < 4398046511104
 ·rw [if_pos c2] at H
  have ak := mk0 c2; clear c2; obtain ⟨al, ag⟩ : ∃ y_ : List (S59), y_ = (aa ++ l0) := ⟨_, rfl⟩; (replace H : (some al) = some r := by (try rw [ag]); first | with_reducible exact H | with_reducible exact oN H | exact H); have ai := mk0 ag; clear ag; obtain rfl := Option.some.inj H; (have ao : ∀ (w : World) (a : Option Addr) (n c n' c' : Nat), (binOp .eql 22 (.slice a n c) (.slice none n' c')).run Tryd.prog w = .ok (.bool a.isNone) w := fun w a n c n' c' => Lib.run_eql_slice_nil w _ _ a n c n' c' Tryd.underlying22)
  cases A0 with
  | none =>
    have hl_ : l0 = [] := List.length_eq_zero_iff.1 (by rcases Nat.eq_zero_or_pos l0.length with z_ | z_ <;> first | exact z_ | (obtain ⟨ad_, _, _, e_, _⟩ := at_T59 (Kd.V_reads' ac.out).2.2 0 (by omega) (by omega); cases e_)); subst hl_; go_enter Tryd.func28, Tryd.ntmps28; go_wp2; go_ret
    exact ⟨.slice none 0 0, rfl, (by rw [ai.out, af.out]; exact Kd.N_nil _ _ _ _ _), Below.refl _ _⟩
  | some ap =>
    go_enter Tryd.func28, Tryd.ntmps28
    go_wp2_with (first | ((with_reducible refine gate_dst (N := 5) rfl ?_); refine Kd.N_lit k59 _ 59 ?hg (N' := 5) ?hd (xs := ([] : List (S59))) (inner := []) (ok := (fun k_ => (P0_ k_ ∨ w.heap.size ≤ k_))) (okp := (fun k_ => (P0_ k_ ∨ w.heap.size ≤ k_))) ?hr ?hp (fun _ hk => hk) ((show ∀ k_, w.heap.size ≤ k_ → (fun k_ => (P0_ k_ ∨ w.heap.size ≤ k_)) k_ from fun k_ hk => (.inr (Nat.le_trans (below_size (uL HB.out)) hk))) _ (Nat.le_refl _)) (Below.refl _ _) (Nat.le_refl _) (by simp) ?_; (case hd => rfl); (case hg => rfl); (case hr => first | (go_simp; done) | (go_simp; rfl)); (case hp => exact (Reps.none _ _)); intro ah w3 ho4 hb hg_ hnew_; clear hg_ hnew_; (first | rw [← af.out] at ho4 | (simp only [Int.reduceToNat] at ho4; rw [← af.out] at ho4)); replace ac := mk0 (Kd.V_elder' (uV ac.out) (Kd.N_base ho4) hb); have aj := mk0 (Kd.N_lower ho4 (below_size (uL HB.out))); replace HB := hbB (uL HB.out) hb; clear hb ho4) | ((with_reducible refine gate_builtin (b := .append) (xs := #[.tmp 5, .tmp 6]) rfl ?_); at_builtin; refine Kd.N_append_rows k59 (w0 := w) w.heap.size rfl (.tmp 5) (.tmp 6) 22 59 (.agg #[(.slice none 0 0), (.int .i64 0)]) 32 rfl Tryd.underlying22 info59 rfl (by decide) (by omega) ah aa l0 _ _ _ (fun k_ => (P0_ k_ ∨ w.heap.size ≤ k_)) (fun k_ => ((fun k_ => (P0_ k_ ∨ w.heap.size ≤ k_))) k_ ∧ some k_ ≠ (ah : Value).ownBlock) rfl rfl ?aO ?aR (fun _ hk => hk) ?aF ?aB ?aS ?aL ?_; (case aR => exact (by skip; exact Kd.V_F (vP (ok' := (fun k_ => ((fun k_ => (P0_ k_ ∨ w.heap.size ≤ k_))) k_ ∧ some k_ ≠ (ah : Value).ownBlock)) ac))); (case aB => exact (uL HB.out)); (case aF => exact (fun k_ hk => (.inr (Nat.le_trans (below_size (uL HB.out)) hk)))); (case aO => exact (uN aj.out)); (case aS => exact (below_size (uL HB.out))); (case aL => have := ak.out; omega); intro aq w5 ho hb hg hat; rw [← ai.out] at ho; have n0_ := mk0 (Kd.V_afterv (ok := (fun k_ => (P0_ k_ ∨ w.heap.size ≤ k_))) (uV ac.out) hg hat); have n1_ := mk0 (hb); have n2_ := mk0 (ho); clear ac HB aj; have ac := n0_; have HB := n1_; have am := n2_; clear n0_ n1_ n2_; clear ho hb hg hat))
    go_ret; exact ⟨_, rE, uN am.out, uL HB.out⟩
 ·exact nO H c2

/-! ### sys_large: function 29 -/
def sys_large.f (a0 : Int) : Option (Bool) := if a0 > 1073741824 then (some true) else (some (decide (a0 < (-1073741824))))
set_option maxHeartbeats 8000000 in
set_option maxRecDepth 100000 in
theorem sys_large.calls (a0 : Int) (r : Bool) (w : World) (h : sys_large.f a0 = some r) :
  Calls Tryd.prog 29 #[.int .i64 a0] w fun e w' => e = .returned (.bool r) ∧ Drawn0 w w' := by
 have H : (if a0 > 1073741824 then (some true) else (some (decide (a0 < (-1073741824))))) = some r := h
 clear h
 by_cases c2 : a0 > 1073741824
 ·rw [if_pos c2] at H
  have c2b0 := decide_eq_true c2; clear c2; obtain rfl := Option.some.inj H; go_enter Tryd.func29, Tryd.ntmps29; go_wp2; go_ret; exact ⟨eK, by repeat (first | exact Drawn0.refl _ | apply Drawn0.step)⟩
 ·rw [if_neg c2] at H
  have c2b0 := decide_eq_false c2; clear c2; obtain rfl := Option.some.inj H; go_enter Tryd.func29, Tryd.ntmps29; go_wp2; go_ret; exact ⟨eK, by repeat (first | exact Drawn0.refl _ | apply Drawn0.step)⟩

-- NOT PRINTED: function 54 (slices_IndexFunc_int64_int64)

/-! ### num_size: function 70 -/
def num_size.f (a0 : Int) : Option (Int) := if a0 < 0 then (some (IntKind.u64.wrap (-(IntKind.u64.wrap (a0))))) else (some (IntKind.u64.wrap (a0)))
set_option maxHeartbeats 8000000 in
set_option maxRecDepth 100000 in
theorem num_size.calls (a0 : Int) (r : Int) (w : World) (h : num_size.f a0 = some r) :
  Calls Tryd.prog 70 #[.int .i64 a0] w fun e w' => e = .returned (.int .u64 r) ∧ Drawn0 w w' := by
 have H : (if a0 < 0 then (some (IntKind.u64.wrap (-(IntKind.u64.wrap (a0))))) else (some (IntKind.u64.wrap (a0)))) = some r := h
 clear h
 by_cases c2 : a0 < 0
 ·rw [if_pos c2] at H
  have c2b0 := decide_eq_true c2; clear c2; obtain rfl := Option.some.inj H; go_enter Tryd.func70, Tryd.ntmps70; go_wp2; go_ret; exact ⟨eK, by repeat (first | exact Drawn0.refl _ | apply Drawn0.step)⟩
 ·rw [if_neg c2] at H
  have c2b0 := decide_eq_false c2; clear c2; obtain rfl := Option.some.inj H; go_enter Tryd.func70, Tryd.ntmps70; go_wp2; go_ret; exact ⟨eK, by repeat (first | exact Drawn0.refl _ | apply Drawn0.step)⟩

/-! ### num_Gcd: function 69 -/
def num_Gcd.l0 : Nat → Int → Int → Option (Int)
 | 0, _, _ => none
 | k + 1, x5, x6 => if x6 > 0 then (if x6 = 0 then (none) else (num_Gcd.l0 k x6 (Int.tmod x5 x6))) else (some x5)
def num_Gcd.f (k : Nat) (a0 : Int) (a1 : Int) : Option (Int) := (num_size.f a0).bind fun t140 => ((num_size.f a1).bind fun t141 => (num_Gcd.l0 k t140 t141))
theorem num_Gcd.mono_l : ∀ k, (∀ y0 y1, LeO (num_Gcd.l0 k y0 y1) (num_Gcd.l0 (k + 1) y0 y1))
 | 0 => fun _ _ r h => by simp [num_Gcd.l0] at h
 | k + 1 => by
  have ih0 := num_Gcd.mono_l k
  ·intro y0 y1
   unfold num_Gcd.l0
   repeat' first
   | (with_reducible exact ih0 _ _)
   | (with_reducible exact LeO.refl _)
   | (with_reducible exact LeO.none _)
   | (with_reducible refine LeO.ite ?_ ?_)
   | (with_reducible refine LeO.bind ?_ (fun _ => ?_))
   | exact ih0 _ _
   | exact LeO.none _
   | refine LeO.ite ?_ ?_
   | refine LeO.bind ?_ (fun _ => ?_)
theorem num_Gcd.mono : ∀ a0 a1 k, LeO (num_Gcd.f k a0 a1) (num_Gcd.f (k + 1) a0 a1) := by
 intro a0 a1 k
 have ih0 := num_Gcd.mono_l k
 unfold num_Gcd.f
 repeat' first
   | (with_reducible exact ih0 _ _)
   | (with_reducible exact LeO.refl _)
   | (with_reducible exact LeO.none _)
   | (with_reducible refine LeO.ite ?_ ?_)
   | (with_reducible refine LeO.bind ?_ (fun _ => ?_))
   | exact ih0 _ _
   | exact LeO.none _
   | refine LeO.ite ?_ ?_
   | refine LeO.bind ?_ (fun _ => ?_)
set_option maxHeartbeats 8000000 in
set_option maxRecDepth 100000 in
theorem num_Gcd.calls (k : Nat) (a0 : Int) (a1 : Int) (r : Int) (w : World) (h : num_Gcd.f k a0 a1 = some r) :
  Calls Tryd.prog 69 #[.int .i64 a0, .int .i64 a1] w fun e w' => e = .returned (.int .u64 r) ∧ Drawn0 w w' := by
 have H : ((num_size.f a0).bind fun t140 => ((num_size.f a1).bind fun t141 => (num_Gcd.l0 k t140 t141))) = some r := h
 clear h
 replace H := Option.bind_eq_some_iff.mp H
 obtain ⟨t140, A30, H⟩ := H
 have A3 := mk0 A30
 clear A30
 replace H := Option.bind_eq_some_iff.mp H
 obtain ⟨t141, A40, H⟩ := H
 have A4 := mk0 A40
 clear A40
 have H' := mk0 H
 clear H
 go_enter Tryd.func69, Tryd.ntmps69
 go_wp2_with (first | (go_at_call 70; (with_reducible refine (num_size.calls a0 t140 _ A3.out).mono ?_); rintro e w' ⟨rfl, ⟨nd, rfl⟩⟩; (try first | exact ⟨rfl, _, World.drewN_drewN _ _ _⟩ | exact ⟨rfl, _, Eq.trans (World.drewN_drewN _ _ _) (congrArg (World.drewN _) (Nat.add_assoc _ _ _))⟩)) | (go_at_call 70; (with_reducible refine (num_size.calls a1 t141 _ A4.out).mono ?_); rintro e w' ⟨rfl, ⟨nd, rfl⟩⟩; (try first | exact ⟨rfl, _, World.drewN_drewN _ _ _⟩ | exact ⟨rfl, _, Eq.trans (World.drewN_drewN _ _ _) (congrArg (World.drewN _) (Nat.add_assoc _ _ _))⟩)))
 repeat (go_quiet (first | (go_at_call 70; (with_reducible refine (num_size.calls a0 t140 _ A3.out).mono ?_); rintro e w' ⟨rfl, ⟨nd, rfl⟩⟩; (try first | exact ⟨rfl, _, World.drewN_drewN _ _ _⟩ | exact ⟨rfl, _, Eq.trans (World.drewN_drewN _ _ _) (congrArg (World.drewN _) (Nat.add_assoc _ _ _))⟩)) | (go_at_call 70; (with_reducible refine (num_size.calls a1 t141 _ A4.out).mono ?_); rintro e w' ⟨rfl, ⟨nd, rfl⟩⟩; (try first | exact ⟨rfl, _, World.drewN_drewN _ _ _⟩ | exact ⟨rfl, _, Eq.trans (World.drewN_drewN _ _ _) (congrArg (World.drewN _) (Nat.add_assoc _ _ _))⟩))); try go_wp2_with (first | (go_at_call 70; (with_reducible refine (num_size.calls a0 t140 _ A3.out).mono ?_); rintro e w' ⟨rfl, ⟨nd, rfl⟩⟩; (try first | exact ⟨rfl, _, World.drewN_drewN _ _ _⟩ | exact ⟨rfl, _, Eq.trans (World.drewN_drewN _ _ _) (congrArg (World.drewN _) (Nat.add_assoc _ _ _))⟩)) | (go_at_call 70; (with_reducible refine (num_size.calls a1 t141 _ A4.out).mono ?_); rintro e w' ⟨rfl, ⟨nd, rfl⟩⟩; (try first | exact ⟨rfl, _, World.drewN_drewN _ _ _⟩ | exact ⟨rfl, _, Eq.trans (World.drewN_drewN _ _ _) (congrArg (World.drewN _) (Nat.add_assoc _ _ _))⟩))))
 go_loopg [5, 6] k (fun kq v5 v6 w' => ∃ (x5_1 : Int) (x6_1 : Int), v5 = .int .u64 x5_1 ∧ v6 = .int .u64 x6_1 ∧ Aside0 (num_Gcd.l0 kq x5_1 x6_1 = some r) ∧ Aside0 (kq ≤ k) ∧ Drawn0 w w')
 case atStart => exact ⟨(t140), (t141), eK, eK, H', ⟨Nat.le_refl _⟩, by repeat (first | exact Drawn0.refl _ | apply Drawn0.step)⟩
 case round =>
  clear H'; obtain ⟨x5_1, x6_1, rfl, rfl, HA, HK1, ⟨m1, rfl⟩⟩ := hrel
  cases gk with
  | zero => exact absurd HA.out (by simp [num_Gcd.l0])
  | succ k1 =>
   have H := HA.out; clear HA; simp only [num_Gcd.l0] at H
   by_cases c5 : x6_1 > 0
   ·rw [if_pos c5] at H
    have c5b0 := decide_eq_true c5; clear c5
    by_cases c6 : x6_1 = 0
    ·exact nI H c6
    ·rw [if_neg c6] at H
     have c6b0 : (x6_1 == 0) = false := beq_eq_false_iff_ne.mpr c6; have c6b1 : (x6_1 != 0) = true := bne_iff_ne.mpr c6; have H' := mk0 H; clear H; go_wp2; (repeat (go_quiet (fail); try go_wp2))
     go_roundg k1
     case measure => have := HK1.out; omega
     case rel => exact ⟨(x6_1), (Int.tmod x5_1 x6_1), eK, eK, H', ⟨by have := HK1.out; omega⟩, by repeat (first | exact Drawn0.refl _ | apply Drawn0.step)⟩
   ·rw [if_neg c5] at H
    have c5b0 := decide_eq_false c5; clear c5; obtain rfl := Option.some.inj H; go_wp2; (repeat (go_quiet (fail); try go_wp2)); go_ret; exact ⟨eK, by repeat (first | exact Drawn0.refl _ | apply Drawn0.step)⟩


/-! ### sys_gcd: function 66 -/
mutual
def sys_gcd.l0 : Nat → Int → List Int → Int → Int → Option (Int)
 | 0, _, _, _, _ => none
 | k + 1, x3, x7, x8, x9 => if x9 < x8 then (if 0 ≤ x9 then (if x9 < (x7.length : Int) then ((num_Gcd.f k (rd x7 x9) 0).bind fun t143 => (if x3 = 0 then (sys_gcd.l0 k t143 x7 x8 (wrap64 (x9 + 1))) else (if t143 > 0 then (sys_gcd.l1 k x3 t143 x7 x8 x9) else (sys_gcd.l0 k x3 x7 x8 (wrap64 (x9 + 1)))))) else (none)) else (none)) else (some x3)
def sys_gcd.l1 : Nat → Int → Int → List Int → Int → Int → Option (Int)
 | 0, _, _, _, _, _ => none
 | k + 1, x3, x6, x7, x8, x9 => if x6 > 0 then (if x6 = 0 then (none) else (sys_gcd.l1 k x6 (Int.tmod x3 x6) x7 x8 x9)) else (sys_gcd.l0 k x3 x7 x8 (wrap64 (x9 + 1)))
end
def sys_gcd.f (k : Nat) (l0 : List Int) : Option (Int) := sys_gcd.l0 k 0 l0 (l0.length : Int) 0
theorem sys_gcd.mono_l : ∀ k, (∀ y0 y1 y2 y3, LeO (sys_gcd.l0 k y0 y1 y2 y3) (sys_gcd.l0 (k + 1) y0 y1 y2 y3)) ∧ (∀ y0 y1 y2 y3 y4, LeO (sys_gcd.l1 k y0 y1 y2 y3 y4) (sys_gcd.l1 (k + 1) y0 y1 y2 y3 y4))
 | 0 => by refine ⟨?_, ?_⟩ <;> intros <;> exact fun r h => by simp [sys_gcd.l0, sys_gcd.l1] at h
 | k + 1 => by
  obtain ⟨i0_, i1_⟩ := sys_gcd.mono_l k; have m0_ := @num_Gcd.mono; refine ⟨?_, ?_⟩ <;> intros
  ·unfold sys_gcd.l0; exact lO_
  ·unfold sys_gcd.l1; exact lO_
theorem sys_gcd.mono : ∀ a0 k, LeO (sys_gcd.f k a0) (sys_gcd.f (k + 1) a0) := by
 intro a0 k
 obtain ⟨i0_, i1_⟩ := sys_gcd.mono_l k; have m0_ := @num_Gcd.mono; unfold sys_gcd.f; exact lO_
set_option maxHeartbeats 8000000 in
set_option maxRecDepth 100000 in
theorem sys_gcd.calls (k : Nat) (A0 : Option Addr) (c0 : Nat) (l0 : List Int) (r : Int) (w : World) (hr0 : Kd.C (Kd.int .i64) w A0 l0.length l0) (hc0 : l0.length ≤ c0) (h : sys_gcd.f k l0 = some r) :
  Calls Tryd.prog 66 #[.slice A0 l0.length c0] w fun e w' => e = .returned (.int .u64 r) ∧ Drawn0 w w' := by
 have ai := mk0 hr0
 have av := mk0 hc0
 clear hr0 hc0
 have H : (sys_gcd.l0 k 0 l0 (l0.length : Int) 0) = some r := h
 clear h
 have H' := mk0 H
 clear H
 go_enter Tryd.func66, Tryd.ntmps66
 go_wp2
 repeat (go_quiet (fail); try go_wp2)
 go_loopg [3, 9] k (fun kq v3 v9 w' => ∃ (x3_1 : Int) (x9_1 : Int), v3 = .int .u64 x3_1 ∧ v9 = .int .i64 x9_1 ∧ Aside0 (sys_gcd.l0 kq x3_1 l0 (l0.length : Int) x9_1 = some r) ∧ Aside0 (kq ≤ k) ∧ Drawn0 w w')
 case atStart => exact ⟨(0), (0), eK, eK, H', ⟨Nat.le_refl _⟩, by repeat (first | exact Drawn0.refl _ | apply Drawn0.step)⟩
 case round =>
  clear H'; obtain ⟨x3_1, x9_1, rfl, rfl, HA, af, ⟨m1, rfl⟩⟩ := hrel
  cases gk with
  | zero => exact absurd HA.out (by simp [sys_gcd.l0])
  | succ k1 =>
   have H := HA.out; clear HA; simp only [sys_gcd.l0] at H
   by_cases c2 : x9_1 < (l0.length : Int)
   ·rw [if_pos c2] at H
    have ak := decide_eq_true c2; clear c2
    by_cases c3 : 0 ≤ x9_1
    ·rw [if_pos c3] at H
     have aq := decide_eq_true c3; clear c3
     by_cases c4 : x9_1 < (l0.length : Int)
     ·rw [if_pos c4] at H
      have ar := decide_eq_true c4; clear c4; obtain ⟨aa, A5, H⟩ := oB H
      by_cases c6 : x3_1 = 0
      ·rw [if_pos c6] at H
       have al : (x3_1 == 0) = true := beq_iff_eq.mpr c6; have am : (x3_1 != 0) = false := bne_eq_false_iff_eq.mpr c6; clear c6; have H' := mk0 H; clear H; have ac : 0 ≤ (x9_1 : Int) := dY; have ae : x9_1 < (l0.length : Int) := dY; obtain ⟨ao, ag, aj⟩ := Kd.at_int ai.out x9_1 ac ae
       cases ag
       replace ac := eq_true ac; replace ae := eq_true ae
       go_wp2_with (first | (go_at_call 69; (with_reducible refine (num_Gcd.calls k1 (rd l0 x9_1) 0 aa _ A5.out).mono ?_); rintro e w' ⟨rfl, ⟨nd, rfl⟩⟩; (try first | exact ⟨rfl, _, World.drewN_drewN _ _ _⟩ | exact ⟨rfl, _, Eq.trans (World.drewN_drewN _ _ _) (congrArg (World.drewN _) (Nat.add_assoc _ _ _))⟩)))
       (repeat (go_quiet (first | (go_at_call 69; (with_reducible refine (num_Gcd.calls k1 (rd l0 x9_1) 0 aa _ A5.out).mono ?_); rintro e w' ⟨rfl, ⟨nd, rfl⟩⟩; (try first | exact ⟨rfl, _, World.drewN_drewN _ _ _⟩ | exact ⟨rfl, _, Eq.trans (World.drewN_drewN _ _ _) (congrArg (World.drewN _) (Nat.add_assoc _ _ _))⟩))); try go_wp2_with (first | (go_at_call 69; (with_reducible refine (num_Gcd.calls k1 (rd l0 x9_1) 0 aa _ A5.out).mono ?_); rintro e w' ⟨rfl, ⟨nd, rfl⟩⟩; (try first | exact ⟨rfl, _, World.drewN_drewN _ _ _⟩ | exact ⟨rfl, _, Eq.trans (World.drewN_drewN _ _ _) (congrArg (World.drewN _) (Nat.add_assoc _ _ _))⟩)))))
       go_roundg k1
       case measure => have := af.out; omega
       case rel => exact ⟨(aa), (wrap64 (x9_1 + 1)), eK, eK, H', ⟨by have := af.out; omega⟩, by repeat (first | exact Drawn0.refl _ | apply Drawn0.step)⟩
      ·rw [if_neg c6] at H
       have al : (x3_1 == 0) = false := beq_eq_false_iff_ne.mpr c6; have am : (x3_1 != 0) = true := bne_iff_ne.mpr c6
       by_cases c7 : aa > 0
       ·rw [if_pos c7] at H
        have ap := decide_eq_true c7; clear c7; have H' := mk0 H; clear H; have ac : 0 ≤ (x9_1 : Int) := dY; have ae : x9_1 < (l0.length : Int) := dY; obtain ⟨ao, ag, aj⟩ := Kd.at_int ai.out x9_1 ac ae
        cases ag
        replace ac := eq_true ac; replace ae := eq_true ae
        go_wp2_with (first | (go_at_call 69; (with_reducible refine (num_Gcd.calls k1 (rd l0 x9_1) 0 aa _ A5.out).mono ?_); rintro e w' ⟨rfl, ⟨nd, rfl⟩⟩; (try first | exact ⟨rfl, _, World.drewN_drewN _ _ _⟩ | exact ⟨rfl, _, Eq.trans (World.drewN_drewN _ _ _) (congrArg (World.drewN _) (Nat.add_assoc _ _ _))⟩)))
        (repeat (go_quiet (first | (go_at_call 69; (with_reducible refine (num_Gcd.calls k1 (rd l0 x9_1) 0 aa _ A5.out).mono ?_); rintro e w' ⟨rfl, ⟨nd, rfl⟩⟩; (try first | exact ⟨rfl, _, World.drewN_drewN _ _ _⟩ | exact ⟨rfl, _, Eq.trans (World.drewN_drewN _ _ _) (congrArg (World.drewN _) (Nat.add_assoc _ _ _))⟩))); try go_wp2_with (first | (go_at_call 69; (with_reducible refine (num_Gcd.calls k1 (rd l0 x9_1) 0 aa _ A5.out).mono ?_); rintro e w' ⟨rfl, ⟨nd, rfl⟩⟩; (try first | exact ⟨rfl, _, World.drewN_drewN _ _ _⟩ | exact ⟨rfl, _, Eq.trans (World.drewN_drewN _ _ _) (congrArg (World.drewN _) (Nat.add_assoc _ _ _))⟩)))))
        go_loopg [3, 6] k1 (fun kq v3 v6 w' => ∃ (x3_2 : Int) (x6_2 : Int), v3 = .int .u64 x3_2 ∧ v6 = .int .u64 x6_2 ∧ Aside0 (sys_gcd.l1 kq x3_2 x6_2 l0 (l0.length : Int) x9_1 = some r) ∧ Aside0 (kq ≤ k1) ∧ Drawn0 w w')
        case atStart => exact ⟨(x3_1), (aa), eK, eK, H', ⟨Nat.le_refl _⟩, by repeat (first | exact Drawn0.refl _ | apply Drawn0.step)⟩
        case round =>
         clear H'; (try clear c2 ak c3 aq c4 ar c6 al am c7 ap aj ac ae); obtain ⟨x3_2, x6_2, rfl, rfl, HA, ah, ⟨m2, rfl⟩⟩ := hrel
         cases gk with
         | zero => exact absurd HA.out (by simp [sys_gcd.l1])
         | succ k2 =>
          have H := HA.out; clear HA; simp only [sys_gcd.l1] at H
          by_cases c8 : x6_2 > 0
          ·rw [if_pos c8] at H
           have au := decide_eq_true c8; clear c8
           by_cases c9 : x6_2 = 0
           ·exact nI H c9
           ·rw [if_neg c9] at H
            have aw : (x6_2 == 0) = false := beq_eq_false_iff_ne.mpr c9; have ax : (x6_2 != 0) = true := bne_iff_ne.mpr c9; have H' := mk0 H; clear H; go_wp2; (repeat (go_quiet (fail); try go_wp2))
            go_roundg k2
            case measure => have := af.out; have := ah.out; omega
            case rel => exact ⟨(x6_2), (Int.tmod x3_2 x6_2), eK, eK, H', ⟨by have := af.out; have := ah.out; omega⟩, by repeat (first | exact Drawn0.refl _ | apply Drawn0.step)⟩
          ·rw [if_neg c8] at H
           have au := decide_eq_false c8; clear c8; have H' := mk0 H; clear H; go_wp2; (repeat (go_quiet (fail); try go_wp2))
           go_roundg k2
           case measure => have := af.out; have := ah.out; omega
           case rel => exact ⟨(x3_2), (wrap64 (x9_1 + 1)), eK, eK, H', ⟨by have := af.out; have := ah.out; omega⟩, by repeat (first | exact Drawn0.refl _ | apply Drawn0.step)⟩
       ·rw [if_neg c7] at H
        have ap := decide_eq_false c7; clear c7; have H' := mk0 H; clear H; have ac : 0 ≤ (x9_1 : Int) := dY; have ae : x9_1 < (l0.length : Int) := dY; obtain ⟨ao, ag, aj⟩ := Kd.at_int ai.out x9_1 ac ae
        cases ag
        replace ac := eq_true ac; replace ae := eq_true ae
        go_wp2_with (first | (go_at_call 69; (with_reducible refine (num_Gcd.calls k1 (rd l0 x9_1) 0 aa _ A5.out).mono ?_); rintro e w' ⟨rfl, ⟨nd, rfl⟩⟩; (try first | exact ⟨rfl, _, World.drewN_drewN _ _ _⟩ | exact ⟨rfl, _, Eq.trans (World.drewN_drewN _ _ _) (congrArg (World.drewN _) (Nat.add_assoc _ _ _))⟩)))
        (repeat (go_quiet (first | (go_at_call 69; (with_reducible refine (num_Gcd.calls k1 (rd l0 x9_1) 0 aa _ A5.out).mono ?_); rintro e w' ⟨rfl, ⟨nd, rfl⟩⟩; (try first | exact ⟨rfl, _, World.drewN_drewN _ _ _⟩ | exact ⟨rfl, _, Eq.trans (World.drewN_drewN _ _ _) (congrArg (World.drewN _) (Nat.add_assoc _ _ _))⟩))); try go_wp2_with (first | (go_at_call 69; (with_reducible refine (num_Gcd.calls k1 (rd l0 x9_1) 0 aa _ A5.out).mono ?_); rintro e w' ⟨rfl, ⟨nd, rfl⟩⟩; (try first | exact ⟨rfl, _, World.drewN_drewN _ _ _⟩ | exact ⟨rfl, _, Eq.trans (World.drewN_drewN _ _ _) (congrArg (World.drewN _) (Nat.add_assoc _ _ _))⟩)))))
        go_roundg k1
        case measure => have := af.out; omega
        case rel => exact ⟨(x3_1), (wrap64 (x9_1 + 1)), eK, eK, H', ⟨by have := af.out; omega⟩, by repeat (first | exact Drawn0.refl _ | apply Drawn0.step)⟩
     ·exact nO H c4
    ·exact nO H c3
   ·rw [if_neg c2] at H
    have ak := decide_eq_false c2; clear c2; obtain rfl := Option.some.inj H; go_wp2; (repeat (go_quiet (fail); try go_wp2)); go_ret; exact ⟨eK, by repeat (first | exact Drawn0.refl _ | apply Drawn0.step)⟩

end Go.Proofs.YtkkpgjkjkcmcbaaDoor.X
