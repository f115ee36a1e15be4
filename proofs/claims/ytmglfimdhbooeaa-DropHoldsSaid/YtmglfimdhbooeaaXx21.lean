-- PRINTED by print.py (a twelfth state) out of the translation. Not trusted: Lean checks it.
import Derived.Test.YtmglfimdhbooeaaXx0
namespace Go.Proofs.Ytmglfimdhbooeaa.X
open Go.Proofs.Ytmglfimdhbooeaa.Flt Go.Proofs.Ytmglfimdhbooeaa.H Go.RowKit Go.Proofs.YtmglfimdhbooeaaW.PrintWords Go.Proofs.YtmglfimdhbooeaaW.PrintLast Go.Proofs.YtmglfimdhbooeaaW.PrintMore
attribute [local go_sem] max2_int min2_int max_two min_two max_three min_three max_four min_four   -- for this text's walks alone
set_option linter.unusedVariables false
set_option linter.unusedSimpArgs false

/-! ### furrowlaw16_tame: function 15 -/
mutual
def furrowlaw16_tame.l0 : Nat → List (S45) → Int → Option (Bool)
 | 0, _, _ => none
 | k + 1, x0, x3 => if x3 < (x0.length : Int) then (furrowlaw16_tame.l1 k x0 x3 0) else (some true)
def furrowlaw16_tame.l1 : Nat → List (S45) → Int → Int → Option (Bool)
 | 0, _, _, _ => none
 | k + 1, x0, x3, x4 => if 0 ≤ x3 then (if x3 < (x0.length : Int) then (if x4 < (((rd_T45 x0 x3).f0).length : Int) then (if 0 ≤ x4 then (if (rd ((rd_T45 x0 x3).f0) x4) > 1000 then (some false) else (if (rd ((rd_T45 x0 x3).f0) x4) < (-1000) then (some false) else (furrowlaw16_tame.l1 k x0 x3 (wrap64 (x4 + 1))))) else (none)) else (furrowlaw16_tame.l0 k x0 (wrap64 (x3 + 1)))) else (none)) else (none)
end
def furrowlaw16_tame.f (k : Nat) (l0 : List (S45)) : Option (Bool) := furrowlaw16_tame.l0 k l0 0
theorem furrowlaw16_tame.mono_l : ∀ k, (∀ y0 y1, LeO (furrowlaw16_tame.l0 k y0 y1) (furrowlaw16_tame.l0 (k + 1) y0 y1)) ∧ (∀ y0 y1 y2, LeO (furrowlaw16_tame.l1 k y0 y1 y2) (furrowlaw16_tame.l1 (k + 1) y0 y1 y2))
 | 0 => ⟨fun _ _ r h => by simp [furrowlaw16_tame.l0] at h, fun _ _ _ r h => by simp [furrowlaw16_tame.l1] at h⟩
 | k + 1 => by
  obtain ⟨ih0, ih1⟩ := furrowlaw16_tame.mono_l k; refine ⟨?_, ?_⟩
  ·intro y0 y1
   unfold furrowlaw16_tame.l0
   repeat' first
   | (with_reducible exact ih0 _ _)
   | (with_reducible exact ih1 _ _ _)
   | (with_reducible exact LeO.refl _)
   | (with_reducible exact LeO.none _)
   | (with_reducible refine LeO.ite ?_ ?_)
   | (with_reducible refine LeO.bind ?_ (fun _ => ?_))
   | exact ih0 _ _
   | exact ih1 _ _ _
   | exact LeO.none _
   | refine LeO.ite ?_ ?_
   | refine LeO.bind ?_ (fun _ => ?_)
  ·intro y0 y1 y2
   unfold furrowlaw16_tame.l1
   repeat' first
   | (with_reducible exact ih0 _ _)
   | (with_reducible exact ih1 _ _ _)
   | (with_reducible exact LeO.refl _)
   | (with_reducible exact LeO.none _)
   | (with_reducible refine LeO.ite ?_ ?_)
   | (with_reducible refine LeO.bind ?_ (fun _ => ?_))
   | exact ih0 _ _
   | exact ih1 _ _ _
   | exact LeO.none _
   | refine LeO.ite ?_ ?_
   | refine LeO.bind ?_ (fun _ => ?_)
theorem furrowlaw16_tame.mono : ∀ a0 k, LeO (furrowlaw16_tame.f k a0) (furrowlaw16_tame.f (k + 1) a0) := by
 intro a0 k
 obtain ⟨ih0, ih1⟩ := furrowlaw16_tame.mono_l k
 unfold furrowlaw16_tame.f
 repeat' first
   | (with_reducible exact ih0 _ _)
   | (with_reducible exact ih1 _ _ _)
   | (with_reducible exact LeO.refl _)
   | (with_reducible exact LeO.none _)
   | (with_reducible refine LeO.ite ?_ ?_)
   | (with_reducible refine LeO.bind ?_ (fun _ => ?_))
   | exact ih0 _ _
   | exact ih1 _ _ _
   | exact LeO.none _
   | refine LeO.ite ?_ ?_
   | refine LeO.bind ?_ (fun _ => ?_)
set_option maxHeartbeats 8000000 in
set_option maxRecDepth 100000 in
theorem furrowlaw16_tame.calls (k : Nat) (A0 : Option Addr) (c0 : Nat) (l0 : List (S45)) (r : Bool) (w : World) (hr0 : Kd.C k45 w A0 l0.length l0) (hc0 : l0.length ≤ c0) (h : furrowlaw16_tame.f k l0 = some r) :
  Calls Try.prog 15 #[.slice A0 l0.length c0] w fun e w' => e = .returned (.bool r) ∧ Drawn0 w w' := by
 have HR0 := mk0 hr0
 have HC0 := mk0 hc0
 clear hr0 hc0
 have H : (furrowlaw16_tame.l0 k l0 0) = some r := h
 clear h
 have H' := mk0 H
 clear H
 go_enter Try.func15, Try.ntmps15
 go_wp2
 go_loopg [3] k (fun kq v3 w' => ∃ (x3_1 : Int), v3 = .int .i64 x3_1 ∧ Aside0 (furrowlaw16_tame.l0 kq l0 x3_1 = some r) ∧ Aside0 (kq ≤ k) ∧ Drawn0 w w')
 case atStart => exact ⟨(0), (by first | rfl | (simp; done) | (simp [*]; done) | (simp [bne_nil_, beq_nil_]; done)), H', ⟨Nat.le_refl _⟩, by repeat (first | exact Drawn0.refl _ | apply Drawn0.step)⟩
 case round =>
  clear H'; obtain ⟨x3_1, rfl, HA, HK1, ⟨m1, rfl⟩⟩ := hrel
  cases gk with
  | zero => exact absurd HA.out (by simp [furrowlaw16_tame.l0])
  | succ k1 =>
   have H := HA.out; clear HA; simp only [furrowlaw16_tame.l0] at H
   by_cases c2 : x3_1 < (l0.length : Int)
   ·rw [if_pos c2] at H
    have c2b0 : decide (x3_1 < (l0.length : Int)) = true := decide_eq_true c2; clear c2; have H' := mk0 H; clear H; go_wp2
    go_loopg [4] k1 (fun kq v4 w' => ∃ (x4_2 : Int), v4 = .int .i64 x4_2 ∧ Aside0 (furrowlaw16_tame.l1 kq l0 x3_1 x4_2 = some r) ∧ Aside0 (kq ≤ k1) ∧ Drawn0 w w')
    case atStart => exact ⟨(0), (by first | rfl | (simp; done) | (simp [*]; done) | (simp [bne_nil_, beq_nil_]; done)), H', ⟨Nat.le_refl _⟩, by repeat (first | exact Drawn0.refl _ | apply Drawn0.step)⟩
    case round =>
     clear H'; (try clear c2); (try clear c2b0); obtain ⟨x4_2, rfl, HA, HK2, ⟨m2, rfl⟩⟩ := hrel
     cases gk with
     | zero => exact absurd HA.out (by simp [furrowlaw16_tame.l1])
     | succ k2 =>
      have H := HA.out; clear HA; simp only [furrowlaw16_tame.l1] at H
      by_cases c3 : 0 ≤ x3_1
      ·rw [if_pos c3] at H
       have c3b0 : decide (0 ≤ x3_1) = true := decide_eq_true c3; clear c3
       by_cases c4 : x3_1 < (l0.length : Int)
       ·rw [if_pos c4] at H
        have c4b0 : decide (x3_1 < (l0.length : Int)) = true := decide_eq_true c4; clear c4
        by_cases c5 : x4_2 < (((rd_T45 l0 x3_1).f0).length : Int)
        ·rw [if_pos c5] at H
         have c5b0 : decide (x4_2 < (((rd_T45 l0 x3_1).f0).length : Int)) = true := decide_eq_true c5; clear c5
         by_cases c6 : 0 ≤ x4_2
         ·rw [if_pos c6] at H
          have c6b0 : decide (0 ≤ x4_2) = true := decide_eq_true c6; clear c6
          by_cases c7 : (rd ((rd_T45 l0 x3_1).f0) x4_2) > 1000
          ·rw [if_pos c7] at H
           have c7b0 : decide (1000 < (rd ((rd_T45 l0 x3_1).f0) x4_2)) = true := decide_eq_true c7; clear c7; obtain rfl := Option.some.inj H; have p711 : 0 ≤ (x3_1 : Int) := dY; have q711 : x3_1 < (l0.length : Int) := dY; obtain ⟨ad711, A711_0, c711_0, e711, hx711_0, hx711_1, hl711_0, hi711_0⟩ := at_T45 HR0.out x3_1 p711 q711
           cases e711
           have HR711_0 := mk0 hi711_0; have HC711_0 := mk0 hl711_0; clear hi711_0 hl711_0; replace p711 := eq_true p711; replace q711 := eq_true q711; have p712 : 0 ≤ (x3_1 : Int) := dY; have q712 : x3_1 < (l0.length : Int) := dY; obtain ⟨ad712, A712_0, c712_0, e712, hx712_0, hx712_1, hl712_0, hi712_0⟩ := at_T45 HR0.out x3_1 p712 q712; obtain rfl : ad711 = ad712 := (by injection e712); have HR712_0 := mk0 hi712_0; have HC712_0 := mk0 hl712_0; clear hi712_0 hl712_0; replace p712 := eq_true p712; replace q712 := eq_true q712; have ea_ := Option.some.inj (hx711_0.symm.trans hx712_0); injection ea_ with ea_ en_ ec_; subst ea_; subst ec_; clear en_; have p713 : 0 ≤ (x4_2 : Int) := dY; have q713 : x4_2 < (((rd_T45 l0 x3_1).f0).length : Int) := dY; obtain ⟨ad713, e713, hx713_0⟩ := Kd.at_int HR712_0.out x4_2 p713 q713
           cases e713
           replace p713 := eq_true p713; replace q713 := eq_true q713; go_wp2; go_ret; exact ⟨by first | rfl | (simp; done) | (simp [*]; done) | (simp [bne_nil_, beq_nil_]; done), by repeat (first | exact Drawn0.refl _ | apply Drawn0.step)⟩
          ·rw [if_neg c7] at H
           have c7b0 : decide (1000 < (rd ((rd_T45 l0 x3_1).f0) x4_2)) = false := decide_eq_false c7; clear c7
           by_cases c8 : (rd ((rd_T45 l0 x3_1).f0) x4_2) < (-1000)
           ·rw [if_pos c8] at H
            have c8b0 : decide ((rd ((rd_T45 l0 x3_1).f0) x4_2) < (-1000)) = true := decide_eq_true c8; clear c8; obtain rfl := Option.some.inj H; have p711 : 0 ≤ (x3_1 : Int) := dY; have q711 : x3_1 < (l0.length : Int) := dY; obtain ⟨ad711, A711_0, c711_0, e711, hx711_0, hx711_1, hl711_0, hi711_0⟩ := at_T45 HR0.out x3_1 p711 q711
            cases e711
            have HR711_0 := mk0 hi711_0; have HC711_0 := mk0 hl711_0; clear hi711_0 hl711_0; replace p711 := eq_true p711; replace q711 := eq_true q711; have p712 : 0 ≤ (x3_1 : Int) := dY; have q712 : x3_1 < (l0.length : Int) := dY; obtain ⟨ad712, A712_0, c712_0, e712, hx712_0, hx712_1, hl712_0, hi712_0⟩ := at_T45 HR0.out x3_1 p712 q712; obtain rfl : ad711 = ad712 := (by injection e712); have HR712_0 := mk0 hi712_0; have HC712_0 := mk0 hl712_0; clear hi712_0 hl712_0; replace p712 := eq_true p712; replace q712 := eq_true q712; have ea_ := Option.some.inj (hx711_0.symm.trans hx712_0); injection ea_ with ea_ en_ ec_; subst ea_; subst ec_; clear en_; have p713 : 0 ≤ (x4_2 : Int) := dY; have q713 : x4_2 < (((rd_T45 l0 x3_1).f0).length : Int) := dY; obtain ⟨ad713, e713, hx713_0⟩ := Kd.at_int HR712_0.out x4_2 p713 q713
            cases e713
            replace p713 := eq_true p713; replace q713 := eq_true q713; have p714 : 0 ≤ (x3_1 : Int) := dY; have q714 : x3_1 < (l0.length : Int) := dY; obtain ⟨ad714, A714_0, c714_0, e714, hx714_0, hx714_1, hl714_0, hi714_0⟩ := at_T45 HR0.out x3_1 p714 q714; obtain rfl : ad711 = ad714 := (by injection e714); have HR714_0 := mk0 hi714_0; have HC714_0 := mk0 hl714_0; clear hi714_0 hl714_0; replace p714 := eq_true p714; replace q714 := eq_true q714; have ea_ := Option.some.inj (hx711_0.symm.trans hx714_0); injection ea_ with ea_ en_ ec_; subst ea_; subst ec_; clear en_; have p715 : 0 ≤ (x4_2 : Int) := dY; have q715 : x4_2 < (((rd_T45 l0 x3_1).f0).length : Int) := dY; obtain ⟨ad715, e715, hx715_0⟩ := Kd.at_int HR714_0.out x4_2 p715 q715
            cases e715
            replace p715 := eq_true p715; replace q715 := eq_true q715; go_wp2; go_ret; exact ⟨by first | rfl | (simp; done) | (simp [*]; done) | (simp [bne_nil_, beq_nil_]; done), by repeat (first | exact Drawn0.refl _ | apply Drawn0.step)⟩
           ·rw [if_neg c8] at H
            have c8b0 : decide ((rd ((rd_T45 l0 x3_1).f0) x4_2) < (-1000)) = false := decide_eq_false c8; clear c8; have H' := mk0 H; clear H; have p711 : 0 ≤ (x3_1 : Int) := dY; have q711 : x3_1 < (l0.length : Int) := dY; obtain ⟨ad711, A711_0, c711_0, e711, hx711_0, hx711_1, hl711_0, hi711_0⟩ := at_T45 HR0.out x3_1 p711 q711
            cases e711
            have HR711_0 := mk0 hi711_0; have HC711_0 := mk0 hl711_0; clear hi711_0 hl711_0; replace p711 := eq_true p711; replace q711 := eq_true q711; have p712 : 0 ≤ (x3_1 : Int) := dY; have q712 : x3_1 < (l0.length : Int) := dY; obtain ⟨ad712, A712_0, c712_0, e712, hx712_0, hx712_1, hl712_0, hi712_0⟩ := at_T45 HR0.out x3_1 p712 q712; obtain rfl : ad711 = ad712 := (by injection e712); have HR712_0 := mk0 hi712_0; have HC712_0 := mk0 hl712_0; clear hi712_0 hl712_0; replace p712 := eq_true p712; replace q712 := eq_true q712; have ea_ := Option.some.inj (hx711_0.symm.trans hx712_0); injection ea_ with ea_ en_ ec_; subst ea_; subst ec_; clear en_; have p713 : 0 ≤ (x4_2 : Int) := dY; have q713 : x4_2 < (((rd_T45 l0 x3_1).f0).length : Int) := dY; obtain ⟨ad713, e713, hx713_0⟩ := Kd.at_int HR712_0.out x4_2 p713 q713
            cases e713
            replace p713 := eq_true p713; replace q713 := eq_true q713; have p714 : 0 ≤ (x3_1 : Int) := dY; have q714 : x3_1 < (l0.length : Int) := dY; obtain ⟨ad714, A714_0, c714_0, e714, hx714_0, hx714_1, hl714_0, hi714_0⟩ := at_T45 HR0.out x3_1 p714 q714; obtain rfl : ad711 = ad714 := (by injection e714); have HR714_0 := mk0 hi714_0; have HC714_0 := mk0 hl714_0; clear hi714_0 hl714_0; replace p714 := eq_true p714; replace q714 := eq_true q714; have ea_ := Option.some.inj (hx711_0.symm.trans hx714_0); injection ea_ with ea_ en_ ec_; subst ea_; subst ec_; clear en_; have p715 : 0 ≤ (x4_2 : Int) := dY; have q715 : x4_2 < (((rd_T45 l0 x3_1).f0).length : Int) := dY; obtain ⟨ad715, e715, hx715_0⟩ := Kd.at_int HR714_0.out x4_2 p715 q715
            cases e715
            replace p715 := eq_true p715; replace q715 := eq_true q715; go_wp2
            go_roundg k2
            case measure => have := HK1.out; have := HK2.out; omega
            case rel => exact ⟨(wrap64 (x4_2 + 1)), (by first | rfl | (simp; done) | (simp [*]; done) | (simp [bne_nil_, beq_nil_]; done)), H', ⟨by have := HK1.out; have := HK2.out; omega⟩, by repeat (first | exact Drawn0.refl _ | apply Drawn0.step)⟩
         ·rw [if_neg c6] at H
          exact absurd H (by simp)
        ·rw [if_neg c5] at H
         have c5b0 : decide (x4_2 < (((rd_T45 l0 x3_1).f0).length : Int)) = false := decide_eq_false c5; clear c5; have H' := mk0 H; clear H; have p711 : 0 ≤ (x3_1 : Int) := dY; have q711 : x3_1 < (l0.length : Int) := dY; obtain ⟨ad711, A711_0, c711_0, e711, hx711_0, hx711_1, hl711_0, hi711_0⟩ := at_T45 HR0.out x3_1 p711 q711
         cases e711
         have HR711_0 := mk0 hi711_0; have HC711_0 := mk0 hl711_0; clear hi711_0 hl711_0; replace p711 := eq_true p711; replace q711 := eq_true q711; go_wp2
         go_roundg k2
         case measure => have := HK1.out; have := HK2.out; omega
         case rel => exact ⟨(wrap64 (x3_1 + 1)), (by first | rfl | (simp; done) | (simp [*]; done) | (simp [bne_nil_, beq_nil_]; done)), H', ⟨by have := HK1.out; have := HK2.out; omega⟩, by repeat (first | exact Drawn0.refl _ | apply Drawn0.step)⟩
       ·rw [if_neg c4] at H
        exact absurd H (by simp)
      ·rw [if_neg c3] at H
       exact absurd H (by simp)
   ·rw [if_neg c2] at H
    have c2b0 : decide (x3_1 < (l0.length : Int)) = false := decide_eq_false c2; clear c2; obtain rfl := Option.some.inj H; go_wp2; go_ret; exact ⟨by first | rfl | (simp; done) | (simp [*]; done) | (simp [bne_nil_, beq_nil_]; done), by repeat (first | exact Drawn0.refl _ | apply Drawn0.step)⟩

/-! ### furrowref20_value: function 29 -/
def furrowref20_value.l0 : Nat → List Int → Int → Int → List Int → Int → Option (Int)
 | 0, _, _, _, _, _ => none
 | k + 1, x1, x5, x6, x717000, x717001 => if x6 < (x1.length : Int) then (if x6 < (x717000.length : Int) then (if 0 ≤ x6 then (furrowref20_value.l0 k x1 (wrap64 (x5 + (wrap64 ((rd x717000 x6) * (rd x1 x6))))) (wrap64 (x6 + 1)) x717000 x717001) else (none)) else (some x5)) else (some x5)
def furrowref20_value.f (k : Nat) (l0_0 : List Int) (a0_1 : Int) (l1 : List Int) : Option (Int) := furrowref20_value.l0 k l1 a0_1 0 l0_0 a0_1
theorem furrowref20_value.mono_l : ∀ k, (∀ y0 y1 y2 y3 y4, LeO (furrowref20_value.l0 k y0 y1 y2 y3 y4) (furrowref20_value.l0 (k + 1) y0 y1 y2 y3 y4))
 | 0 => fun _ _ _ _ _ r h => by simp [furrowref20_value.l0] at h
 | k + 1 => by
  have ih0 := furrowref20_value.mono_l k
  ·intro y0 y1 y2 y3 y4
   unfold furrowref20_value.l0
   repeat' first
   | (with_reducible exact ih0 _ _ _ _ _)
   | (with_reducible exact LeO.refl _)
   | (with_reducible exact LeO.none _)
   | (with_reducible refine LeO.ite ?_ ?_)
   | (with_reducible refine LeO.bind ?_ (fun _ => ?_))
   | exact ih0 _ _ _ _ _
   | exact LeO.none _
   | refine LeO.ite ?_ ?_
   | refine LeO.bind ?_ (fun _ => ?_)
theorem furrowref20_value.mono : ∀ a0 a1 a2 k, LeO (furrowref20_value.f k a0 a1 a2) (furrowref20_value.f (k + 1) a0 a1 a2) := by
 intro a0 a1 a2 k
 have ih0 := furrowref20_value.mono_l k
 unfold furrowref20_value.f
 repeat' first
   | (with_reducible exact ih0 _ _ _ _ _)
   | (with_reducible exact LeO.refl _)
   | (with_reducible exact LeO.none _)
   | (with_reducible refine LeO.ite ?_ ?_)
   | (with_reducible refine LeO.bind ?_ (fun _ => ?_))
   | exact ih0 _ _ _ _ _
   | exact LeO.none _
   | refine LeO.ite ?_ ?_
   | refine LeO.bind ?_ (fun _ => ?_)
set_option maxHeartbeats 8000000 in
set_option maxRecDepth 100000 in
theorem furrowref20_value.calls (k : Nat) (A0_0 : Option Addr) (c0_0 : Nat) (l0_0 : List Int) (a0_1 : Int) (A1 : Option Addr) (c1 : Nat) (l1 : List Int) (r : Int) (w : World) (hr0_0 : Kd.C (Kd.int .i64) w A0_0 l0_0.length l0_0) (hc0_0 : l0_0.length ≤ c0_0) (hr1 : Kd.C (Kd.int .i64) w A1 l1.length l1) (hc1 : l1.length ≤ c1) (h : furrowref20_value.f k l0_0 a0_1 l1 = some r) :
  Calls Try.prog 29 #[.agg #[.slice A0_0 l0_0.length c0_0, .int .i64 a0_1], .slice A1 l1.length c1] w fun e w' => e = .returned (.int .i64 r) ∧ Below w.heap.size w w' := by
 have hu50 := Try.underlying50
 have HR0_0 := mk0 hr0_0
 have HC0_0 := mk0 hc0_0
 clear hr0_0 hc0_0
 have HR1 := mk0 hr1
 have HC1 := mk0 hc1
 clear hr1 hc1
 have HB := mk0 (Below.refl w.heap.size w)
 have H : (furrowref20_value.l0 k l1 a0_1 0 l0_0 a0_1) = some r := h
 clear h
 have H' := mk0 H
 clear H
 go_enter Try.func29, Try.ntmps29
 go_wp2_with (first | ((with_reducible refine gate_dst (N := 2) rfl ?_); (try (refine gate_guard (by rfl) ?_; dsimp only)); refine bxE 2 #[.slice A0_0 l0_0.length c0_0, .int .i64 a0_1] 50 ?_; intro gb716 hg w3 hbox hb; have BK716 := mk0 (hbox); have GW716 := gE (uL HB.out) hg; have GE716 := gE (uL HB.out) hg; replace HB := hbB (uL HB.out) hb; clear hb hbox hg; obtain ⟨hcz4_0, hcz4_1, hfz4_0, hfz4_1⟩ := cL2 BK716))
 repeat (go_quiet (first | ((with_reducible refine gate_dst (N := 2) rfl ?_); (try (refine gate_guard (by rfl) ?_; dsimp only)); refine bxE 2 #[.slice A0_0 l0_0.length c0_0, .int .i64 a0_1] 50 ?_; intro gb716 hg w3 hbox hb; have BK716 := mk0 (hbox); have GW716 := gE (uL HB.out) hg; have GE716 := gE (uL HB.out) hg; replace HB := hbB (uL HB.out) hb; clear hb hbox hg; obtain ⟨hcz4_0, hcz4_1, hfz4_0, hfz4_1⟩ := cL2 BK716)); try go_wp2_with (first | ((with_reducible refine gate_dst (N := 2) rfl ?_); (try (refine gate_guard (by rfl) ?_; dsimp only)); refine bxE 2 #[.slice A0_0 l0_0.length c0_0, .int .i64 a0_1] 50 ?_; intro gb716 hg w3 hbox hb; have BK716 := mk0 (hbox); have GW716 := gE (uL HB.out) hg; have GE716 := gE (uL HB.out) hg; replace HB := hbB (uL HB.out) hb; clear hb hbox hg; obtain ⟨hcz4_0, hcz4_1, hfz4_0, hfz4_1⟩ := cL2 BK716)))
 go_loopg [5, 6] k (fun kq v5 v6 w' => ∃ (x5_1 : Int) (x6_1 : Int), v5 = .int .i64 x5_1 ∧ v6 = .int .i64 x6_1 ∧ Aside0 (furrowref20_value.l0 kq l1 x5_1 x6_1 l0_0 a0_1 = some r) ∧ Aside0 (kq ≤ k) ∧ Aside0 (w'.heap[gb716]? = some (.cells #[(.slice A0_0 l0_0.length c0_0), .int .i64 a0_1] 50 (0, 0))) ∧ Aside0 (Below w.heap.size w w'))
 case atStart => exact ⟨(a0_1), (0), (by first | rfl | (simp; done) | (simp [*]; done) | (simp [bne_nil_, beq_nil_]; done)), (by first | rfl | (simp; done) | (simp [*]; done) | (simp [bne_nil_, beq_nil_]; done)), H', ⟨Nat.le_refl _⟩, ⟨uB BK716.out⟩, ⟨bH⟩⟩
 case round =>
  clear H'; (try clear c1); (try clear hcz4_0); (try clear hcz4_1); (try clear hfz4_0); (try clear hfz4_1); obtain ⟨x5_1, x6_1, rfl, rfl, HA, HK1, BK716, HB⟩ := hrel
  cases gk with
  | zero => exact absurd HA.out (by simp [furrowref20_value.l0])
  | succ k1 =>
   have H := HA.out; clear HA; simp only [furrowref20_value.l0] at H
   by_cases c5 : x6_1 < (l1.length : Int)
   ·rw [if_pos c5] at H
    have c5b0 : decide (x6_1 < (l1.length : Int)) = true := decide_eq_true c5; clear c5
    by_cases c6 : x6_1 < (l0_0.length : Int)
    ·rw [if_pos c6] at H
     have c6b0 : decide (x6_1 < (l0_0.length : Int)) = true := decide_eq_true c6; clear c6
     by_cases c7 : 0 ≤ x6_1
     ·rw [if_pos c7] at H
      have c7b0 : decide (0 ≤ x6_1) = true := decide_eq_true c7; clear c7; have H' := mk0 H; clear H; obtain ⟨hcz8_0, hcz8_1, hfz8_0, hfz8_1⟩ := cL2 BK716; have p717 : 0 ≤ (x6_1 : Int) := dY; have q717 : x6_1 < (l0_0.length : Int) := dY; obtain ⟨ad717, e717, hx717_0⟩ := Kd.at_int HR0_0.out x6_1 p717 q717
      cases e717
      replace hx717_0 := (HB.out.cell (World.block_lt_of_cell? w _ hx717_0)).trans hx717_0; replace p717 := eq_true p717; replace q717 := eq_true q717; have p718 : 0 ≤ (x6_1 : Int) := dY; have q718 : x6_1 < (l1.length : Int) := dY; obtain ⟨ad718, e718, hx718_0⟩ := Kd.at_int HR1.out x6_1 p718 q718
      cases e718
      replace hx718_0 := (HB.out.cell (World.block_lt_of_cell? w _ hx718_0)).trans hx718_0; replace p718 := eq_true p718; replace q718 := eq_true q718; go_wp2; (repeat (go_quiet (fail); try go_wp2))
      go_roundg k1
      case measure => have := HK1.out; omega
      case rel => exact ⟨(wrap64 (x5_1 + (wrap64 ((rd l0_0 x6_1) * (rd l1 x6_1))))), (wrap64 (x6_1 + 1)), (by first | rfl | (simp; done) | (simp [*]; done) | (simp [bne_nil_, beq_nil_]; done)), (by first | rfl | (simp; done) | (simp [*]; done) | (simp [bne_nil_, beq_nil_]; done)), H', ⟨by have := HK1.out; omega⟩, ⟨uB BK716.out⟩, ⟨bH⟩⟩
     ·rw [if_neg c7] at H
      exact absurd H (by simp)
    ·rw [if_neg c6] at H
     have c6b0 : decide (x6_1 < (l0_0.length : Int)) = false := decide_eq_false c6; clear c6; obtain rfl := Option.some.inj H; obtain ⟨hcz9_0, hcz9_1, hfz9_0, hfz9_1⟩ := cL2 BK716; go_wp2; (repeat (go_quiet (fail); try go_wp2)); go_ret; exact ⟨rE, bH⟩
   ·rw [if_neg c5] at H
    have c5b0 : decide (x6_1 < (l1.length : Int)) = false := decide_eq_false c5; clear c5; obtain rfl := Option.some.inj H; go_wp2; (repeat (go_quiet (fail); try go_wp2)); go_ret; exact ⟨rE, bH⟩

end Go.Proofs.Ytmglfimdhbooeaa.X
