-- PRINTED by print.py (a twelfth state) out of the translation. Not trusted: Lean checks it.
import Derived.Test.YteeeoblpfepepaaDoorXx0
namespace Go.Proofs.YteeeoblpfepepaaDoor.X
open Go.Proofs.YteeeoblpfepepaaDoor.Flt Go.Proofs.YteeeoblpfepepaaDoor.H Go.RowKit Go.Proofs.YteeeoblpfepepaaDoorW.PrintWords Go.Proofs.YteeeoblpfepepaaDoorW.PrintLast Go.Proofs.YteeeoblpfepepaaDoorW.PrintMore
attribute [local go_sem] max2_int min2_int max_two min_two max_three min_three max_four min_four   -- for this text's walks alone
set_option linter.unusedVariables false
set_option linter.unusedSimpArgs false

/-! ### furrowlaw3_few: function 11 -/
mutual
def furrowlaw3_few.j0 : Nat → List (S38) → Bool → Option (Bool)
 | 0, _, _ => none
 | k + 1, x1, x13 => if x13 = true then (some false) else (furrowlaw3_few.l0 k x1 0)
def furrowlaw3_few.l0 : Nat → List (S38) → Int → Option (Bool)
 | 0, _, _ => none
 | k + 1, x1, x5 => if x5 < (x1.length : Int) then (if 0 ≤ x5 then (if (((rd_T38 x1 x5).f2).length : Int) > 20 then (some false) else (furrowlaw3_few.l0 k x1 (wrap64 (x5 + 1)))) else (none)) else (some true)
end
def furrowlaw3_few.f (k : Nat) (l0 : List ByteArray) (l1 : List (S38)) : Option (Bool) := if (l0.length : Int) > 40 then (furrowlaw3_few.j0 k l1 true) else (furrowlaw3_few.j0 k l1 (decide ((l1.length : Int) > 20)))
theorem furrowlaw3_few.mono_l : ∀ k, (∀ y0 y1, LeO (furrowlaw3_few.j0 k y0 y1) (furrowlaw3_few.j0 (k + 1) y0 y1)) ∧ (∀ y0 y1, LeO (furrowlaw3_few.l0 k y0 y1) (furrowlaw3_few.l0 (k + 1) y0 y1))
 | 0 => ⟨fun _ _ r h => by simp [furrowlaw3_few.j0] at h, fun _ _ r h => by simp [furrowlaw3_few.l0] at h⟩
 | k + 1 => by
  obtain ⟨ih0, ih1⟩ := furrowlaw3_few.mono_l k
  refine ⟨?_, ?_⟩
  ·intro y0 y1
   unfold furrowlaw3_few.j0
   repeat' first
   | (with_reducible exact ih0 _ _)
   | (with_reducible exact ih1 _ _)
   | (with_reducible exact LeO.refl _)
   | (with_reducible exact LeO.none _)
   | (with_reducible refine LeO.ite ?_ ?_)
   | (with_reducible refine LeO.bind ?_ (fun _ => ?_))
   | exact ih0 _ _
   | exact ih1 _ _
   | exact LeO.none _
   | refine LeO.ite ?_ ?_
   | refine LeO.bind ?_ (fun _ => ?_)
  ·intro y0 y1
   unfold furrowlaw3_few.l0
   repeat' first
   | (with_reducible exact ih0 _ _)
   | (with_reducible exact ih1 _ _)
   | (with_reducible exact LeO.refl _)
   | (with_reducible exact LeO.none _)
   | (with_reducible refine LeO.ite ?_ ?_)
   | (with_reducible refine LeO.bind ?_ (fun _ => ?_))
   | exact ih0 _ _
   | exact ih1 _ _
   | exact LeO.none _
   | refine LeO.ite ?_ ?_
   | refine LeO.bind ?_ (fun _ => ?_)
theorem furrowlaw3_few.mono : ∀ a0 a1 k, LeO (furrowlaw3_few.f k a0 a1) (furrowlaw3_few.f (k + 1) a0 a1) := by
 intro a0 a1 k
 obtain ⟨ih0, ih1⟩ := furrowlaw3_few.mono_l k
 unfold furrowlaw3_few.f
 repeat' first
   | (with_reducible exact ih0 _ _)
   | (with_reducible exact ih1 _ _)
   | (with_reducible exact LeO.refl _)
   | (with_reducible exact LeO.none _)
   | (with_reducible refine LeO.ite ?_ ?_)
   | (with_reducible refine LeO.bind ?_ (fun _ => ?_))
   | exact ih0 _ _
   | exact ih1 _ _
   | exact LeO.none _
   | refine LeO.ite ?_ ?_
   | refine LeO.bind ?_ (fun _ => ?_)
set_option maxHeartbeats 8000000 in
set_option maxRecDepth 100000 in
theorem furrowlaw3_few.calls (k : Nat) (A0 : Option Addr) (c0 : Nat) (l0 : List ByteArray) (A1 : Option Addr) (c1 : Nat) (l1 : List (S38)) (r : Bool) (w : World) (hr0 : Kd.C Kd.string w A0 l0.length l0) (hc0 : l0.length ≤ c0) (hr1 : Kd.C k38 w A1 l1.length l1) (hc1 : l1.length ≤ c1) (h : furrowlaw3_few.f k l0 l1 = some r) :
  Calls Tryd.prog 11 #[.slice A0 l0.length c0, .slice A1 l1.length c1] w fun e w' => e = .returned (.bool r) ∧ Drawn0 w w' := by
 have HR0 := mk0 hr0
 have HC0 := mk0 hc0
 clear hr0 hc0
 have HR1 := mk0 hr1
 have HC1 := mk0 hc1
 clear hr1 hc1
 have H : (if (l0.length : Int) > 40 then (furrowlaw3_few.j0 k l1 true) else (furrowlaw3_few.j0 k l1 (decide ((l1.length : Int) > 20)))) = some r := h
 clear h
 have HC3 := mk0 H
 clear H
 go_enter Tryd.func11, Tryd.ntmps11
 go_upto_region 1 with (fail)
 go_cut [13] (fun v13 wc => ∃ (kq : Nat) (x13_2 : Bool), v13 = .bool x13_2 ∧ Aside0 (furrowlaw3_few.j0 kq l1 x13_2 = some r) ∧ Aside0 (kq ≤ k) ∧ Drawn0 w wc)
 case first =>
  have H := HC3.out
  clear HC3
  by_cases c4 : (l0.length : Int) > 40
  ·rw [if_pos c4] at H
   have c4b0 : decide (40 < (l0.length : Int)) = true := decide_eq_true c4
   have c4b1 : decide (40 < l0.length) = true := decide_eq_true (by omega)
   clear c4
   (first | rw [c4b0] | (simp only [i64_w, i32_w]; rw [c4b0]) | skip)
   have H' := mk0 H
   clear H
   go_wp2
   go_meet
   case rel => exact ⟨_, (true), (by first | rfl | (simp; done) | (simp [*]; done) | (simp [bne_nil_, beq_nil_]; done)), H', ⟨by first | omega | exact Nat.le_refl _⟩, by repeat (first | exact Drawn0.refl _ | apply Drawn0.step)⟩
  ·rw [if_neg c4] at H
   have c4b0 : decide (40 < (l0.length : Int)) = false := decide_eq_false c4
   have c4b1 : decide (40 < l0.length) = false := decide_eq_false (by omega)
   clear c4
   (first | rw [c4b0] | (simp only [i64_w, i32_w]; rw [c4b0]) | skip)
   have H' := mk0 H
   clear H
   go_wp2
   go_meet
   case rel => exact ⟨_, (decide ((l1.length : Int) > 20)), (by first | rfl | (simp; done) | (simp [*]; done) | (simp [bne_nil_, beq_nil_]; done)), H', ⟨by first | omega | exact Nat.le_refl _⟩, by repeat (first | exact Drawn0.refl _ | apply Drawn0.step)⟩
 case rest =>
  clear HC3
  try clear c1
  try clear p2
  try clear c4
  try clear c4b0
  try clear c4b1
  obtain ⟨kq, x13_2, rfl, HA, HJ2, ⟨mc2, rfl⟩⟩ := hcut
  cases kq with
  | zero => exact absurd HA.out (by simp [furrowlaw3_few.j0])
  | succ kj2 =>
   have H := HA.out
   clear HA
   simp only [furrowlaw3_few.j0] at H
   by_cases c5 : x13_2 = true
   ·subst c5
    have H1 : (some false) = some r := by rw [if_pos rfl] at H; exact H
    clear H
    have H := H1
    clear H1
    obtain rfl := Option.some.inj H
    go_wp2
    go_ret
    exact ⟨by first | rfl | (simp; done) | (simp [*]; done) | (simp [bne_nil_, beq_nil_]; done), by repeat (first | exact Drawn0.refl _ | apply Drawn0.step)⟩
   ·replace c5 := Bool.eq_false_iff.mpr c5
    subst c5
    have H1 : (furrowlaw3_few.l0 kj2 l1 0) = some r := by rw [if_neg (show ¬ (false = true) by decide)] at H; exact H
    clear H
    have H := H1
    clear H1
    have H' := mk0 H
    clear H
    go_wp2
    go_loopg [5] kj2 (fun kq v5 w' => ∃ (x5_2 : Int), v5 = .int .i64 x5_2 ∧ Aside0 (furrowlaw3_few.l0 kq l1 x5_2 = some r) ∧ Aside0 (kq ≤ kj2) ∧ Drawn0 w w')
    case atStart => exact ⟨(0), (by first | rfl | (simp; done) | (simp [*]; done) | (simp [bne_nil_, beq_nil_]; done)), H', ⟨Nat.le_refl _⟩, by repeat (first | exact Drawn0.refl _ | apply Drawn0.step)⟩
    case round =>
     clear H'
     try clear c1
     try clear c2
     try clear p2
     try clear c4
     try clear c4b0
     try clear c4b1
     try clear c5
     try clear p2
     obtain ⟨x5_2, rfl, HA, HK2, ⟨m2, rfl⟩⟩ := hrel
     cases gk with
     | zero => exact absurd HA.out (by simp [furrowlaw3_few.l0])
     | succ k2 =>
      have H := HA.out
      clear HA
      simp only [furrowlaw3_few.l0] at H
      by_cases c6 : x5_2 < (l1.length : Int)
      ·rw [if_pos c6] at H
       have c6b0 : decide (x5_2 < (l1.length : Int)) = true := decide_eq_true c6
       clear c6
       by_cases c7 : 0 ≤ x5_2
       ·rw [if_pos c7] at H
        have c7b0 : decide (0 ≤ x5_2) = true := decide_eq_true c7
        clear c7
        by_cases c8 : (((rd_T38 l1 x5_2).f2).length : Int) > 20
        ·rw [if_pos c8] at H
         have c8b0 : decide (20 < (((rd_T38 l1 x5_2).f2).length : Int)) = true := decide_eq_true c8
         have c8b1 : decide (20 < ((rd_T38 l1 x5_2).f2).length) = true := decide_eq_true (by omega)
         clear c8
         obtain rfl := Option.some.inj H
         have p201 : 0 ≤ (x5_2 : Int) := of_decide_eq_true (by first | (with_reducible assumption) | assumption)
         have q201 : x5_2 < (l1.length : Int) := of_decide_eq_true (by first | (with_reducible assumption) | assumption)
         obtain ⟨ad201, A201_2, c201_2, e201, hx201_0, hx201_1, hx201_2, hl201_2, hi201_2⟩ := at_T38 HR1.out x5_2 p201 q201
         cases e201
         have HR201_2 := mk0 hi201_2
         have HC201_2 := mk0 hl201_2
         clear hi201_2 hl201_2
         replace p201 := eq_true p201
         replace q201 := eq_true q201
         go_wp2
         go_ret
         exact ⟨by first | rfl | (simp; done) | (simp [*]; done) | (simp [bne_nil_, beq_nil_]; done), by repeat (first | exact Drawn0.refl _ | apply Drawn0.step)⟩
        ·rw [if_neg c8] at H
         have c8b0 : decide (20 < (((rd_T38 l1 x5_2).f2).length : Int)) = false := decide_eq_false c8
         have c8b1 : decide (20 < ((rd_T38 l1 x5_2).f2).length) = false := decide_eq_false (by omega)
         clear c8
         have H' := mk0 H
         clear H
         have p201 : 0 ≤ (x5_2 : Int) := of_decide_eq_true (by first | (with_reducible assumption) | assumption)
         have q201 : x5_2 < (l1.length : Int) := of_decide_eq_true (by first | (with_reducible assumption) | assumption)
         obtain ⟨ad201, A201_2, c201_2, e201, hx201_0, hx201_1, hx201_2, hl201_2, hi201_2⟩ := at_T38 HR1.out x5_2 p201 q201
         cases e201
         have HR201_2 := mk0 hi201_2
         have HC201_2 := mk0 hl201_2
         clear hi201_2 hl201_2
         replace p201 := eq_true p201
         replace q201 := eq_true q201
         go_wp2
         go_roundg k2
         case measure => have := HJ2.out; have := HK2.out; omega
         case rel => exact ⟨(wrap64 (x5_2 + 1)), (by first | rfl | (simp; done) | (simp [*]; done) | (simp [bne_nil_, beq_nil_]; done)), H', ⟨by have := HJ2.out; have := HK2.out; omega⟩, by repeat (first | exact Drawn0.refl _ | apply Drawn0.step)⟩
       ·rw [if_neg c7] at H
        exact absurd H (by simp)
      ·rw [if_neg c6] at H
       have c6b0 : decide (x5_2 < (l1.length : Int)) = false := decide_eq_false c6
       clear c6
       obtain rfl := Option.some.inj H
       go_wp2
       go_ret
       exact ⟨by first | rfl | (simp; done) | (simp [*]; done) | (simp [bne_nil_, beq_nil_]; done), by repeat (first | exact Drawn0.refl _ | apply Drawn0.step)⟩

end Go.Proofs.YteeeoblpfepepaaDoor.X
