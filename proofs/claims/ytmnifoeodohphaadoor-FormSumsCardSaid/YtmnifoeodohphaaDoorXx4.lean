-- PRINTED by print.py (a twelfth state) out of the translation. Not trusted: Lean checks it.
import Derived.Test.YtmnifoeodohphaaDoorXx0
import Derived.Test.YtmnifoeodohphaaDoorXx2
import Derived.Test.YtmnifoeodohphaaDoorXx3
namespace Go.Proofs.YtmnifoeodohphaaDoor.X
open Go.Proofs.YtmnifoeodohphaaDoor.Flt Go.Proofs.YtmnifoeodohphaaDoor.H Go.RowKit Go.Proofs.YtmnifoeodohphaaDoorW.PrintWords Go.Proofs.YtmnifoeodohphaaDoorW.PrintLast Go.Proofs.YtmnifoeodohphaaDoorW.PrintMore
attribute [local go_sem] max2_int min2_int max_two min_two max_three min_three max_four min_four   -- for this text's walks alone
set_option linter.unusedVariables false
set_option linter.unusedSimpArgs false

/-! ### furrowref4_Mul: function 40 -/
mutual
def furrowref4_Mul.j0 : Nat → Int → Int → Bool → Option (Int × Bool)
 | 0, _, _, _ => none
 | k + 1, x0, x1, x12 => if x12 = true then (some (0, true)) else (if x0 = (-1) then (if x1 = (-9223372036854775808) then (furrowref4_Mul.j1 k x0 x1 true) else (if x1 = (-1) then (furrowref4_Mul.j1 k x0 x1 (x0 == (-9223372036854775808))) else (furrowref4_Mul.j1 k x0 x1 false))) else (if x1 = (-1) then (furrowref4_Mul.j1 k x0 x1 (x0 == (-9223372036854775808))) else (furrowref4_Mul.j1 k x0 x1 false)))
def furrowref4_Mul.j1 : Nat → Int → Int → Bool → Option (Int × Bool)
 | 0, _, _, _ => none
 | k + 1, x0, x1, x26 => if x26 = true then (some (0, false)) else (if x1 = 0 then (none) else (if (wrap64 (Int.tdiv (wrap64 (x0 * x1)) x1)) = x0 then (some (wrap64 (x0 * x1), true)) else (some (0, false))))
end
def furrowref4_Mul.f (k : Nat) (a0 : Int) (a1 : Int) : Option (Int × Bool) := if a0 = 0 then (furrowref4_Mul.j0 k a0 a1 true) else (furrowref4_Mul.j0 k a0 a1 (a1 == 0))
theorem furrowref4_Mul.mono_l : ∀ k, (∀ y0 y1 y2, LeO (furrowref4_Mul.j0 k y0 y1 y2) (furrowref4_Mul.j0 (k + 1) y0 y1 y2)) ∧ (∀ y0 y1 y2, LeO (furrowref4_Mul.j1 k y0 y1 y2) (furrowref4_Mul.j1 (k + 1) y0 y1 y2))
 | 0 => ⟨fun _ _ _ r h => by simp [furrowref4_Mul.j0] at h, fun _ _ _ r h => by simp [furrowref4_Mul.j1] at h⟩
 | k + 1 => by
  obtain ⟨ih0, ih1⟩ := furrowref4_Mul.mono_l k; refine ⟨?_, ?_⟩
  ·intro y0 y1 y2
   unfold furrowref4_Mul.j0
   repeat' first
   | (with_reducible exact ih0 _ _ _)
   | (with_reducible exact ih1 _ _ _)
   | (with_reducible exact LeO.refl _)
   | (with_reducible exact LeO.none _)
   | (with_reducible refine LeO.ite ?_ ?_)
   | (with_reducible refine LeO.bind ?_ (fun _ => ?_))
   | exact ih0 _ _ _
   | exact ih1 _ _ _
   | exact LeO.none _
   | refine LeO.ite ?_ ?_
   | refine LeO.bind ?_ (fun _ => ?_)
  ·intro y0 y1 y2
   unfold furrowref4_Mul.j1
   repeat' first
   | (with_reducible exact ih0 _ _ _)
   | (with_reducible exact ih1 _ _ _)
   | (with_reducible exact LeO.refl _)
   | (with_reducible exact LeO.none _)
   | (with_reducible refine LeO.ite ?_ ?_)
   | (with_reducible refine LeO.bind ?_ (fun _ => ?_))
   | exact ih0 _ _ _
   | exact ih1 _ _ _
   | exact LeO.none _
   | refine LeO.ite ?_ ?_
   | refine LeO.bind ?_ (fun _ => ?_)
theorem furrowref4_Mul.mono : ∀ a0 a1 k, LeO (furrowref4_Mul.f k a0 a1) (furrowref4_Mul.f (k + 1) a0 a1) := by
 intro a0 a1 k
 obtain ⟨ih0, ih1⟩ := furrowref4_Mul.mono_l k
 unfold furrowref4_Mul.f
 repeat' first
   | (with_reducible exact ih0 _ _ _)
   | (with_reducible exact ih1 _ _ _)
   | (with_reducible exact LeO.refl _)
   | (with_reducible exact LeO.none _)
   | (with_reducible refine LeO.ite ?_ ?_)
   | (with_reducible refine LeO.bind ?_ (fun _ => ?_))
   | exact ih0 _ _ _
   | exact ih1 _ _ _
   | exact LeO.none _
   | refine LeO.ite ?_ ?_
   | refine LeO.bind ?_ (fun _ => ?_)
set_option maxHeartbeats 8000000 in
set_option maxRecDepth 100000 in
theorem furrowref4_Mul.calls (k : Nat) (a0 : Int) (a1 : Int) (r1 : Int) (r2 : Bool) (w : World) (h : furrowref4_Mul.f k a0 a1 = some (r1, r2)) :
  Calls Tryd.prog 40 #[.int .i64 a0, .int .i64 a1] w fun e w' => e = .returned (.tuple #[.int .i64 r1, .bool r2]) ∧ Drawn0 w w' := by
 have H : (if a0 = 0 then (furrowref4_Mul.j0 k a0 a1 true) else (furrowref4_Mul.j0 k a0 a1 (a1 == 0))) = some (r1, r2) := h
 clear h
 have HC3 := mk0 H
 clear H
 go_enter Tryd.func40, Tryd.ntmps40
 go_upto_region 1 with (fail)
 go_cut [12] (fun v12 wc => ∃ (kq : Nat) (x12_2 : Bool), v12 = .bool x12_2 ∧ Aside0 (furrowref4_Mul.j0 kq a0 a1 x12_2 = some (r1, r2)) ∧ Aside0 (kq ≤ k) ∧ Drawn0 w wc)
 case first =>
  have H := HC3.out; clear HC3
  by_cases c4 : a0 = 0
  ·rw [if_pos c4] at H
   have c4b0 : (a0 == 0) = true := beq_iff_eq.mpr c4; have c4b1 : (a0 != 0) = false := bne_eq_false_iff_eq.mpr c4; clear c4; (first | rw [c4b0] | (simp only [i64_w, i32_w]; rw [c4b0]) | skip); have H' := mk0 H; clear H; go_wp2
   go_meet
   case rel => exact ⟨_, (true), (by first | rfl | (simp; done) | (simp [*]; done) | (simp [bne_nil_, beq_nil_]; done)), H', ⟨by first | omega | exact Nat.le_refl _⟩, by repeat (first | exact Drawn0.refl _ | apply Drawn0.step)⟩
  ·rw [if_neg c4] at H
   have c4b0 : (a0 == 0) = false := beq_eq_false_iff_ne.mpr c4; have c4b1 : (a0 != 0) = true := bne_iff_ne.mpr c4; (first | rw [c4b0] | (simp only [i64_w, i32_w]; rw [c4b0]) | skip); have H' := mk0 H; clear H; go_wp2
   go_meet
   case rel => exact ⟨_, ((a1 == 0)), (by first | rfl | (simp; done) | (simp [*]; done) | (simp [bne_nil_, beq_nil_]; done)), H', ⟨by first | omega | exact Nat.le_refl _⟩, by repeat (first | exact Drawn0.refl _ | apply Drawn0.step)⟩
 case rest =>
  clear HC3; (try clear p2); (try clear c4); (try clear c4b0); (try clear c4b1); obtain ⟨kq, x12_2, rfl, HA, HJ2, ⟨mc2, rfl⟩⟩ := hcut
  cases kq with
  | zero => exact absurd HA.out (by simp [furrowref4_Mul.j0])
  | succ kj2 =>
   have H := HA.out; clear HA; simp only [furrowref4_Mul.j0] at H
   by_cases c5 : x12_2 = true
   ·subst c5
    (have H1 : (some (0, true)) = some (r1, r2) := by rw [if_pos rfl] at H; exact H); clear H; have H := H1; clear H1; simp only [Option.some.injEq, Prod.mk.injEq] at H; obtain ⟨rfl, rfl⟩ := H; go_wp2
    go_ret2
    exact ⟨by first | rfl | (simp; done) | (simp [*]; done) | (simp [bne_nil_, beq_nil_]; done), by repeat (first | exact Drawn0.refl _ | apply Drawn0.step)⟩
   ·replace c5 := Bool.eq_false_iff.mpr c5
    subst c5; (have H1 : (if a0 = (-1) then (if a1 = (-9223372036854775808) then (furrowref4_Mul.j1 kj2 a0 a1 true) else (if a1 = (-1) then (furrowref4_Mul.j1 kj2 a0 a1 (a0 == (-9223372036854775808))) else (furrowref4_Mul.j1 kj2 a0 a1 false))) else (if a1 = (-1) then (furrowref4_Mul.j1 kj2 a0 a1 (a0 == (-9223372036854775808))) else (furrowref4_Mul.j1 kj2 a0 a1 false))) = some (r1, r2) := by rw [if_neg (show ¬ (false = true) by decide)] at H; exact H); clear H; have H := H1; clear H1; have HC6 := mk0 H; clear H
    go_upto_region 3 with (fail)
    go_cut [26] (fun v26 wc => ∃ (kq : Nat) (x26_5 : Bool), v26 = .bool x26_5 ∧ Aside0 (furrowref4_Mul.j1 kq a0 a1 x26_5 = some (r1, r2)) ∧ Aside0 (kq ≤ kj2) ∧ Drawn0 w wc)
    case first =>
     have H := HC6.out; clear HC6
     by_cases c7 : a0 = (-1)
     ·rw [if_pos c7] at H
      have c7b0 : (a0 == (-1)) = true := beq_iff_eq.mpr c7; have c7b1 : (a0 != (-1)) = false := bne_eq_false_iff_eq.mpr c7; clear c7; (first | rw [c7b0] | (simp only [i64_w, i32_w]; rw [c7b0]) | skip)
      by_cases c8 : a1 = (-9223372036854775808)
      ·rw [if_pos c8] at H
       have c8b0 : (a1 == (-9223372036854775808)) = true := beq_iff_eq.mpr c8; have c8b1 : (a1 != (-9223372036854775808)) = false := bne_eq_false_iff_eq.mpr c8; clear c8; have H' := mk0 H; clear H; go_wp2
       go_meet
       case rel => exact ⟨_, (true), (by first | rfl | (simp; done) | (simp [*]; done) | (simp [bne_nil_, beq_nil_]; done)), H', ⟨by have := HJ2.out; first | omega | exact Nat.le_refl _⟩, by repeat (first | exact Drawn0.refl _ | apply Drawn0.step)⟩
      ·rw [if_neg c8] at H
       have c8b0 : (a1 == (-9223372036854775808)) = false := beq_eq_false_iff_ne.mpr c8; have c8b1 : (a1 != (-9223372036854775808)) = true := bne_iff_ne.mpr c8
       by_cases c9 : a1 = (-1)
       ·rw [if_pos c9] at H
        have c9b0 : (a1 == (-1)) = true := beq_iff_eq.mpr c9; have c9b1 : (a1 != (-1)) = false := bne_eq_false_iff_eq.mpr c9; clear c9; have H' := mk0 H; clear H; go_wp2
        go_meet
        case rel => exact ⟨_, ((a0 == (-9223372036854775808))), (by first | rfl | (simp; done) | (simp [*]; done) | (simp [bne_nil_, beq_nil_]; done)), H', ⟨by have := HJ2.out; first | omega | exact Nat.le_refl _⟩, by repeat (first | exact Drawn0.refl _ | apply Drawn0.step)⟩
       ·rw [if_neg c9] at H
        have c9b0 : (a1 == (-1)) = false := beq_eq_false_iff_ne.mpr c9; have c9b1 : (a1 != (-1)) = true := bne_iff_ne.mpr c9; have H' := mk0 H; clear H; go_wp2
        go_meet
        case rel => exact ⟨_, (false), (by first | rfl | (simp; done) | (simp [*]; done) | (simp [bne_nil_, beq_nil_]; done)), H', ⟨by have := HJ2.out; first | omega | exact Nat.le_refl _⟩, by repeat (first | exact Drawn0.refl _ | apply Drawn0.step)⟩
     ·rw [if_neg c7] at H
      have c7b0 : (a0 == (-1)) = false := beq_eq_false_iff_ne.mpr c7; have c7b1 : (a0 != (-1)) = true := bne_iff_ne.mpr c7; (first | rw [c7b0] | (simp only [i64_w, i32_w]; rw [c7b0]) | skip)
      by_cases c10 : a1 = (-1)
      ·rw [if_pos c10] at H
       have c10b0 : (a1 == (-1)) = true := beq_iff_eq.mpr c10; have c10b1 : (a1 != (-1)) = false := bne_eq_false_iff_eq.mpr c10; clear c10; have H' := mk0 H; clear H; go_wp2
       go_meet
       case rel => exact ⟨_, ((a0 == (-9223372036854775808))), (by first | rfl | (simp; done) | (simp [*]; done) | (simp [bne_nil_, beq_nil_]; done)), H', ⟨by have := HJ2.out; first | omega | exact Nat.le_refl _⟩, by repeat (first | exact Drawn0.refl _ | apply Drawn0.step)⟩
      ·rw [if_neg c10] at H
       have c10b0 : (a1 == (-1)) = false := beq_eq_false_iff_ne.mpr c10; have c10b1 : (a1 != (-1)) = true := bne_iff_ne.mpr c10; have H' := mk0 H; clear H; go_wp2
       go_meet
       case rel => exact ⟨_, (false), (by first | rfl | (simp; done) | (simp [*]; done) | (simp [bne_nil_, beq_nil_]; done)), H', ⟨by have := HJ2.out; first | omega | exact Nat.le_refl _⟩, by repeat (first | exact Drawn0.refl _ | apply Drawn0.step)⟩
    case rest =>
     clear HC6; (try clear c1); (try clear c2); (try clear p2); (try clear c4); (try clear c4b0); (try clear c4b1); (try clear c5); (try clear c7); (try clear c7b0); (try clear c7b1); (try clear c8); (try clear c8b0); (try clear c8b1); (try clear c9); (try clear c9b0); (try clear c9b1); (try clear c10); (try clear c10b0); (try clear c10b1); (try clear p2); obtain ⟨kq, x26_5, rfl, HA, HJ5, ⟨mc5, rfl⟩⟩ := hcut
     cases kq with
     | zero => exact absurd HA.out (by simp [furrowref4_Mul.j1])
     | succ kj5 =>
      have H := HA.out; clear HA; simp only [furrowref4_Mul.j1] at H
      by_cases c11 : x26_5 = true
      ·subst c11
       (have H1 : (some (0, false)) = some (r1, r2) := by rw [if_pos rfl] at H; exact H); clear H; have H := H1; clear H1; simp only [Option.some.injEq, Prod.mk.injEq] at H; obtain ⟨rfl, rfl⟩ := H; go_wp2
       go_ret2
       exact ⟨by first | rfl | (simp; done) | (simp [*]; done) | (simp [bne_nil_, beq_nil_]; done), by repeat (first | exact Drawn0.refl _ | apply Drawn0.step)⟩
      ·replace c11 := Bool.eq_false_iff.mpr c11
       subst c11; (have H1 : (if a1 = 0 then (none) else (if (wrap64 (Int.tdiv (wrap64 (a0 * a1)) a1)) = a0 then (some (wrap64 (a0 * a1), true)) else (some (0, false)))) = some (r1, r2) := by rw [if_neg (show ¬ (false = true) by decide)] at H; exact H); clear H; have H := H1; clear H1
       by_cases c12 : a1 = 0
       ·rw [if_pos c12] at H
        exact absurd H (by simp)
       ·rw [if_neg c12] at H
        have c12b0 : (a1 == 0) = false := beq_eq_false_iff_ne.mpr c12; have c12b1 : (a1 != 0) = true := bne_iff_ne.mpr c12
        by_cases c13 : (wrap64 (Int.tdiv (wrap64 (a0 * a1)) a1)) = a0
        ·rw [if_pos c13] at H
         have c13b0 : ((wrap64 (Int.tdiv (wrap64 (a0 * a1)) a1)) == a0) = true := beq_iff_eq.mpr c13; have c13b1 : ((wrap64 (Int.tdiv (wrap64 (a0 * a1)) a1)) != a0) = false := bne_eq_false_iff_eq.mpr c13; clear c13; simp only [Option.some.injEq, Prod.mk.injEq] at H; obtain ⟨rfl, rfl⟩ := H; go_wp2
         go_ret2
         exact ⟨by first | rfl | (simp; done) | (simp [*]; done) | (simp [bne_nil_, beq_nil_]; done), by repeat (first | exact Drawn0.refl _ | apply Drawn0.step)⟩
        ·rw [if_neg c13] at H
         have c13b0 : ((wrap64 (Int.tdiv (wrap64 (a0 * a1)) a1)) == a0) = false := beq_eq_false_iff_ne.mpr c13; have c13b1 : ((wrap64 (Int.tdiv (wrap64 (a0 * a1)) a1)) != a0) = true := bne_iff_ne.mpr c13; simp only [Option.some.injEq, Prod.mk.injEq] at H; obtain ⟨rfl, rfl⟩ := H; go_wp2
         go_ret2
         exact ⟨by first | rfl | (simp; done) | (simp [*]; done) | (simp [bne_nil_, beq_nil_]; done), by repeat (first | exact Drawn0.refl _ | apply Drawn0.step)⟩

/-! ### furrowref14_Scale: function 15 -/
def furrowref14_Scale.l0 : Nat → Int → Int → List Int → Int → List Int → Int → Option (List Int × Int × (List (S86)) × Int)
 | 0, _, _, _, _, _, _ => none
 | k + 1, x1, x7, x304000, x304001, x311000, x311001 => if x7 < (x304000.length : Int) then (if 0 ≤ x7 then ((furrowref4_Mul.f k (rd x304000 x7) x1).bind fun bt312 => (if bt312.2 = true then (if x7 < (x311000.length : Int) then (furrowref14_Scale.l0 k x1 (wrap64 (x7 + 1)) x304000 x304001 (x311000.set (x7 : Int).toNat bt312.1) x311001) else (none)) else ((furrowref14_over.f).bind fun bt315 => (some (([] : List Int), 0, bt315.1, bt315.2))))) else (none)) else ((furrowref4_Mul.f k x304001 x1).bind fun bt319 => (if bt319.2 = true then (some (x311000, bt319.1, ([] : List (S86)), 0)) else ((furrowref14_over.f).bind fun bt321 => (some (([] : List Int), 0, bt321.1, bt321.2)))))
def furrowref14_Scale.f (k : Nat) (l0_0 : List Int) (a0_1 : Int) (a1 : Int) : Option (List Int × Int × (List (S86)) × Int) := (furrowref14_Const.f (l0_0.length : Int) 0).bind fun bt306 => (furrowref14_Scale.l0 k a1 0 l0_0 a0_1 bt306.1 bt306.2)
theorem furrowref14_Scale.mono_l : ∀ k, (∀ y0 y1 y2 y3 y4 y5, LeO (furrowref14_Scale.l0 k y0 y1 y2 y3 y4 y5) (furrowref14_Scale.l0 (k + 1) y0 y1 y2 y3 y4 y5))
 | 0 => fun _ _ _ _ _ _ r h => by simp [furrowref14_Scale.l0] at h
 | k + 1 => by
  have ih0 := furrowref14_Scale.mono_l k
  ·intro y0 y1 y2 y3 y4 y5
   unfold furrowref14_Scale.l0
   repeat' first
   | (with_reducible exact ih0 _ _ _ _ _ _)
   | (with_reducible exact furrowref4_Mul.mono _ _ _)
   | (with_reducible exact LeO.refl _)
   | (with_reducible exact LeO.none _)
   | (with_reducible refine LeO.ite ?_ ?_)
   | (with_reducible refine LeO.bind ?_ (fun _ => ?_))
   | exact ih0 _ _ _ _ _ _
   | exact furrowref4_Mul.mono _ _ _
   | exact LeO.none _
   | refine LeO.ite ?_ ?_
   | refine LeO.bind ?_ (fun _ => ?_)
theorem furrowref14_Scale.mono : ∀ a0 a1 a2 k, LeO (furrowref14_Scale.f k a0 a1 a2) (furrowref14_Scale.f (k + 1) a0 a1 a2) := by
 intro a0 a1 a2 k
 have ih0 := furrowref14_Scale.mono_l k
 unfold furrowref14_Scale.f
 repeat' first
   | (with_reducible exact ih0 _ _ _ _ _ _)
   | (with_reducible exact furrowref4_Mul.mono _ _ _)
   | (with_reducible exact LeO.refl _)
   | (with_reducible exact LeO.none _)
   | (with_reducible refine LeO.ite ?_ ?_)
   | (with_reducible refine LeO.bind ?_ (fun _ => ?_))
   | exact ih0 _ _ _ _ _ _
   | exact furrowref4_Mul.mono _ _ _
   | exact LeO.none _
   | refine LeO.ite ?_ ?_
   | refine LeO.bind ?_ (fun _ => ?_)
set_option maxHeartbeats 8000000 in
set_option maxRecDepth 100000 in
theorem furrowref14_Scale.calls (k : Nat) (A0_0 : Option Addr) (c0_0 : Nat) (l0_0 : List Int) (a0_1 : Int) (a1 : Int) (r1 : List Int) (r2 : Int) (r3 : List (S86)) (r4 : Int) (w : World) (hr0_0 : Kd.C (Kd.int .i64) w A0_0 l0_0.length l0_0) (hc0_0 : l0_0.length ≤ c0_0) (h : furrowref14_Scale.f k l0_0 a0_1 a1 = some (r1, r2, r3, r4)) :
  Calls Tryd.prog 15 #[.agg #[.slice A0_0 l0_0.length c0_0, .int .i64 a0_1], .int .i64 a1] w fun e w' => ∃ v0_ v2_ : Value, e = .returned (.tuple #[.agg #[v0_, .int .i64 r2], .agg #[v2_, .int .i64 r4]]) ∧ Kd.R (Kd.int .i64) 2 w' w.heap.size (fun _ => True) v0_ r1 ∧ Kd.R k86 86 w' w.heap.size (fun _ => True) v2_ r3 ∧ Below w.heap.size w w' := by
 have hu31 := Tryd.underlying31
 have hu34 := Tryd.underlying34
 have HR0_0 := mk0 hr0_0
 have HC0_0 := mk0 hc0_0
 clear hr0_0 hc0_0
 have HB := mk0 (Below.refl w.heap.size w)
 have H : ((furrowref14_Const.f (l0_0.length : Int) 0).bind fun bt306 => (furrowref14_Scale.l0 k a1 0 l0_0 a0_1 bt306.1 bt306.2)) = some (r1, r2, r3, r4) := h
 clear h
 replace H := Option.bind_eq_some_iff.mp H
 obtain ⟨⟨t306, t309⟩, A30, H⟩ := H
 dsimp only at H
 have A3 := mk0 A30
 clear A30
 have H' := mk0 H
 clear H
 go_enter Tryd.func15, Tryd.ntmps15
 go_wp2_with (first | ((with_reducible refine gate_dst (N := 2) rfl ?_); refine bxE 2 #[.slice A0_0 l0_0.length c0_0, .int .i64 a0_1] 31 ?_; intro gb303 hg w4 hbox hb; have BK303 := mk0 (hbox); have GW303 := gE (uL HB.out) hg; have GE303 := gE (uL HB.out) hg; replace HB := hbB (uL HB.out) hb; clear hb hbox hg) | ((with_reducible refine gate_dst (N := 4) rfl ?_); refine bxE 4 #[.slice none 0 0, .int .i64 0] 31 ?_; intro gb304 hg w5 hbox hb; have BK304 := mk0 (hbox); have GW304 := gE bH hg; have GE304 := gE bH hg; replace HB := hbB bH hb; have NB303_304 := nL BK303 hg; have NB304_303 := nG BK303 hg; replace BK303 := bB BK303 hb; clear hb hbox hg) | ((with_reducible refine gate_dst (N := 5) rfl ?_); refine bxE 5 #[.slice none 0 0, .int .i64 0] 34 ?_; intro gb305 hg w6 hbox hb; have BK305 := mk0 (hbox); have GW305 := gE bH hg; have GE305 := gE bH hg; replace HB := hbB bH hb; have NB303_305 := nL BK303 hg; have NB305_303 := nG BK303 hg; replace BK303 := bB BK303 hb; have NB304_305 := nL BK304 hg; have NB305_304 := nG BK304 hg; replace BK304 := bB BK304 hb; clear hb hbox hg; have hnb7 := NB303_304.out; have hnc7 := NB304_303.out; have hnb8 := NB303_305.out; have hnc8 := NB305_303.out; obtain ⟨hcz9_0, hcz9_1, hfz9_0, hfz9_1⟩ := cL2 BK303) | ((with_reducible refine gate_dst (N := 15) rfl ?_); refine gsM (some 15) Tryd.func24 #[.int .i64 (l0_0.length : Int), .int .i64 0] ?_; (with_reducible refine (furrowref14_Const.calls (l0_0.length : Int) 0 t306 t309 _ A3.out).mono ?_); rintro e w10 ⟨v307, rfl, ho0, hb⟩; refine ⟨_, rfl, ?_⟩; have HO308 := mk0 (Kd.R_lower ho0 (below_size bH)); replace BK303 := bB BK303 hb; replace BK304 := bB BK304 hb; replace BK305 := bB BK305 hb; replace HB := hbB bH hb; (try clear hb); (try clear hb2); (try clear hk); (try clear hi); (try clear ho0)) | ((with_reducible refine gate_dst (N := 6) rfl ?_); refine bxE 6 #[.slice none 0 0, .int .i64 0] 31 ?_; intro gb310 hg w11 hbox hb; replace HO308 := rB HO308 hb; have BK310 := mk0 (hbox); have GW310 := gE bH hg; have GE310 := gE bH hg; replace HB := hbB bH hb; have NB303_310 := nL BK303 hg; have NB310_303 := nG BK303 hg; replace BK303 := bB BK303 hb; have NB304_310 := nL BK304 hg; have NB310_304 := nG BK304 hg; replace BK304 := bB BK304 hb; have NB305_310 := nL BK305 hg; have NB310_305 := nG BK305 hg; replace BK305 := bB BK305 hb; clear hb hbox hg; obtain ⟨Ao12, co12, eo12⟩ := Kd.R_slice HO308.out; subst eo12; have hnb13 := NB310_303.out; have hnc13 := NB303_310.out; have hnb14 := NB310_304.out; have hnc14 := NB304_310.out; have hnb15 := NB310_305.out; have hnc15 := NB305_310.out; obtain ⟨hcz16_0, hcz16_1, hfz16_0, hfz16_1⟩ := cL2 BK310))
 go_loopg [7] k (fun kq v7 w' => ∃ (x7_1 : Int) (x305001_1 : Int) (x306001_1 : Int) (x311000_1 : List Int) (u311000 : Value), v7 = .int .i64 x7_1 ∧ Aside0 (furrowref14_Scale.l0 kq a1 x7_1 l0_0 a0_1 x311000_1 t309 = some (r1, r2, r3, r4)) ∧ Aside0 (kq ≤ k) ∧ Aside0 (Kd.R (Kd.int .i64) 2 w' w.heap.size (fun _ => True) u311000 x311000_1) ∧ Aside0 (w'.heap[gb303]? = some (.cells #[(.slice A0_0 l0_0.length c0_0), .int .i64 a0_1] 31 (0, 0))) ∧ Aside0 (w'.heap[gb304]? = some (.cells #[(.slice none 0 0), .int .i64 x305001_1] 31 (0, 0))) ∧ Aside0 (w'.heap[gb305]? = some (.cells #[(.slice none 0 0), .int .i64 x306001_1] 34 (0, 0))) ∧ Aside0 (w'.heap[gb310]? = some (.cells #[u311000, .int .i64 t309] 31 (0, 0))) ∧ Aside0 (Below w.heap.size w w'))
 case atStart => exact ⟨(0), (0), (0), (t306), (.slice Ao12 t306.length co12), (by first | rfl | (simp; done) | (simp [*]; done) | (simp [bne_nil_, beq_nil_]; done)), H', ⟨Nat.le_refl _⟩, ⟨uR (Kd.R_mono (Kd.R_far (p := ⟨gb310, 1, none⟩) (Kd.R_far (p := ⟨gb310, 0, none⟩) (Kd.R_types HO308.out BK310.out (by decide)) (fun _ hk => hk.2) (.slice Ao12 t306.length co12)) (fun _ hk => hk.2) (.int .i64 t309)) (fun _ hk => trivial))⟩, ⟨by (with_reducible repeat (first | refine blk_drewN ?_ _ | refine blk_drew ?_ | refine blk_alloc ?_ _)); refine blk_far ?_ NB303_310.out _; (with_reducible repeat (first | refine blk_drewN ?_ _ | refine blk_drew ?_ | refine blk_alloc ?_ _)); refine blk_far ?_ NB303_310.out _; (with_reducible repeat (first | refine blk_drewN ?_ _ | refine blk_drew ?_ | refine blk_alloc ?_ _)); exact BK303.out⟩, ⟨by (with_reducible repeat (first | refine blk_drewN ?_ _ | refine blk_drew ?_ | refine blk_alloc ?_ _)); refine blk_far ?_ NB304_310.out _; (with_reducible repeat (first | refine blk_drewN ?_ _ | refine blk_drew ?_ | refine blk_alloc ?_ _)); refine blk_far ?_ NB304_310.out _; (with_reducible repeat (first | refine blk_drewN ?_ _ | refine blk_drew ?_ | refine blk_alloc ?_ _)); exact BK304.out⟩, ⟨by (with_reducible repeat (first | refine blk_drewN ?_ _ | refine blk_drew ?_ | refine blk_alloc ?_ _)); refine blk_far ?_ NB305_310.out _; (with_reducible repeat (first | refine blk_drewN ?_ _ | refine blk_drew ?_ | refine blk_alloc ?_ _)); refine blk_far ?_ NB305_310.out _; (with_reducible repeat (first | refine blk_drewN ?_ _ | refine blk_drew ?_ | refine blk_alloc ?_ _)); exact BK305.out⟩, ⟨by (with_reducible repeat (first | refine blk_drewN ?_ _ | refine blk_drew ?_ | refine blk_alloc ?_ _)); refine blk_put (cs := #[.slice Ao12 t306.length co12, .int .i64 0]) ?_ 1 _ rfl; (with_reducible repeat (first | refine blk_drewN ?_ _ | refine blk_drew ?_ | refine blk_alloc ?_ _)); refine blk_put (cs := #[.slice none 0 0, .int .i64 0]) ?_ 0 _ rfl; (with_reducible repeat (first | refine blk_drewN ?_ _ | refine blk_drew ?_ | refine blk_alloc ?_ _)); exact BK310.out⟩, ⟨bH⟩⟩
 case round =>
  clear H'; (try clear c1); (try clear c2); (try clear p2); (try clear c7); (try clear c8); (try clear c13); (try clear c14); (try clear c15); (try clear hcz16_0); (try clear hcz16_1); (try clear hcz9_0); (try clear hcz9_1); (try clear hfz16_0); (try clear hfz16_1); (try clear hfz9_0); (try clear hfz9_1); obtain ⟨x7_1, x305001_1, x306001_1, x311000_1, u311000, rfl, HA, HK1, HO_311000, BK303, BK304, BK305, BK310, HB⟩ := hrel
  cases gk with
  | zero => exact absurd HA.out (by simp [furrowref14_Scale.l0])
  | succ k1 =>
   have H := HA.out; clear HA; simp only [furrowref14_Scale.l0] at H
   by_cases c17 : x7_1 < (l0_0.length : Int)
   ·rw [if_pos c17] at H
    have c17b0 : decide (x7_1 < (l0_0.length : Int)) = true := decide_eq_true c17; clear c17
    by_cases c18 : 0 ≤ x7_1
    ·rw [if_pos c18] at H
     have c18b0 : decide (0 ≤ x7_1) = true := decide_eq_true c18; clear c18; replace H := Option.bind_eq_some_iff.mp H; obtain ⟨⟨t312, t313⟩, A190, H⟩ := H; dsimp only at H; have A19 := mk0 A190; clear A190
     by_cases c20 : t313 = true
     ·subst c20
      (have H1 : (if x7_1 < (x311000_1.length : Int) then (furrowref14_Scale.l0 k1 a1 (wrap64 (x7_1 + 1)) l0_0 a0_1 (x311000_1.set (x7_1 : Int).toNat t312) t309) else (none)) = some (r1, r2, r3, r4) := by rw [if_pos rfl] at H; exact H); clear H; have H := H1; clear H1
      by_cases c21 : x7_1 < (x311000_1.length : Int)
      ·rw [if_pos c21] at H
       have c21b0 : decide (x7_1 < (x311000_1.length : Int)) = true := decide_eq_true c21; clear c21; obtain ⟨y314, hy314⟩ : ∃ y_ : List Int, y_ = (x311000_1.set (x7_1 : Int).toNat t312) := ⟨_, rfl⟩; (replace H : (furrowref14_Scale.l0 k1 a1 (wrap64 (x7_1 + 1)) l0_0 a0_1 y314 t309) = some (r1, r2, r3, r4) := by first | (rw [hy314]; with_reducible exact H) | (have H2_ := (Option.bind_some _ _).symm.trans H; rw [hy314]; with_reducible exact H2_) | (have H2_ := (Option.bind_some _ _).symm.trans H; with_reducible exact H2_) | with_reducible exact H | (rw [hy314]; exact H) | exact H); have Ny314 := mk0 hy314; clear hy314; have H' := mk0 H; clear H; have hnb23 := NB303_304.out; have hnc23 := NB304_303.out; have hnb24 := NB303_305.out; have hnc24 := NB305_303.out; have hnb25 := NB303_310.out; have hnc25 := NB310_303.out; obtain ⟨hcz26_0, hcz26_1, hfz26_0, hfz26_1⟩ := cL2 BK303; have p311 : 0 ≤ (x7_1 : Int) := of_decide_eq_true (by first | (with_reducible assumption) | assumption); have q311 : x7_1 < (l0_0.length : Int) := of_decide_eq_true (by first | (with_reducible assumption) | assumption); obtain ⟨ad311, e311, hx311_0⟩ := Kd.at_int HR0_0.out x7_1 p311 q311
       cases e311
       replace hx311_0 := (HB.out.cell (World.block_lt_of_cell? w _ hx311_0)).trans hx311_0; replace p311 := eq_true p311; replace q311 := eq_true q311
       go_wp2_with (first | ((with_reducible refine gate_dst (N := 30) rfl ?_); refine gsM (some 30) Tryd.func40 #[.int .i64 (rd l0_0 x7_1), .int .i64 a1] ?_; (with_reducible refine (furrowref4_Mul.calls k1 (rd l0_0 x7_1) a1 t312 true _ A19.out).mono ?_); rintro e w' ⟨rfl, ⟨nd, rfl⟩⟩; refine ⟨_, rfl, ?_⟩; (try (rw [drewN_self wr]; generalize hq_ : World.drewN wr _ = wr; have n0_ : Aside0 (Kd.R (Kd.int .i64) 2 wr w.heap.size (fun _ => True) u311000 x311000_1) := ⟨by rw [← hq_]; exact (uR HO_311000.out)⟩; have n1_ : Aside0 (wr.heap[gb303]? = some (.cells #[.slice (some ad311) l0_0.length c0_0, .int .i64 a0_1] 31 (0, 0))) := ⟨by rw [← hq_]; exact (uB BK303.out)⟩; have n2_ : Aside0 (wr.heap[gb304]? = some (.cells #[.slice none 0 0, .int .i64 x305001_1] 31 (0, 0))) := ⟨by rw [← hq_]; exact (uB BK304.out)⟩; have n3_ : Aside0 (wr.heap[gb305]? = some (.cells #[.slice none 0 0, .int .i64 x306001_1] 34 (0, 0))) := ⟨by rw [← hq_]; exact (uB BK305.out)⟩; have n4_ : Aside0 (wr.heap[gb310]? = some (.cells #[u311000, .int .i64 t309] 31 (0, 0))) := ⟨by rw [← hq_]; exact (uB BK310.out)⟩; have n5_ : Aside0 (Below w.heap.size w wr) := ⟨by rw [← hq_]; exact bH⟩; clear HO_311000 BK303 BK304 BK305 BK310 HB hq_; have HO_311000 := n0_; have BK303 := n1_; have BK304 := n2_; have BK305 := n3_; have BK310 := n4_; have HB := n5_; clear n0_ n1_ n2_ n3_ n4_ n5_)); have hnb27 := NB310_304.out; have hnc27 := NB304_310.out; have hnb28 := NB310_305.out; have hnc28 := NB305_310.out; obtain ⟨hcz29_0, hcz29_1, hfz29_0, hfz29_1⟩ := cL2 BK310; have p22 : 0 ≤ (x7_1 : Int) := of_decide_eq_true (by first | (with_reducible assumption) | assumption); have q22 : (x7_1 : Int) < ((x311000_1.length : Int) : Int) := of_decide_eq_true (by first | (with_reducible assumption) | assumption); obtain ⟨go22, co22, eo22, gb22, gl22, cl22, HG22⟩ := Kd.R_form HO_311000.out (by omega); (first | cases eo22 | (injection eo22 with ea_ en_ ec_; (first | subst ea_ | (injection ea_ with ea_; subst ea_)); subst ec_; clear en_)); have GB22 := mk0 gb22; have GG22 := mk0 HG22; clear gb22 gl22 HG22; obtain ⟨hx22_0, hf22_0⟩ := Kd.R_celln 0 HO_311000.out (x7_1 : Int) p22 q22; replace p22 := eq_true p22; replace q22 := eq_true q22; obtain ⟨hy30_, hz30_⟩ := Kd.R_celln 0 HO_311000.out (x7_1 : Int) (of_decide_eq_true (by first | (with_reducible assumption) | assumption)) (of_decide_eq_true (by first | (with_reducible assumption) | assumption)); have HP30 := Kd.R_putg HO_311000.out (x7_1 : Int) t312) | ((with_reducible refine gate_store (t := 2) (p := 41) rfl ?_); refine store_event (t := 2) (p := 41) (v := ?vo_w31) (w1 := (wr.setCell ⟨go22, (x7_1 : Int).toNat, none⟩ (.int .i64 t312))) ?hg ?ho ?hn ?hr ?_; (case ho => rfl); (case hg => rfl); (case hn => rfl); (case hr => first | (go_simp; done) | (go_simp; rfl)); intro w31 hw; have hg : wr.grownBy w31 (some go22) := (by rw [hw]; exact HP30.2); have hp_ : Kd.R (Kd.int .i64) 2 w31 w.heap.size (fun _ => True) (.slice (some ⟨go22, 0, none⟩) x311000_1.length co22) y314 := (by rw [hw, Ny314.out]; exact HP30.1); clear HP30; replace BK303 := mk0 (blk_grown (g := gb303) (o := .cells #[.slice (some ad311) l0_0.length c0_0, .int .i64 a0_1] 31 (0, 0)) (uB BK303.out) hg (Kd.R_ne HO_311000.out BK303.out (by decide))); replace BK304 := mk0 (blk_grown (g := gb304) (o := .cells #[.slice none 0 0, .int .i64 x305001_1] 31 (0, 0)) (uB BK304.out) hg (Kd.R_ne HO_311000.out BK304.out (by decide))); replace BK305 := mk0 (blk_grown (g := gb305) (o := .cells #[.slice none 0 0, .int .i64 x306001_1] 34 (0, 0)) (uB BK305.out) hg (Kd.R_ne HO_311000.out BK305.out (by decide))); replace BK310 := mk0 (blk_grown (g := gb310) (o := .cells #[.slice (some ⟨go22, 0, none⟩) x311000_1.length co22, .int .i64 t309] 31 (0, 0)) (uB BK310.out) hg (Kd.R_ne HO_311000.out BK310.out (by decide))); replace HO_311000 := mk0 (hp_); replace HB := mk0 ((by rw [hw]; exact below_set (HB.out) GB22.out : Below w.heap.size w w31)); clear hg hw hp_))
       go_roundg k1
       case measure => have := HK1.out; omega
       case rel => exact ⟨(wrap64 (x7_1 + 1)), (x305001_1), (x306001_1), (y314), (.slice (some ⟨go22, 0, none⟩) x311000_1.length co22), (by first | rfl | (simp; done) | (simp [*]; done) | (simp [bne_nil_, beq_nil_]; done)), H', ⟨by have := HK1.out; omega⟩, ⟨uR HO_311000.out⟩, ⟨uB BK303.out⟩, ⟨uB BK304.out⟩, ⟨uB BK305.out⟩, ⟨uB BK310.out⟩, ⟨bH⟩⟩
      ·rw [if_neg c21] at H
       exact absurd H (by simp)
     ·replace c20 := Bool.eq_false_iff.mpr c20
      subst c20; (have H1 : ((furrowref14_over.f).bind fun bt315 => (some (([] : List Int), 0, bt315.1, bt315.2))) = some (r1, r2, r3, r4) := by rw [if_neg (show ¬ (false = true) by decide)] at H; exact H); clear H; have H := H1; clear H1; replace H := Option.bind_eq_some_iff.mp H; obtain ⟨⟨t315, t318⟩, A320, H⟩ := H; dsimp only at H; have A32 := mk0 A320; clear A320; simp only [Option.some.injEq, Prod.mk.injEq] at H; obtain ⟨rfl, rfl, rfl, rfl⟩ := H; have hnb33 := NB303_304.out; have hnc33 := NB304_303.out; have hnb34 := NB303_305.out; have hnc34 := NB305_303.out; have hnb35 := NB303_310.out; have hnc35 := NB310_303.out; obtain ⟨hcz36_0, hcz36_1, hfz36_0, hfz36_1⟩ := cL2 BK303; have p311 : 0 ≤ (x7_1 : Int) := of_decide_eq_true (by first | (with_reducible assumption) | assumption); have q311 : x7_1 < (l0_0.length : Int) := of_decide_eq_true (by first | (with_reducible assumption) | assumption); obtain ⟨ad311, e311, hx311_0⟩ := Kd.at_int HR0_0.out x7_1 p311 q311
      cases e311
      replace hx311_0 := (HB.out.cell (World.block_lt_of_cell? w _ hx311_0)).trans hx311_0; replace p311 := eq_true p311; replace q311 := eq_true q311
      go_wp2_with (first | ((with_reducible refine gate_dst (N := 30) rfl ?_); refine gsM (some 30) Tryd.func40 #[.int .i64 (rd l0_0 x7_1), .int .i64 a1] ?_; (with_reducible refine (furrowref4_Mul.calls k1 (rd l0_0 x7_1) a1 t312 false _ A19.out).mono ?_); rintro e w' ⟨rfl, ⟨nd, rfl⟩⟩; refine ⟨_, rfl, ?_⟩; (try (rw [drewN_self wr]; generalize hq_ : World.drewN wr _ = wr; have n0_ : Aside0 (Kd.R (Kd.int .i64) 2 wr w.heap.size (fun _ => True) u311000 x311000_1) := ⟨by rw [← hq_]; exact (uR HO_311000.out)⟩; have n1_ : Aside0 (wr.heap[gb303]? = some (.cells #[.slice (some ad311) l0_0.length c0_0, .int .i64 a0_1] 31 (0, 0))) := ⟨by rw [← hq_]; exact (uB BK303.out)⟩; have n2_ : Aside0 (wr.heap[gb304]? = some (.cells #[.slice none 0 0, .int .i64 x305001_1] 31 (0, 0))) := ⟨by rw [← hq_]; exact (uB BK304.out)⟩; have n3_ : Aside0 (wr.heap[gb305]? = some (.cells #[.slice none 0 0, .int .i64 x306001_1] 34 (0, 0))) := ⟨by rw [← hq_]; exact (uB BK305.out)⟩; have n4_ : Aside0 (wr.heap[gb310]? = some (.cells #[u311000, .int .i64 t309] 31 (0, 0))) := ⟨by rw [← hq_]; exact (uB BK310.out)⟩; have n5_ : Aside0 (Below w.heap.size w wr) := ⟨by rw [← hq_]; exact bH⟩; clear HO_311000 BK303 BK304 BK305 BK310 HB hq_; have HO_311000 := n0_; have BK303 := n1_; have BK304 := n2_; have BK305 := n3_; have BK310 := n4_; have HB := n5_; clear n0_ n1_ n2_ n3_ n4_ n5_)); clear HO_311000) | ((with_reducible refine gate_dst (N := 36) rfl ?_); refine gsM (some 36) Tryd.func37 #[] ?_; (with_reducible refine (furrowref14_over.calls  t315 t318 _ A32.out).mono ?_); rintro e w37 ⟨v316, rfl, ho0, hb⟩; refine ⟨_, rfl, ?_⟩; have HO317 := mk0 (Kd.R_lower ho0 (below_size bH)); replace BK303 := bB BK303 hb; replace BK304 := bB BK304 hb; replace BK305 := bB BK305 hb; replace BK310 := bB BK310 hb; replace HB := hbB bH hb; (try clear hb); (try clear hb2); (try clear hk); (try clear hi); (try clear ho0); have hnb38 := NB304_305.out; have hnc38 := NB305_304.out; have hnb39 := NB304_310.out; have hnc39 := NB310_304.out; obtain ⟨hcz40_0, hcz40_1, hfz40_0, hfz40_1⟩ := cL2 BK304; obtain ⟨Ao41, co41, eo41⟩ := Kd.R_slice HO317.out; subst eo41; have hnb42 := NB305_310.out; have hnc42 := NB310_305.out; obtain ⟨hcz43_0, hcz43_1, hfz43_0, hfz43_1⟩ := cL2 BK305))
      refine bodyPost_ret (results_cc rfl _ _ gb304 gb305 31 34 #[.slice none 0 0, .int .i64 0] #[.slice Ao41 t315.length co41, .int .i64 t318] (0, 0) (0, 0) _ _ rfl (by (with_reducible repeat (first | refine blk_drewN ?_ _ | refine blk_drew ?_ | refine blk_alloc ?_ _)); refine blk_far ?_ NB304_305.out _; (with_reducible repeat (first | refine blk_drewN ?_ _ | refine blk_drew ?_ | refine blk_alloc ?_ _)); refine blk_far ?_ NB304_305.out _; (with_reducible repeat (first | refine blk_drewN ?_ _ | refine blk_drew ?_ | refine blk_alloc ?_ _)); refine blk_put (cs := #[.slice none 0 0, .int .i64 x305001_1]) ?_ 1 _ rfl; (with_reducible repeat (first | refine blk_drewN ?_ _ | refine blk_drew ?_ | refine blk_alloc ?_ _)); refine blk_put (cs := #[.slice none 0 0, .int .i64 x305001_1]) ?_ 0 _ rfl; (with_reducible repeat (first | refine blk_drewN ?_ _ | refine blk_drew ?_ | refine blk_alloc ?_ _)); exact BK304.out) Tryd.underlying31 rfl (by kernel_rfl) rfl (by (with_reducible repeat (first | refine blk_drewN ?_ _ | refine blk_drew ?_ | refine blk_alloc ?_ _)); refine blk_put (cs := #[.slice Ao41 t315.length co41, .int .i64 x306001_1]) ?_ 1 _ rfl; (with_reducible repeat (first | refine blk_drewN ?_ _ | refine blk_drew ?_ | refine blk_alloc ?_ _)); refine blk_put (cs := #[.slice none 0 0, .int .i64 x306001_1]) ?_ 0 _ rfl; (with_reducible repeat (first | refine blk_drewN ?_ _ | refine blk_drew ?_ | refine blk_alloc ?_ _)); refine blk_far ?_ NB305_304.out _; (with_reducible repeat (first | refine blk_drewN ?_ _ | refine blk_drew ?_ | refine blk_alloc ?_ _)); refine blk_far ?_ NB305_304.out _; (with_reducible repeat (first | refine blk_drewN ?_ _ | refine blk_drew ?_ | refine blk_alloc ?_ _)); exact BK305.out) Tryd.underlying34 rfl (by kernel_rfl)) rfl ?_; exact ⟨_, _, rE, nK, uR (Kd.R_mono (Kd.R_far (p := ⟨gb305, 1, none⟩) (Kd.R_far (p := ⟨gb305, 0, none⟩) (Kd.R_far (p := ⟨gb304, 1, none⟩) (Kd.R_far (p := ⟨gb304, 0, none⟩) (Kd.R_types (Kd.R_types HO317.out BK304.out (by decide)) BK305.out (by decide)) (fun _ hk => hk.1.2) (.slice none 0 0)) (fun _ hk => hk.1.2) (.int .i64 0)) (fun _ hk => hk.2) (.slice Ao41 t315.length co41)) (fun _ hk => hk.2) (.int .i64 t318)) (fun _ hk => trivial)), bH⟩
    ·rw [if_neg c18] at H
     exact absurd H (by simp)
   ·rw [if_neg c17] at H
    have c17b0 : decide (x7_1 < (l0_0.length : Int)) = false := decide_eq_false c17; clear c17; replace H := Option.bind_eq_some_iff.mp H; obtain ⟨⟨t319, t320⟩, A440, H⟩ := H; dsimp only at H; have A44 := mk0 A440; clear A440
    by_cases c45 : t320 = true
    ·subst c45
     (have H1 : (some (x311000_1, t319, ([] : List (S86)), 0)) = some (r1, r2, r3, r4) := by rw [if_pos rfl] at H; exact H); clear H; have H := H1; clear H1; simp only [Option.some.injEq, Prod.mk.injEq] at H; obtain ⟨rfl, rfl, rfl, rfl⟩ := H; have hnb46 := NB303_304.out; have hnc46 := NB304_303.out; have hnb47 := NB303_305.out; have hnc47 := NB305_303.out; have hnb48 := NB303_310.out; have hnc48 := NB310_303.out; obtain ⟨hcz49_0, hcz49_1, hfz49_0, hfz49_1⟩ := cL2 BK303
     go_wp2_with (first | ((with_reducible refine gate_dst (N := 46) rfl ?_); refine gsM (some 46) Tryd.func40 #[.int .i64 a0_1, .int .i64 a1] ?_; (with_reducible refine (furrowref4_Mul.calls k1 a0_1 a1 t319 true _ A44.out).mono ?_); rintro e w' ⟨rfl, ⟨nd, rfl⟩⟩; refine ⟨_, rfl, ?_⟩; (try (rw [drewN_self wr]; generalize hq_ : World.drewN wr _ = wr; have n0_ : Aside0 (Kd.R (Kd.int .i64) 2 wr w.heap.size (fun _ => True) u311000 x311000_1) := ⟨by rw [← hq_]; exact (uR HO_311000.out)⟩; have n1_ : Aside0 (wr.heap[gb303]? = some (.cells #[.slice A0_0 l0_0.length c0_0, .int .i64 a0_1] 31 (0, 0))) := ⟨by rw [← hq_]; exact (uB BK303.out)⟩; have n2_ : Aside0 (wr.heap[gb304]? = some (.cells #[.slice none 0 0, .int .i64 x305001_1] 31 (0, 0))) := ⟨by rw [← hq_]; exact (uB BK304.out)⟩; have n3_ : Aside0 (wr.heap[gb305]? = some (.cells #[.slice none 0 0, .int .i64 x306001_1] 34 (0, 0))) := ⟨by rw [← hq_]; exact (uB BK305.out)⟩; have n4_ : Aside0 (wr.heap[gb310]? = some (.cells #[u311000, .int .i64 t309] 31 (0, 0))) := ⟨by rw [← hq_]; exact (uB BK310.out)⟩; have n5_ : Aside0 (Below w.heap.size w wr) := ⟨by rw [← hq_]; exact bH⟩; clear HO_311000 BK303 BK304 BK305 BK310 HB hq_; have HO_311000 := n0_; have BK303 := n1_; have BK304 := n2_; have BK305 := n3_; have BK310 := n4_; have HB := n5_; clear n0_ n1_ n2_ n3_ n4_ n5_)); have hnb50 := NB310_304.out; have hnc50 := NB304_310.out; have hnb51 := NB310_305.out; have hnc51 := NB305_310.out; obtain ⟨hcz52_0, hcz52_1, hfz52_0, hfz52_1⟩ := cL2 BK310; obtain ⟨Ao53, co53, eo53⟩ := Kd.R_slice HO_311000.out; subst eo53; have hnb54 := NB304_305.out; have hnc54 := NB305_304.out; obtain ⟨hcz55_0, hcz55_1, hfz55_0, hfz55_1⟩ := cL2 BK304; obtain ⟨hcz56_0, hcz56_1, hfz56_0, hfz56_1⟩ := cL2 BK305))
     refine bodyPost_ret (results_cc rfl _ _ gb304 gb305 31 34 #[.slice Ao53 x311000_1.length co53, .int .i64 t319] #[.slice none 0 0, .int .i64 0] (0, 0) (0, 0) _ _ rfl (by (with_reducible repeat (first | refine blk_drewN ?_ _ | refine blk_drew ?_ | refine blk_alloc ?_ _)); refine blk_far ?_ NB304_305.out _; (with_reducible repeat (first | refine blk_drewN ?_ _ | refine blk_drew ?_ | refine blk_alloc ?_ _)); refine blk_far ?_ NB304_305.out _; (with_reducible repeat (first | refine blk_drewN ?_ _ | refine blk_drew ?_ | refine blk_alloc ?_ _)); refine blk_put (cs := #[.slice Ao53 x311000_1.length co53, .int .i64 x305001_1]) ?_ 1 _ rfl; (with_reducible repeat (first | refine blk_drewN ?_ _ | refine blk_drew ?_ | refine blk_alloc ?_ _)); refine blk_put (cs := #[.slice none 0 0, .int .i64 x305001_1]) ?_ 0 _ rfl; (with_reducible repeat (first | refine blk_drewN ?_ _ | refine blk_drew ?_ | refine blk_alloc ?_ _)); refine blk_far ?_ NB304_310.out _; (with_reducible repeat (first | refine blk_drewN ?_ _ | refine blk_drew ?_ | refine blk_alloc ?_ _)); exact BK304.out) Tryd.underlying31 rfl (by kernel_rfl) rfl (by (with_reducible repeat (first | refine blk_drewN ?_ _ | refine blk_drew ?_ | refine blk_alloc ?_ _)); refine blk_put (cs := #[.slice none 0 0, .int .i64 x306001_1]) ?_ 1 _ rfl; (with_reducible repeat (first | refine blk_drewN ?_ _ | refine blk_drew ?_ | refine blk_alloc ?_ _)); refine blk_put (cs := #[.slice none 0 0, .int .i64 x306001_1]) ?_ 0 _ rfl; (with_reducible repeat (first | refine blk_drewN ?_ _ | refine blk_drew ?_ | refine blk_alloc ?_ _)); refine blk_far ?_ NB305_304.out _; (with_reducible repeat (first | refine blk_drewN ?_ _ | refine blk_drew ?_ | refine blk_alloc ?_ _)); refine blk_far ?_ NB305_304.out _; (with_reducible repeat (first | refine blk_drewN ?_ _ | refine blk_drew ?_ | refine blk_alloc ?_ _)); refine blk_far ?_ NB305_310.out _; (with_reducible repeat (first | refine blk_drewN ?_ _ | refine blk_drew ?_ | refine blk_alloc ?_ _)); exact BK305.out) Tryd.underlying34 rfl (by kernel_rfl)) rfl ?_; exact ⟨_, _, rE, uR (Kd.R_mono (Kd.R_far (p := ⟨gb305, 1, none⟩) (Kd.R_far (p := ⟨gb305, 0, none⟩) (Kd.R_far (p := ⟨gb304, 1, none⟩) (Kd.R_far (p := ⟨gb304, 0, none⟩) (Kd.R_far (p := ⟨gb310, 1, none⟩) (Kd.R_types (Kd.R_types (Kd.R_types HO_311000.out BK310.out (by decide)) BK304.out (by decide)) BK305.out (by decide)) (fun _ hk => hk.1.1.2) (.int .i64 t319)) (fun _ hk => hk.1.2) (.slice Ao53 x311000_1.length co53)) (fun _ hk => hk.1.2) (.int .i64 t319)) (fun _ hk => hk.2) (.slice none 0 0)) (fun _ hk => hk.2) (.int .i64 0)) (fun _ hk => trivial)), nK, bH⟩
    ·replace c45 := Bool.eq_false_iff.mpr c45
     subst c45; (have H1 : ((furrowref14_over.f).bind fun bt321 => (some (([] : List Int), 0, bt321.1, bt321.2))) = some (r1, r2, r3, r4) := by rw [if_neg (show ¬ (false = true) by decide)] at H; exact H); clear H; have H := H1; clear H1; replace H := Option.bind_eq_some_iff.mp H; obtain ⟨⟨t321, t324⟩, A570, H⟩ := H; dsimp only at H; have A57 := mk0 A570; clear A570; simp only [Option.some.injEq, Prod.mk.injEq] at H; obtain ⟨rfl, rfl, rfl, rfl⟩ := H; have hnb58 := NB303_304.out; have hnc58 := NB304_303.out; have hnb59 := NB303_305.out; have hnc59 := NB305_303.out; have hnb60 := NB303_310.out; have hnc60 := NB310_303.out; obtain ⟨hcz61_0, hcz61_1, hfz61_0, hfz61_1⟩ := cL2 BK303
     go_wp2_with (first | ((with_reducible refine gate_dst (N := 46) rfl ?_); refine gsM (some 46) Tryd.func40 #[.int .i64 a0_1, .int .i64 a1] ?_; (with_reducible refine (furrowref4_Mul.calls k1 a0_1 a1 t319 false _ A44.out).mono ?_); rintro e w' ⟨rfl, ⟨nd, rfl⟩⟩; refine ⟨_, rfl, ?_⟩; (try (rw [drewN_self wr]; generalize hq_ : World.drewN wr _ = wr; have n0_ : Aside0 (Kd.R (Kd.int .i64) 2 wr w.heap.size (fun _ => True) u311000 x311000_1) := ⟨by rw [← hq_]; exact (uR HO_311000.out)⟩; have n1_ : Aside0 (wr.heap[gb303]? = some (.cells #[.slice A0_0 l0_0.length c0_0, .int .i64 a0_1] 31 (0, 0))) := ⟨by rw [← hq_]; exact (uB BK303.out)⟩; have n2_ : Aside0 (wr.heap[gb304]? = some (.cells #[.slice none 0 0, .int .i64 x305001_1] 31 (0, 0))) := ⟨by rw [← hq_]; exact (uB BK304.out)⟩; have n3_ : Aside0 (wr.heap[gb305]? = some (.cells #[.slice none 0 0, .int .i64 x306001_1] 34 (0, 0))) := ⟨by rw [← hq_]; exact (uB BK305.out)⟩; have n4_ : Aside0 (wr.heap[gb310]? = some (.cells #[u311000, .int .i64 t309] 31 (0, 0))) := ⟨by rw [← hq_]; exact (uB BK310.out)⟩; have n5_ : Aside0 (Below w.heap.size w wr) := ⟨by rw [← hq_]; exact bH⟩; clear HO_311000 BK303 BK304 BK305 BK310 HB hq_; have HO_311000 := n0_; have BK303 := n1_; have BK304 := n2_; have BK305 := n3_; have BK310 := n4_; have HB := n5_; clear n0_ n1_ n2_ n3_ n4_ n5_)); clear HO_311000) | ((with_reducible refine gate_dst (N := 52) rfl ?_); refine gsM (some 52) Tryd.func37 #[] ?_; (with_reducible refine (furrowref14_over.calls  t321 t324 _ A57.out).mono ?_); rintro e w62 ⟨v322, rfl, ho0, hb⟩; refine ⟨_, rfl, ?_⟩; have HO323 := mk0 (Kd.R_lower ho0 (below_size bH)); replace BK303 := bB BK303 hb; replace BK304 := bB BK304 hb; replace BK305 := bB BK305 hb; replace BK310 := bB BK310 hb; replace HB := hbB bH hb; (try clear hb); (try clear hb2); (try clear hk); (try clear hi); (try clear ho0); have hnb63 := NB304_305.out; have hnc63 := NB305_304.out; have hnb64 := NB304_310.out; have hnc64 := NB310_304.out; obtain ⟨hcz65_0, hcz65_1, hfz65_0, hfz65_1⟩ := cL2 BK304; obtain ⟨Ao66, co66, eo66⟩ := Kd.R_slice HO323.out; subst eo66; have hnb67 := NB305_310.out; have hnc67 := NB310_305.out; obtain ⟨hcz68_0, hcz68_1, hfz68_0, hfz68_1⟩ := cL2 BK305))
     refine bodyPost_ret (results_cc rfl _ _ gb304 gb305 31 34 #[.slice none 0 0, .int .i64 0] #[.slice Ao66 t321.length co66, .int .i64 t324] (0, 0) (0, 0) _ _ rfl (by (with_reducible repeat (first | refine blk_drewN ?_ _ | refine blk_drew ?_ | refine blk_alloc ?_ _)); refine blk_far ?_ NB304_305.out _; (with_reducible repeat (first | refine blk_drewN ?_ _ | refine blk_drew ?_ | refine blk_alloc ?_ _)); refine blk_far ?_ NB304_305.out _; (with_reducible repeat (first | refine blk_drewN ?_ _ | refine blk_drew ?_ | refine blk_alloc ?_ _)); refine blk_put (cs := #[.slice none 0 0, .int .i64 x305001_1]) ?_ 1 _ rfl; (with_reducible repeat (first | refine blk_drewN ?_ _ | refine blk_drew ?_ | refine blk_alloc ?_ _)); refine blk_put (cs := #[.slice none 0 0, .int .i64 x305001_1]) ?_ 0 _ rfl; (with_reducible repeat (first | refine blk_drewN ?_ _ | refine blk_drew ?_ | refine blk_alloc ?_ _)); exact BK304.out) Tryd.underlying31 rfl (by kernel_rfl) rfl (by (with_reducible repeat (first | refine blk_drewN ?_ _ | refine blk_drew ?_ | refine blk_alloc ?_ _)); refine blk_put (cs := #[.slice Ao66 t321.length co66, .int .i64 x306001_1]) ?_ 1 _ rfl; (with_reducible repeat (first | refine blk_drewN ?_ _ | refine blk_drew ?_ | refine blk_alloc ?_ _)); refine blk_put (cs := #[.slice none 0 0, .int .i64 x306001_1]) ?_ 0 _ rfl; (with_reducible repeat (first | refine blk_drewN ?_ _ | refine blk_drew ?_ | refine blk_alloc ?_ _)); refine blk_far ?_ NB305_304.out _; (with_reducible repeat (first | refine blk_drewN ?_ _ | refine blk_drew ?_ | refine blk_alloc ?_ _)); refine blk_far ?_ NB305_304.out _; (with_reducible repeat (first | refine blk_drewN ?_ _ | refine blk_drew ?_ | refine blk_alloc ?_ _)); exact BK305.out) Tryd.underlying34 rfl (by kernel_rfl)) rfl ?_; exact ⟨_, _, rE, nK, uR (Kd.R_mono (Kd.R_far (p := ⟨gb305, 1, none⟩) (Kd.R_far (p := ⟨gb305, 0, none⟩) (Kd.R_far (p := ⟨gb304, 1, none⟩) (Kd.R_far (p := ⟨gb304, 0, none⟩) (Kd.R_types (Kd.R_types HO323.out BK304.out (by decide)) BK305.out (by decide)) (fun _ hk => hk.1.2) (.slice none 0 0)) (fun _ hk => hk.1.2) (.int .i64 0)) (fun _ hk => hk.2) (.slice Ao66 t321.length co66)) (fun _ hk => hk.2) (.int .i64 t324)) (fun _ hk => trivial)), bH⟩

end Go.Proofs.YtmnifoeodohphaaDoor.X
