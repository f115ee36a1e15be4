-- PRINTED by print.py (a twelfth state) out of the translation. Not trusted: Lean checks it.
import Derived.Test.YtnkckdbjeemjeaaDoorXx0
namespace Go.Proofs.YtnkckdbjeemjeaaDoor.X
open Go.Proofs.YtnkckdbjeemjeaaDoor.Flt Go.Proofs.YtnkckdbjeemjeaaDoor.H Go.RowKit Go.Proofs.YtnkckdbjeemjeaaDoorW.PrintWords Go.Proofs.YtnkckdbjeemjeaaDoorW.PrintLast Go.Proofs.YtnkckdbjeemjeaaDoorW.PrintMore
attribute [local go_sem] max2_int min2_int max_two min_two max_three min_three max_four min_four   -- for this text's walks alone
set_option linter.unusedVariables false
set_option linter.unusedSimpArgs false

-- NOT PRINTED: function 62 (strconv_small)

-- NOT PRINTED: function 68 (strconv_log10Pow2)

-- NOT PRINTED: function 69 (bits_Len64)

-- NOT PRINTED: function 70 (strconv_bool2_int)

-- NOT PRINTED: function 63 (strconv_numDigits)

-- NOT PRINTED: function 64 (strconv_formatBase10)

-- NOT PRINTED: function 71 (strconv_isPowerOfTwo)

-- NOT PRINTED: function 73 (bits_TrailingZeros32)

-- NOT PRINTED: function 74 (bits_TrailingZeros64)

-- NOT PRINTED: function 72 (bits_TrailingZeros)

-- NOT PRINTED: function 65 (strconv_formatBits)

-- NOT PRINTED: function 56 (strconv_FormatInt_56)

-- NOT PRINTED: function 66 (abi_NoEscape)

-- NOT PRINTED: function 57 (strings_Builder_copyCheck)

-- NOT PRINTED: function 67 (bytealg_MakeNoZero)

-- NOT PRINTED: function 58 (strings_Builder_grow)

-- NOT PRINTED: function 41 (strings_Builder_Grow)

-- NOT PRINTED: function 42 (strings_Builder_WriteString)

-- NOT PRINTED: function 43 (strings_Builder_String)

-- NOT PRINTED: function 24 (strings_Join)

/-! ### expr_bracket: function 25 -/
def expr_bracket.f (a0 : ByteArray) (a1 : Bool) : Option (ByteArray) := if a1 = true then (if 1 + a0.size ≤ 9223372036854775807 then (if ((⟨#[40]⟩ : ByteArray) ++ a0).size + 1 ≤ 9223372036854775807 then (some (((⟨#[40]⟩ : ByteArray) ++ a0) ++ (⟨#[41]⟩ : ByteArray))) else (none)) else (none)) else (some a0)
set_option maxHeartbeats 8000000 in
set_option maxRecDepth 100000 in
theorem expr_bracket.calls (a0 : ByteArray) (a1 : Bool) (r : ByteArray) (w : World) (h : expr_bracket.f a0 a1 = some r) :
  Calls Tryd.prog 25 #[.string a0, .bool a1] w fun e w' => e = .returned (.string r) ∧ Drawn0 w w' := by
 have H : (if a1 = true then (if 1 + a0.size ≤ 9223372036854775807 then (if ((⟨#[40]⟩ : ByteArray) ++ a0).size + 1 ≤ 9223372036854775807 then (some (((⟨#[40]⟩ : ByteArray) ++ a0) ++ (⟨#[41]⟩ : ByteArray))) else (none)) else (none)) else (some a0)) = some r := h
 clear h
 by_cases c3 : a1 = true
 ·subst c3
  replace H := iT H
  by_cases c4 : 1 + a0.size ≤ 9223372036854775807
  ·rw [if_pos c4] at H
   have c4b0 := eq_true c4; have c4b1 := decide_eq_true c4; (try have c4b2 : (9223372036854775807 < 1 + a0.size) = False := eq_false (Nat.not_lt.2 c4))
   by_cases c5 : ((⟨#[40]⟩ : ByteArray) ++ a0).size + 1 ≤ 9223372036854775807
   ·rw [if_pos c5] at H
    have c5b0 := eq_true c5; have c5b1 := decide_eq_true c5; (try have c5b2 : (9223372036854775807 < ((⟨#[40]⟩ : ByteArray) ++ a0).size + 1) = False := eq_false (Nat.not_lt.2 c5)); have c5s := c5; simp only [ByteArray.size_append, show (⟨#[40]⟩ : ByteArray).size = 1 from rfl] at c5s; have c5b3 := eq_true c5s; have c5b4 := decide_eq_true c5s; have c5b5 := eq_false (Nat.not_lt.2 c5s); clear c5s; obtain rfl := Option.some.inj H; go_enter Tryd.func25, Tryd.ntmps25; go_wp2; go_ret; exact ⟨eK, by repeat (first | exact Drawn0.refl _ | apply Drawn0.step)⟩
   ·exact nO H c5
  ·exact nO H c4
 ·replace c3 := Bool.eq_false_iff.mpr c3
  subst c3; replace H := iF H; obtain rfl := Option.some.inj H; go_enter Tryd.func25, Tryd.ntmps25; go_wp2; go_ret; exact ⟨eK, by repeat (first | exact Drawn0.refl _ | apply Drawn0.step)⟩

/-! ### expr_level: function 26 -/
def expr_level.j0 : Nat → Int → Int → Bool → Option (Int)
 | 0, _, _, _ => none
 | k + 1, x3, x5, x6 => if x6 = true then (some (wrap64 ((wrap64 (x3 + 1)) + 1))) else (if x5 = 7 then (some (wrap64 (x3 + 1))) else (if x5 = 8 then (some (wrap64 (x3 + 1))) else (some x3)))
def expr_level.f (k : Nat) (a0_0 : Int) (a0_1 : Int) (a0_2 : ByteArray) (l0_3 : List (S26)) : Option (Int) := if a0_0 = 1 then (expr_level.j0 k 1 a0_0 (a0_0 == 1)) else (if a0_0 = 2 then (expr_level.j0 k 1 a0_0 (a0_0 == 2)) else (if a0_0 = 3 then (expr_level.j0 k 1 a0_0 (a0_0 == 3)) else (expr_level.j0 k 1 a0_0 (a0_0 == 4))))
theorem expr_level.mono_l : ∀ k, (∀ y0 y1 y2, LeO (expr_level.j0 k y0 y1 y2) (expr_level.j0 (k + 1) y0 y1 y2))
 | 0 => fun _ _ _ r h => by simp [expr_level.j0] at h
 | k + 1 => by
  have ih0 := expr_level.mono_l k
  ·intro y0 y1 y2
   unfold expr_level.j0
   repeat' first
   | (with_reducible exact ih0 _ _ _)
   | (with_reducible exact LeO.refl _)
   | (with_reducible exact LeO.none _)
   | (with_reducible refine LeO.ite ?_ ?_)
   | (with_reducible refine LeO.bind ?_ (fun _ => ?_))
   | exact ih0 _ _ _
   | exact LeO.none _
   | refine LeO.ite ?_ ?_
   | refine LeO.bind ?_ (fun _ => ?_)
theorem expr_level.mono : ∀ a0 a1 a2 a3 k, LeO (expr_level.f k a0 a1 a2 a3) (expr_level.f (k + 1) a0 a1 a2 a3) := by
 intro a0 a1 a2 a3 k
 have ih0 := expr_level.mono_l k
 unfold expr_level.f
 repeat' first
   | (with_reducible exact ih0 _ _ _)
   | (with_reducible exact LeO.refl _)
   | (with_reducible exact LeO.none _)
   | (with_reducible refine LeO.ite ?_ ?_)
   | (with_reducible refine LeO.bind ?_ (fun _ => ?_))
   | exact ih0 _ _ _
   | exact LeO.none _
   | refine LeO.ite ?_ ?_
   | refine LeO.bind ?_ (fun _ => ?_)
set_option maxHeartbeats 8000000 in
set_option maxRecDepth 100000 in
theorem expr_level.calls (k : Nat) (a0_0 : Int) (a0_1 : Int) (a0_2 : ByteArray) (A0_3 : Option Addr) (c0_3 : Nat) (l0_3 : List (S26)) (r : Int) (w : World) (hr0_3 : Kd.C k26 w A0_3 l0_3.length l0_3) (hc0_3 : l0_3.length ≤ c0_3) (h : expr_level.f k a0_0 a0_1 a0_2 l0_3 = some r) :
  Calls Tryd.prog 26 #[.agg #[.int .i64 a0_0, .int .i64 a0_1, .string a0_2, .slice A0_3 l0_3.length c0_3]] w fun e w' => e = .returned (.int .i64 r) ∧ Below w.heap.size w w' := by
 have hu26 := Tryd.underlying26
 have aA := mk0 hr0_3
 have aC := mk0 hc0_3
 clear hr0_3 hc0_3
 have HB := mk0 (Below.refl w.heap.size w)
 have H : (if a0_0 = 1 then (expr_level.j0 k 1 a0_0 (a0_0 == 1)) else (if a0_0 = 2 then (expr_level.j0 k 1 a0_0 (a0_0 == 2)) else (if a0_0 = 3 then (expr_level.j0 k 1 a0_0 (a0_0 == 3)) else (expr_level.j0 k 1 a0_0 (a0_0 == 4))))) = some r := h
 clear h
 have ae := mk0 H
 clear H
 go_enter Tryd.func26, Tryd.ntmps26
 go_upto_if 6 with (first | ((with_reducible refine gate_dst (N := 1) rfl ?_); refine bxE 1 #[.int .i64 a0_0, .int .i64 a0_1, .string a0_2, .slice A0_3 l0_3.length c0_3] 26 ?_; intro af hg w3 hbox hb; have aa := mk0 (hbox); have aD := gE (uL HB.out) hg; replace HB := hbB (uL HB.out) hb; clear hb hbox hg; obtain ⟨ag, ah, ai, aj, ak, al, am, ao⟩ := cL4 aa))
 (try simp only [AP])
 go_cut [6] (fun v6 wc => ∃ (kq : Nat) (x6_1 : Bool), v6 = .bool x6_1 ∧ Aside0 (expr_level.j0 kq 1 a0_0 x6_1 = some r) ∧ Aside0 (kq ≤ k) ∧ Aside0 (wc.heap[af]? = some (.cells #[.int .i64 a0_0, .int .i64 a0_1, .string a0_2, (.slice A0_3 l0_3.length c0_3)] 26 (0, 0))) ∧ Aside0 (Below w.heap.size w wc))
 case first =>
  have H := ae.out; clear ae
  by_cases c5 : a0_0 = 1
  ·rw [if_pos c5] at H
   obtain ⟨ab, ap⟩ := yQ c5; clear c5; (first | rw [ab] | (simp only [i64_w, i32_w]; rw [ab]) | skip); have H' := mk0 H; clear H; go_wp2
   go_meet
   case rel => exact ⟨_, ((a0_0 == 1)), eK, H', ⟨by first | omega | exact Nat.le_refl _⟩, ⟨uB aa.out⟩, ⟨bH⟩⟩
  ·rw [if_neg c5] at H
   obtain ⟨ab, ap⟩ := nQ c5; (first | rw [ab] | (simp only [i64_w, i32_w]; rw [ab]) | skip)
   by_cases c6 : a0_0 = 2
   ·rw [if_pos c6] at H
    obtain ⟨aq, ar⟩ := yQ c6; clear c6; have H' := mk0 H; clear H; go_wp2
    go_meet
    case rel => exact ⟨_, ((a0_0 == 2)), eK, H', ⟨by first | omega | exact Nat.le_refl _⟩, ⟨uB aa.out⟩, ⟨bH⟩⟩
   ·rw [if_neg c6] at H
    obtain ⟨aq, ar⟩ := nQ c6
    by_cases c7 : a0_0 = 3
    ·rw [if_pos c7] at H
     obtain ⟨au, av⟩ := yQ c7; clear c7; have H' := mk0 H; clear H; go_wp2
     go_meet
     case rel => exact ⟨_, ((a0_0 == 3)), eK, H', ⟨by first | omega | exact Nat.le_refl _⟩, ⟨uB aa.out⟩, ⟨bH⟩⟩
    ·rw [if_neg c7] at H
     obtain ⟨au, av⟩ := nQ c7; have H' := mk0 H; clear H; go_wp2
     go_meet
     case rel => exact ⟨_, ((a0_0 == 4)), eK, H', ⟨by first | omega | exact Nat.le_refl _⟩, ⟨uB aa.out⟩, ⟨bH⟩⟩
 case rest =>
  clear ae; (try clear ag ah ai aj ak al am ao); obtain ⟨kq, x6_1, rfl, HA, aE, aa, HB⟩ := hcut
  cases kq with
  | zero => exact absurd HA.out (by simp [expr_level.j0])
  | succ kj1 =>
   have H := HA.out; clear HA; simp only [expr_level.j0] at H
   by_cases c8 : x6_1 = true
   ·subst c8
    replace H := iT H; obtain rfl := Option.some.inj H; go_wp2; go_ret; exact ⟨by first | rfl | (simp [wrap64]; done) | decide, bH⟩
   ·replace c8 := Bool.eq_false_iff.mpr c8
    subst c8; replace H := iF H
    by_cases c9 : a0_0 = 7
    ·rw [if_pos c9] at H
     obtain ⟨aw, ax⟩ := yQ c9; clear c9; obtain rfl := Option.some.inj H; go_wp2; go_ret; exact ⟨by first | rfl | (simp [wrap64]; done) | decide, bH⟩
    ·rw [if_neg c9] at H
     obtain ⟨aw, ax⟩ := nQ c9
     by_cases ac : a0_0 = 8
     ·rw [if_pos ac] at H
      obtain ⟨ay, az⟩ := yQ ac; clear ac; obtain rfl := Option.some.inj H; go_wp2; go_ret; exact ⟨by first | rfl | (simp [wrap64]; done) | decide, bH⟩
     ·rw [if_neg ac] at H
      obtain ⟨ay, az⟩ := nQ ac; obtain rfl := Option.some.inj H; go_wp2; go_ret; exact ⟨by first | rfl | (simp [wrap64]; done) | decide, bH⟩

/-! ### furrowref4_Mul: function 10 -/
mutual
def furrowref4_Mul.j0 : Nat → Int → Int → Bool → Option (Int × Bool)
 | 0, _, _, _ => none
 | k + 1, x0, x1, x12 => if x12 = true then (some (0, true)) else (if x0 = (-1) then (if x1 = (-9223372036854775808) then (furrowref4_Mul.j1 k x0 x1 true) else (if x1 = (-1) then (furrowref4_Mul.j1 k x0 x1 (x0 == (-9223372036854775808))) else (furrowref4_Mul.j1 k x0 x1 false))) else (if x1 = (-1) then (furrowref4_Mul.j1 k x0 x1 (x0 == (-9223372036854775808))) else (furrowref4_Mul.j1 k x0 x1 false)))
def furrowref4_Mul.j1 : Nat → Int → Int → Bool → Option (Int × Bool)
 | 0, _, _, _ => none
 | k + 1, x0, x1, x26 => if x26 = true then (some (0, false)) else (if x1 = 0 then (none) else (if (wrap64 (Int.tdiv (wrap64 (x0 * x1)) x1)) = x0 then (some (wrap64 (x0 * x1), true)) else (some (0, false))))
end
def furrowref4_Mul.f (k : Nat) (a0 : Int) (a1 : Int) : Option (Int × Bool) := if a0 = 0 then (furrowref4_Mul.j0 k a0 a1 true) else (furrowref4_Mul.j0 k a0 a1 (a1 == 0))
theorem furrowref4_Mul.mono_l : ∀ k, (∀ y0 y1 y2, LeO (furrowref4_Mul.j0 k y0 y1 y2) (furrowref4_Mul.j0 (k + 1) y0 y1 y2)) ∧ (∀ y0 y1 y2, LeO (furrowref4_Mul.j1 k y0 y1 y2) (furrowref4_Mul.j1 (k + 1) y0 y1 y2))
 | 0 => by refine ⟨?_, ?_⟩ <;> intros <;> exact fun r h => by simp [furrowref4_Mul.j0, furrowref4_Mul.j1] at h
 | k + 1 => by
  obtain ⟨i0_, i1_⟩ := furrowref4_Mul.mono_l k; refine ⟨?_, ?_⟩ <;> intros
  ·unfold furrowref4_Mul.j0; exact lO_
  ·unfold furrowref4_Mul.j1; exact lO_
theorem furrowref4_Mul.mono : ∀ a0 a1 k, LeO (furrowref4_Mul.f k a0 a1) (furrowref4_Mul.f (k + 1) a0 a1) := by
 intro a0 a1 k
 obtain ⟨i0_, i1_⟩ := furrowref4_Mul.mono_l k; unfold furrowref4_Mul.f; exact lO_
set_option maxHeartbeats 8000000 in
set_option maxRecDepth 100000 in
theorem furrowref4_Mul.calls (k : Nat) (a0 : Int) (a1 : Int) (r1 : Int) (r2 : Bool) (w : World) (h : furrowref4_Mul.f k a0 a1 = some (r1, r2)) :
  Calls Tryd.prog 10 #[.int .i64 a0, .int .i64 a1] w fun e w' => e = .returned (.tuple #[.int .i64 r1, .bool r2]) ∧ Drawn0 w w' := by
 have H : (if a0 = 0 then (furrowref4_Mul.j0 k a0 a1 true) else (furrowref4_Mul.j0 k a0 a1 (a1 == 0))) = some (r1, r2) := h
 clear h
 have aj := mk0 H
 clear H
 go_enter Tryd.func10, Tryd.ntmps10
 go_upto_region 1 with (fail)
 go_cut [12] (fun v12 wc => ∃ (kq : Nat) (ag : Bool), v12 = .bool ag ∧ Aside0 (furrowref4_Mul.j0 kq a0 a1 ag = some (r1, r2)) ∧ Aside0 (kq ≤ k) ∧ Drawn0 w wc)
 case first =>
  have H := aj.out; clear aj
  by_cases c4 : a0 = 0
  ·rw [if_pos c4] at H
   obtain ⟨aa, am⟩ := yQ c4; clear c4; (first | rw [aa] | (simp only [i64_w, i32_w]; rw [aa]) | skip); have H' := mk0 H; clear H; go_wp2
   go_meet
   case rel => exact ⟨_, (true), eK, H', ⟨by first | omega | exact Nat.le_refl _⟩, by repeat (first | exact Drawn0.refl _ | apply Drawn0.step)⟩
  ·rw [if_neg c4] at H
   obtain ⟨aa, am⟩ := nQ c4; (first | rw [aa] | (simp only [i64_w, i32_w]; rw [aa]) | skip); have H' := mk0 H; clear H; go_wp2
   go_meet
   case rel => exact ⟨_, ((a1 == 0)), eK, H', ⟨by first | omega | exact Nat.le_refl _⟩, by repeat (first | exact Drawn0.refl _ | apply Drawn0.step)⟩
 case rest =>
  clear aj; obtain ⟨kq, ag, rfl, HA, ab, ⟨mc2, rfl⟩⟩ := hcut
  cases kq with
  | zero => exact absurd HA.out (by simp [furrowref4_Mul.j0])
  | succ kj2 =>
   have H := HA.out; clear HA; simp only [furrowref4_Mul.j0] at H
   by_cases c5 : ag = true
   ·subst c5
    replace H := iT H; simp only [Option.some.injEq, Prod.mk.injEq] at H; obtain ⟨rfl, rfl⟩ := H; go_wp2
    go_ret2
    exact ⟨eK, by repeat (first | exact Drawn0.refl _ | apply Drawn0.step)⟩
   ·replace c5 := Bool.eq_false_iff.mpr c5
    subst c5; replace H := iF H; have ak := mk0 H; clear H
    go_upto_region 3 with (fail)
    go_cut [26] (fun v26 wc => ∃ (kq : Nat) (ah : Bool), v26 = .bool ah ∧ Aside0 (furrowref4_Mul.j1 kq a0 a1 ah = some (r1, r2)) ∧ Aside0 (kq ≤ kj2) ∧ Drawn0 w wc)
    case first =>
     have H := ak.out; clear ak
     by_cases c7 : a0 = (-1)
     ·rw [if_pos c7] at H
      obtain ⟨ac, ao⟩ := yQ c7; clear c7; (first | rw [ac] | (simp only [i64_w, i32_w]; rw [ac]) | skip)
      by_cases c8 : a1 = (-9223372036854775808)
      ·rw [if_pos c8] at H
       obtain ⟨ap, aq⟩ := yQ c8; clear c8; have H' := mk0 H; clear H; go_wp2
       go_meet
       case rel => exact ⟨_, (true), eK, H', ⟨by have := ab.out; first | omega | exact Nat.le_refl _⟩, by repeat (first | exact Drawn0.refl _ | apply Drawn0.step)⟩
      ·rw [if_neg c8] at H
       obtain ⟨ap, aq⟩ := nQ c8
       by_cases c9 : a1 = (-1)
       ·rw [if_pos c9] at H
        obtain ⟨ar, au⟩ := yQ c9; clear c9; have H' := mk0 H; clear H; go_wp2
        go_meet
        case rel => exact ⟨_, ((a0 == (-9223372036854775808))), eK, H', ⟨by have := ab.out; first | omega | exact Nat.le_refl _⟩, by repeat (first | exact Drawn0.refl _ | apply Drawn0.step)⟩
       ·rw [if_neg c9] at H
        obtain ⟨ar, au⟩ := nQ c9; have H' := mk0 H; clear H; go_wp2
        go_meet
        case rel => exact ⟨_, (false), eK, H', ⟨by have := ab.out; first | omega | exact Nat.le_refl _⟩, by repeat (first | exact Drawn0.refl _ | apply Drawn0.step)⟩
     ·rw [if_neg c7] at H
      obtain ⟨ac, ao⟩ := nQ c7; (first | rw [ac] | (simp only [i64_w, i32_w]; rw [ac]) | skip)
      by_cases ae : a1 = (-1)
      ·rw [if_pos ae] at H
       obtain ⟨av, aw⟩ := yQ ae; clear ae; have H' := mk0 H; clear H; go_wp2
       go_meet
       case rel => exact ⟨_, ((a0 == (-9223372036854775808))), eK, H', ⟨by have := ab.out; first | omega | exact Nat.le_refl _⟩, by repeat (first | exact Drawn0.refl _ | apply Drawn0.step)⟩
      ·rw [if_neg ae] at H
       obtain ⟨av, aw⟩ := nQ ae; have H' := mk0 H; clear H; go_wp2
       go_meet
       case rel => exact ⟨_, (false), eK, H', ⟨by have := ab.out; first | omega | exact Nat.le_refl _⟩, by repeat (first | exact Drawn0.refl _ | apply Drawn0.step)⟩
    case rest =>
     clear ak; (try clear c5); obtain ⟨kq, ah, rfl, HA, az, ⟨mc5, rfl⟩⟩ := hcut
     cases kq with
     | zero => exact absurd HA.out (by simp [furrowref4_Mul.j1])
     | succ kj5 =>
      have H := HA.out; clear HA; simp only [furrowref4_Mul.j1] at H
      by_cases ai : ah = true
      ·subst ai
       replace H := iT H; simp only [Option.some.injEq, Prod.mk.injEq] at H; obtain ⟨rfl, rfl⟩ := H; go_wp2
       go_ret2
       exact ⟨eK, by repeat (first | exact Drawn0.refl _ | apply Drawn0.step)⟩
      ·replace ai := Bool.eq_false_iff.mpr ai
       subst ai; replace H := iF H
       by_cases al : a1 = 0
       ·exact nI H al
       ·rw [if_neg al] at H
        obtain ⟨aA, aC⟩ := nQ al
        by_cases af : (wrap64 (Int.tdiv (wrap64 (a0 * a1)) a1)) = a0
        ·rw [if_pos af] at H
         obtain ⟨ax, ay⟩ := yQ af; clear af; simp only [Option.some.injEq, Prod.mk.injEq] at H; obtain ⟨rfl, rfl⟩ := H; go_wp2
         go_ret2
         exact ⟨eK, by repeat (first | exact Drawn0.refl _ | apply Drawn0.step)⟩
        ·rw [if_neg af] at H
         obtain ⟨ax, ay⟩ := nQ af; simp only [Option.some.injEq, Prod.mk.injEq] at H; obtain ⟨rfl, rfl⟩ := H; go_wp2
         go_ret2
         exact ⟨eK, by repeat (first | exact Drawn0.refl _ | apply Drawn0.step)⟩

end Go.Proofs.YtnkckdbjeemjeaaDoor.X
