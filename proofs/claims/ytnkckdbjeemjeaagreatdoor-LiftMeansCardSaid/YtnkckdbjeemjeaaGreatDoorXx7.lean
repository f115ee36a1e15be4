-- PRINTED by print.py (a twelfth state) out of the translation. Not trusted: Lean checks it.
import Derived.Test.YtnkckdbjeemjeaaGreatDoorXx0
namespace Go.Proofs.YtnkckdbjeemjeaaGreatDoor.X
open Go.Proofs.YtnkckdbjeemjeaaGreatDoor.Flt Go.Proofs.YtnkckdbjeemjeaaGreatDoor.H Go.RowKit Go.Proofs.YtnkckdbjeemjeaaGreatDoorW.PrintWords Go.Proofs.YtnkckdbjeemjeaaGreatDoorW.PrintLast Go.Proofs.YtnkckdbjeemjeaaGreatDoorW.PrintMore
attribute [local go_sem] max2_int min2_int max_two min_two max_three min_three max_four min_four   -- for this text's walks alone
set_option linter.unusedVariables false
set_option linter.unusedSimpArgs false

-- NOT PRINTED: function 60 (reflectlite_TypeOf)

-- NOT PRINTED: function 61 (errors_is)

-- NOT PRINTED: function 40 (errors_Is)

-- NOT PRINTED: function 62 (reflectlite_ValueOf)

-- NOT PRINTED: function 63 (reflectlite_Value_Type)

-- NOT PRINTED: function 64 (reflectlite_Value_IsNil)

-- NOT PRINTED: function 87 (reflectlite_Value_Elem)

-- NOT PRINTED: function 88 (reflectlite_Value_Set)

-- NOT PRINTED: function 65 (errors_as)

-- NOT PRINTED: function 41 (errors_As)

/-! ### furrowref4_At: function 23 -/
def furrowref4_At.f (a0 : ByteArray) (a1 : Int) (a2 : Int) : Option ((List (S90)) × Int) := some ((([(⟨a0, a1⟩ : S90)] : List (S90))), a2)
set_option maxHeartbeats 8000000 in
set_option maxRecDepth 100000 in
theorem furrowref4_At.calls (a0 : ByteArray) (a1 : Int) (a2 : Int) (r1 : List (S90)) (r2 : Int) (w : World) (h : furrowref4_At.f a0 a1 a2 = some (r1, r2)) :
  Calls Tryz.prog 23 #[.string a0, .int .i64 a1, .int .i64 a2] w fun e w' => ∃ v0_ : Value, e = .returned (.agg #[v0_, .int .i64 r2]) ∧ Kd.R k90 90 w' w.heap.size (fun _ => True) v0_ r1 ∧ Below w.heap.size w w' := by
 have hu42 := Tryz.underlying42
 have hu90 := Tryz.underlying90
 have HB := mk0 (Below.refl w.heap.size w)
 have H : (some ((([(⟨a0, a1⟩ : S90)] : List (S90))), a2)) = some (r1, r2) := h
 clear h
 obtain ⟨y275, hy275⟩ : ∃ y_ : List (S90), y_ = (([(⟨a0, a1⟩ : S90)] : List (S90))) := ⟨_, rfl⟩
 replace H : (some (y275, a2)) = some (r1, r2) := by first | (rw [hy275]; with_reducible exact H) | (have H2_ := (Option.bind_some _ _).symm.trans H; rw [hy275]; with_reducible exact H2_) | (have H2_ := (Option.bind_some _ _).symm.trans H; with_reducible exact H2_) | with_reducible exact H | (rw [hy275]; exact H) | exact H
 have Ny275 := mk0 hy275
 clear hy275
 simp only [Option.some.injEq, Prod.mk.injEq] at H
 obtain ⟨rfl, rfl⟩ := H
 go_enter Tryz.func23, Tryz.ntmps23
 go_wp2_with (first | ((with_reducible refine gate_dst (N := 6) rfl ?_); refine bxE 6 #[.slice none 0 0, .int .i64 0] 42 ?_; intro gb274 hg w4 hbox hb; have BK274 := mk0 (hbox); have GW274 := gE (uL HB.out) hg; replace HB := hbB (uL HB.out) hb; clear hb hbox hg) | ((with_reducible refine gate_dst (N := 10) rfl ?_); refine Kd.R_lit k90 _ 90 ?hg (N := 10) ?hd (xs := ([(⟨a0, a1⟩ : S90)] : List (S90))) (inner := [.string a0, .int .i64 a1]) (ok := fun _ => True) (okp := fun _ => True) ?hr ?hp (fun _ hk => hk) trivial (Below.refl _ _) (Nat.le_refl _) (by simp) ?_; (case hd => rfl); (case hg => rfl); (case hr => first | (go_simp; done) | (go_simp; rfl)); (case hp => exact (Reps.c2 (show Kd.M k90 _ _ _ (⟨a0, a1⟩ : S90) [.string a0, .int .i64 a1] from (k90_mkM _ _ _ (⟨a0, a1⟩ : S90) )) (Reps.none _ _))); intro v276 w5 ho6 hb hg_ hnew_; clear hg_ hnew_; (first | rw [← Ny275.out] at ho6 | (simp only [Int.reduceToNat] at ho6; rw [← Ny275.out] at ho6)); have HO277 := mk0 (Kd.R_lower ho6 (below_size bH)); replace BK274 := bB BK274 hb; replace HB := hbB bH hb; clear hb ho6; obtain ⟨Ao7, co7, eo7⟩ := Kd.R_slice HO277.out; subst eo7; obtain ⟨hcz8_0, hcz8_1, hfz8_0, hfz8_1⟩ := cL2 BK274))
 refine bodyPost_ret (results_cell_row rfl _ _ gb274 42 #[.slice Ao7 y275.length co7, .int .i64 a2] (0, 0) _ rfl (kB) Tryz.underlying42 rfl (by kernel_rfl)) rfl ?_
 exact ⟨_, rE, uR (Kd.R_mono (Kd.R_far (p := ⟨gb274, 1, none⟩) (Kd.R_far (p := ⟨gb274, 0, none⟩) (Kd.R_types HO277.out BK274.out (by decide)) (fun _ hk => hk.2) (.slice Ao7 y275.length co7)) (fun _ hk => hk.2) (.int .i64 a2)) (fun _ hk => trivial)), bH⟩
 -- NOT PRINTED: function 95 (strconv_small)
 -- NOT PRINTED: function 101 (strconv_log10Pow2)
 -- NOT PRINTED: function 102 (bits_Len64)
 -- NOT PRINTED: function 103 (strconv_bool2_int)
 -- NOT PRINTED: function 96 (strconv_numDigits)
 -- NOT PRINTED: function 97 (strconv_formatBase10)
 -- NOT PRINTED: function 104 (strconv_isPowerOfTwo)
 -- NOT PRINTED: function 106 (bits_TrailingZeros32)
 -- NOT PRINTED: function 107 (bits_TrailingZeros64)
 -- NOT PRINTED: function 105 (bits_TrailingZeros)
 -- NOT PRINTED: function 98 (strconv_formatBits)
 -- NOT PRINTED: function 89 (strconv_FormatInt_89)
 -- NOT PRINTED: function 99 (abi_NoEscape)
 -- NOT PRINTED: function 90 (strings_Builder_copyCheck)
 -- NOT PRINTED: function 100 (bytealg_MakeNoZero)
 -- NOT PRINTED: function 91 (strings_Builder_grow)
 -- NOT PRINTED: function 67 (strings_Builder_Grow)
 -- NOT PRINTED: function 68 (strings_Builder_WriteString)
 -- NOT PRINTED: function 69 (strings_Builder_String)
 -- NOT PRINTED: function 43 (strings_Join)

/-! ### expr_bracket: function 44 -/
def expr_bracket.f (a0 : ByteArray) (a1 : Bool) : Option (ByteArray) := if a1 = true then (if 1 + a0.size ≤ 9223372036854775807 then (if ((⟨#[40]⟩ : ByteArray) ++ a0).size + 1 ≤ 9223372036854775807 then (some (((⟨#[40]⟩ : ByteArray) ++ a0) ++ (⟨#[41]⟩ : ByteArray))) else (none)) else (none)) else (some a0)
set_option maxHeartbeats 8000000 in
set_option maxRecDepth 100000 in
theorem expr_bracket.calls (a0 : ByteArray) (a1 : Bool) (r : ByteArray) (w : World) (h : expr_bracket.f a0 a1 = some r) :
  Calls Tryz.prog 44 #[.string a0, .bool a1] w fun e w' => e = .returned (.string r) ∧ Drawn0 w w' := by
 have H : (if a1 = true then (if 1 + a0.size ≤ 9223372036854775807 then (if ((⟨#[40]⟩ : ByteArray) ++ a0).size + 1 ≤ 9223372036854775807 then (some (((⟨#[40]⟩ : ByteArray) ++ a0) ++ (⟨#[41]⟩ : ByteArray))) else (none)) else (none)) else (some a0)) = some r := h
 clear h
 by_cases c3 : a1 = true
 ·subst c3
  replace H := iT H
  by_cases c4 : 1 + a0.size ≤ 9223372036854775807
  ·rw [if_pos c4] at H
   have c4b0 := eq_true c4; have c4b1 := decide_eq_true c4; (try have c4b2 : (9223372036854775807 < 1 + a0.size) = False := eq_false (Nat.not_lt.2 c4))
   by_cases c5 : ((⟨#[40]⟩ : ByteArray) ++ a0).size + 1 ≤ 9223372036854775807
   ·rw [if_pos c5] at H
    have c5b0 := eq_true c5; have c5b1 := decide_eq_true c5; (try have c5b2 : (9223372036854775807 < ((⟨#[40]⟩ : ByteArray) ++ a0).size + 1) = False := eq_false (Nat.not_lt.2 c5)); have c5s := c5; simp only [ByteArray.size_append, show (⟨#[40]⟩ : ByteArray).size = 1 from rfl] at c5s; have c5b3 := eq_true c5s; have c5b4 := decide_eq_true c5s; have c5b5 := eq_false (Nat.not_lt.2 c5s); clear c5s; obtain rfl := Option.some.inj H; go_enter Tryz.func44, Tryz.ntmps44; go_wp2; go_ret; exact ⟨eK, by repeat (first | exact Drawn0.refl _ | apply Drawn0.step)⟩
   ·exact nO H c5
  ·exact nO H c4
 ·replace c3 := Bool.eq_false_iff.mpr c3
  subst c3; replace H := iF H; obtain rfl := Option.some.inj H; go_enter Tryz.func44, Tryz.ntmps44; go_wp2; go_ret; exact ⟨eK, by repeat (first | exact Drawn0.refl _ | apply Drawn0.step)⟩

/-! ### expr_level: function 45 -/
def expr_level.j0 : Nat → Int → Int → Bool → Option (Int)
 | 0, _, _, _ => none
 | k + 1, x3, x5, x6 => if x6 = true then (some (wrap64 ((wrap64 (x3 + 1)) + 1))) else (if x5 = 7 then (some (wrap64 (x3 + 1))) else (if x5 = 8 then (some (wrap64 (x3 + 1))) else (some x3)))
def expr_level.f (k : Nat) (a0_0 : Int) (a0_1 : Int) (a0_2 : ByteArray) (l0_3 : List (S24)) : Option (Int) := if a0_0 = 1 then (expr_level.j0 k 1 a0_0 (a0_0 == 1)) else (if a0_0 = 2 then (expr_level.j0 k 1 a0_0 (a0_0 == 2)) else (if a0_0 = 3 then (expr_level.j0 k 1 a0_0 (a0_0 == 3)) else (expr_level.j0 k 1 a0_0 (a0_0 == 4))))
theorem expr_level.mono_l : ∀ k, (∀ y0 y1 y2, LeO (expr_level.j0 k y0 y1 y2) (expr_level.j0 (k + 1) y0 y1 y2))
 | 0 => fun _ _ _ r h => by simp [expr_level.j0] at h
 | k + 1 => by
  have ih0 := expr_level.mono_l k
  ·intro y0 y1 y2
   unfold expr_level.j0
   repeat' first
   | (with_reducible exact ih0 _ _ _)
   | (with_reducible exact LeO.refl _)
   | (with_reducible exact LeO.none _)
   | (with_reducible refine LeO.ite ?_ ?_)
   | (with_reducible refine LeO.bind ?_ (fun _ => ?_))
   | exact ih0 _ _ _
   | exact LeO.none _
   | refine LeO.ite ?_ ?_
   | refine LeO.bind ?_ (fun _ => ?_)
theorem expr_level.mono : ∀ a0 a1 a2 a3 k, LeO (expr_level.f k a0 a1 a2 a3) (expr_level.f (k + 1) a0 a1 a2 a3) := by
 intro a0 a1 a2 a3 k
 have ih0 := expr_level.mono_l k
 unfold expr_level.f
 repeat' first
   | (with_reducible exact ih0 _ _ _)
   | (with_reducible exact LeO.refl _)
   | (with_reducible exact LeO.none _)
   | (with_reducible refine LeO.ite ?_ ?_)
   | (with_reducible refine LeO.bind ?_ (fun _ => ?_))
   | exact ih0 _ _ _
   | exact LeO.none _
   | refine LeO.ite ?_ ?_
   | refine LeO.bind ?_ (fun _ => ?_)
set_option maxHeartbeats 8000000 in
set_option maxRecDepth 100000 in
theorem expr_level.calls (k : Nat) (a0_0 : Int) (a0_1 : Int) (a0_2 : ByteArray) (A0_3 : Option Addr) (c0_3 : Nat) (l0_3 : List (S24)) (r : Int) (w : World) (hr0_3 : Kd.C k24 w A0_3 l0_3.length l0_3) (hc0_3 : l0_3.length ≤ c0_3) (h : expr_level.f k a0_0 a0_1 a0_2 l0_3 = some r) :
  Calls Tryz.prog 45 #[.agg #[.int .i64 a0_0, .int .i64 a0_1, .string a0_2, .slice A0_3 l0_3.length c0_3]] w fun e w' => e = .returned (.int .i64 r) ∧ Below w.heap.size w w' := by
 have hu24 := Tryz.underlying24
 have aA := mk0 hr0_3
 have aC := mk0 hc0_3
 clear hr0_3 hc0_3
 have HB := mk0 (Below.refl w.heap.size w)
 have H : (if a0_0 = 1 then (expr_level.j0 k 1 a0_0 (a0_0 == 1)) else (if a0_0 = 2 then (expr_level.j0 k 1 a0_0 (a0_0 == 2)) else (if a0_0 = 3 then (expr_level.j0 k 1 a0_0 (a0_0 == 3)) else (expr_level.j0 k 1 a0_0 (a0_0 == 4))))) = some r := h
 clear h
 have ae := mk0 H
 clear H
 go_enter Tryz.func45, Tryz.ntmps45
 go_upto_if 6 with (first | ((with_reducible refine gate_dst (N := 1) rfl ?_); refine bxE 1 #[.int .i64 a0_0, .int .i64 a0_1, .string a0_2, .slice A0_3 l0_3.length c0_3] 24 ?_; intro af hg w3 hbox hb; have aa := mk0 (hbox); have aD := gE (uL HB.out) hg; replace HB := hbB (uL HB.out) hb; clear hb hbox hg; obtain ⟨ag, ah, ai, aj, ak, al, am, ao⟩ := cL4 aa))
 (try simp only [AP])
 go_cut [6] (fun v6 wc => ∃ (kq : Nat) (x6_1 : Bool), v6 = .bool x6_1 ∧ Aside0 (expr_level.j0 kq 1 a0_0 x6_1 = some r) ∧ Aside0 (kq ≤ k) ∧ Aside0 (wc.heap[af]? = some (.cells #[.int .i64 a0_0, .int .i64 a0_1, .string a0_2, (.slice A0_3 l0_3.length c0_3)] 24 (0, 0))) ∧ Aside0 (Below w.heap.size w wc))
 case first =>
  have H := ae.out; clear ae
  by_cases c5 : a0_0 = 1
  ·rw [if_pos c5] at H
   obtain ⟨ab, ap⟩ := yQ c5; clear c5; (first | rw [ab] | (simp only [i64_w, i32_w]; rw [ab]) | skip); have H' := mk0 H; clear H; go_wp2
   go_meet
   case rel => exact ⟨_, ((a0_0 == 1)), eK, H', ⟨by first | omega | exact Nat.le_refl _⟩, ⟨uB aa.out⟩, ⟨bH⟩⟩
  ·rw [if_neg c5] at H
   obtain ⟨ab, ap⟩ := nQ c5; (first | rw [ab] | (simp only [i64_w, i32_w]; rw [ab]) | skip)
   by_cases c6 : a0_0 = 2
   ·rw [if_pos c6] at H
    obtain ⟨aq, ar⟩ := yQ c6; clear c6; have H' := mk0 H; clear H; go_wp2
    go_meet
    case rel => exact ⟨_, ((a0_0 == 2)), eK, H', ⟨by first | omega | exact Nat.le_refl _⟩, ⟨uB aa.out⟩, ⟨bH⟩⟩
   ·rw [if_neg c6] at H
    obtain ⟨aq, ar⟩ := nQ c6
    by_cases c7 : a0_0 = 3
    ·rw [if_pos c7] at H
     obtain ⟨au, av⟩ := yQ c7; clear c7; have H' := mk0 H; clear H; go_wp2
     go_meet
     case rel => exact ⟨_, ((a0_0 == 3)), eK, H', ⟨by first | omega | exact Nat.le_refl _⟩, ⟨uB aa.out⟩, ⟨bH⟩⟩
    ·rw [if_neg c7] at H
     obtain ⟨au, av⟩ := nQ c7; have H' := mk0 H; clear H; go_wp2
     go_meet
     case rel => exact ⟨_, ((a0_0 == 4)), eK, H', ⟨by first | omega | exact Nat.le_refl _⟩, ⟨uB aa.out⟩, ⟨bH⟩⟩
 case rest =>
  clear ae; (try clear ag ah ai aj ak al am ao); obtain ⟨kq, x6_1, rfl, HA, aE, aa, HB⟩ := hcut
  cases kq with
  | zero => exact absurd HA.out (by simp [expr_level.j0])
  | succ kj1 =>
   have H := HA.out; clear HA; simp only [expr_level.j0] at H
   by_cases c8 : x6_1 = true
   ·subst c8
    replace H := iT H; obtain rfl := Option.some.inj H; go_wp2; go_ret; exact ⟨by first | rfl | (simp [wrap64]; done) | decide, bH⟩
   ·replace c8 := Bool.eq_false_iff.mpr c8
    subst c8; replace H := iF H
    by_cases c9 : a0_0 = 7
    ·rw [if_pos c9] at H
     obtain ⟨aw, ax⟩ := yQ c9; clear c9; obtain rfl := Option.some.inj H; go_wp2; go_ret; exact ⟨by first | rfl | (simp [wrap64]; done) | decide, bH⟩
    ·rw [if_neg c9] at H
     obtain ⟨aw, ax⟩ := nQ c9
     by_cases ac : a0_0 = 8
     ·rw [if_pos ac] at H
      obtain ⟨ay, az⟩ := yQ ac; clear ac; obtain rfl := Option.some.inj H; go_wp2; go_ret; exact ⟨by first | rfl | (simp [wrap64]; done) | decide, bH⟩
     ·rw [if_neg ac] at H
      obtain ⟨ay, az⟩ := nQ ac; obtain rfl := Option.some.inj H; go_wp2; go_ret; exact ⟨by first | rfl | (simp [wrap64]; done) | decide, bH⟩


/-! ### furrowlaw5_budget: function 25 -/
mutual
def furrowlaw5_budget.j0 : Nat → Int → Int → Bool → Int → Int → ByteArray → List (S24) → Option (Int)
 | 0, _, _, _, _, _, _, _ => none
 | k + 1, x1, x2, x25, x486000, x486001, x486002, x486003 => if x25 = true then (some 0) else (furrowlaw5_budget.l0 k x1 (wrap64 (x2 - 1)) 0 x486000 x486001 x486002 x486003)
def furrowlaw5_budget.l0 : Nat → Int → Int → Int → Int → Int → ByteArray → List (S24) → Option (Int)
 | 0, _, _, _, _, _, _, _ => none
 | k + 1, x1, x2, x7, x486000, x486001, x486002, x486003 => if x7 < (x486003.length : Int) then (if x2 > 0 then (if 0 ≤ x7 then ((furrowlaw5_budget.f k ((rd_T24 x486003 x7).f0) ((rd_T24 x486003 x7).f1) ((rd_T24 x486003 x7).f2) ((rd_T24 x486003 x7).f3) (wrap64 (x1 - 1)) x2).bind fun t487 => (furrowlaw5_budget.l0 k x1 t487 (wrap64 (x7 + 1)) x486000 x486001 x486002 x486003)) else (none)) else (some x2)) else (some x2)
def furrowlaw5_budget.f : Nat → Int → Int → ByteArray → List (S24) → Int → Int → Option (Int)
 | 0, _, _, _, _, _, _ => none
 | k + 1, a0_0, a0_1, a0_2, l0_3, a1, a2 => if a2 ≤ 0 then (furrowlaw5_budget.j0 k a1 a2 true a0_0 a0_1 a0_2 l0_3) else (if a1 ≤ 0 then (furrowlaw5_budget.j0 k a1 a2 true a0_0 a0_1 a0_2 l0_3) else (if (l0_3.length : Int) > 8 then (furrowlaw5_budget.j0 k a1 a2 true a0_0 a0_1 a0_2 l0_3) else (furrowlaw5_budget.j0 k a1 a2 (decide ((a0_2.size : Int) > 40)) a0_0 a0_1 a0_2 l0_3)))
end
theorem furrowlaw5_budget.mono_l : ∀ k, (∀ y0 y1 y2 y3 y4 y5, LeO (furrowlaw5_budget.f k y0 y1 y2 y3 y4 y5) (furrowlaw5_budget.f (k + 1) y0 y1 y2 y3 y4 y5)) ∧ (∀ y0 y1 y2 y3 y4 y5 y6, LeO (furrowlaw5_budget.j0 k y0 y1 y2 y3 y4 y5 y6) (furrowlaw5_budget.j0 (k + 1) y0 y1 y2 y3 y4 y5 y6)) ∧ (∀ y0 y1 y2 y3 y4 y5 y6, LeO (furrowlaw5_budget.l0 k y0 y1 y2 y3 y4 y5 y6) (furrowlaw5_budget.l0 (k + 1) y0 y1 y2 y3 y4 y5 y6))
 | 0 => by refine ⟨?_, ?_, ?_⟩ <;> intros <;> exact fun r h => by simp [furrowlaw5_budget.f, furrowlaw5_budget.j0, furrowlaw5_budget.l0] at h
 | k + 1 => by
  obtain ⟨i0_, i1_, i2_⟩ := furrowlaw5_budget.mono_l k; refine ⟨?_, ?_, ?_⟩ <;> intros
  ·unfold furrowlaw5_budget.f; exact lO_
  ·unfold furrowlaw5_budget.j0; exact lO_
  ·unfold furrowlaw5_budget.l0; exact lO_
theorem furrowlaw5_budget.mono : ∀ a0 a1 a2 a3 a4 a5 k, LeO (furrowlaw5_budget.f k a0 a1 a2 a3 a4 a5) (furrowlaw5_budget.f (k + 1) a0 a1 a2 a3 a4 a5) := by
 intro a0 a1 a2 a3 a4 a5 k
 obtain ⟨ih0, ih1, ih2⟩ := furrowlaw5_budget.mono_l k
 exact ih0 a0 a1 a2 a3 a4 a5
set_option maxHeartbeats 8000000 in
set_option maxRecDepth 100000 in
theorem furrowlaw5_budget.calls (k : Nat) : ∀ (a0_0 : Int) (a0_1 : Int) (a0_2 : ByteArray) (A0_3 : Option Addr) (c0_3 : Nat) (l0_3 : List (S24)) (a1 : Int) (a2 : Int) (r : Int) (w : World) (hr0_3 : Kd.C k24 w A0_3 l0_3.length l0_3) (hc0_3 : l0_3.length ≤ c0_3) (h : furrowlaw5_budget.f k a0_0 a0_1 a0_2 l0_3 a1 a2 = some r),
  Calls Tryz.prog 25 #[.agg #[.int .i64 a0_0, .int .i64 a0_1, .string a0_2, .slice A0_3 l0_3.length c0_3], .int .i64 a1, .int .i64 a2] w fun e w' => e = .returned (.int .i64 r) ∧ Below w.heap.size w w' := by
 induction k using Nat.strongRecOn with
 | _ k ih =>
 intro a0_0 a0_1 a0_2 A0_3 c0_3 l0_3 a1 a2 r w hr0_3 hc0_3 h
 cases k with
 | zero => exact absurd h (by simp [furrowlaw5_budget.f])
 | succ k =>
 simp only [furrowlaw5_budget.f] at h
 have hu24 := Tryz.underlying24
 have ay := mk0 hr0_3
 have aN := mk0 hc0_3
 clear hr0_3 hc0_3
 have HB := mk0 (Below.refl w.heap.size w)
 have H : (if a2 ≤ 0 then (furrowlaw5_budget.j0 k a1 a2 true a0_0 a0_1 a0_2 l0_3) else (if a1 ≤ 0 then (furrowlaw5_budget.j0 k a1 a2 true a0_0 a0_1 a0_2 l0_3) else (if (l0_3.length : Int) > 8 then (furrowlaw5_budget.j0 k a1 a2 true a0_0 a0_1 a0_2 l0_3) else (furrowlaw5_budget.j0 k a1 a2 (decide ((a0_2.size : Int) > 40)) a0_0 a0_1 a0_2 l0_3)))) = some r := h
 clear h
 have ai := mk0 H
 clear H
 go_enter Tryz.func25, Tryz.ntmps25
 go_upto_region 1 with (first | ((with_reducible refine gate_dst (N := 3) rfl ?_); (try (refine gate_guard (by rfl) ?_; dsimp only)); refine bxE 3 #[.int .i64 a0_0, .int .i64 a0_1, .string a0_2, .slice A0_3 l0_3.length c0_3] 24 ?_; intro ao hg w5 hbox hb; have aa := mk0 (hbox); have aQ := gE (uL HB.out) hg; replace HB := hbB (uL HB.out) hb; clear hb hbox hg))
 (try simp only [AP])
 go_cut [25] (fun v25 wc => ∃ (kq : Nat) (ag : Bool), v25 = .bool ag ∧ Aside0 (furrowlaw5_budget.j0 kq a1 a2 ag a0_0 a0_1 a0_2 l0_3 = some r) ∧ Aside0 (kq ≤ k) ∧ Aside0 (wc.heap[ao]? = some (.cells #[.int .i64 a0_0, .int .i64 a0_1, .string a0_2, (.slice A0_3 l0_3.length c0_3)] 24 (0, 0))) ∧ Aside0 (Below w.heap.size w wc))
 case first =>
  have H := ai.out; clear ai
  by_cases c6 : a2 ≤ 0
  ·rw [if_pos c6] at H
   have ae := decide_eq_true c6; clear c6; (first | rw [ae] | (simp only [i64_w, i32_w]; rw [ae]) | skip); have H' := mk0 H; clear H; go_wp2
   go_meet
   case rel => exact ⟨_, (true), eK, H', ⟨by first | omega | exact Nat.le_refl _⟩, ⟨uB aa.out⟩, ⟨bH⟩⟩
  ·rw [if_neg c6] at H
   have ae := decide_eq_false c6; clear c6; (first | rw [ae] | (simp only [i64_w, i32_w]; rw [ae]) | skip)
   by_cases c7 : a1 ≤ 0
   ·rw [if_pos c7] at H
    have az := decide_eq_true c7; clear c7; have H' := mk0 H; clear H; go_wp2
    go_meet
    case rel => exact ⟨_, (true), eK, H', ⟨by first | omega | exact Nat.le_refl _⟩, ⟨uB aa.out⟩, ⟨bH⟩⟩
   ·rw [if_neg c7] at H
    have az := decide_eq_false c7; clear c7
    by_cases c8 : (l0_3.length : Int) > 8
    ·rw [if_pos c8] at H
     have aA := decide_eq_true c8; have aC : decide (8 < l0_3.length) = true := decide_eq_true (by omega); clear c8; have H' := mk0 H; clear H; obtain ⟨aT, aU, aV, aW, aX, aY, aZ, a_⟩ := cL4 aa; go_wp2
     go_meet
     case rel => exact ⟨_, (true), eK, H', ⟨by first | omega | exact Nat.le_refl _⟩, ⟨uB aa.out⟩, ⟨bH⟩⟩
    ·rw [if_neg c8] at H
     have aA := decide_eq_false c8; have aC : decide (8 < l0_3.length) = false := decide_eq_false (by omega); clear c8; have H' := mk0 H; clear H; obtain ⟨bf, bg, bh, bi, bj, bk, bl, bm⟩ := cL4 aa; go_wp2
     go_meet
     case rel => exact ⟨_, (decide ((a0_2.size : Int) > 40)), eK, H', ⟨by first | omega | exact Nat.le_refl _⟩, ⟨uB aa.out⟩, ⟨bH⟩⟩
 case rest =>
  clear ai; obtain ⟨kq, ag, rfl, HA, aj, aa, HB⟩ := hcut
  cases kq with
  | zero => exact absurd HA.out (by simp [furrowlaw5_budget.j0])
  | succ kj3 =>
   have H := HA.out; clear HA; simp only [furrowlaw5_budget.j0] at H
   by_cases af : ag = true
   ·subst af
    replace H := iT H; obtain rfl := Option.some.inj H; go_wp2; go_ret; exact ⟨rE, bH⟩
   ·replace af := Bool.eq_false_iff.mpr af
    subst af; replace H := iF H; have H' := mk0 H; clear H; go_wp2
    go_loopg [2, 7] kj3 (fun kq v2 v7 w' => ∃ (x2_2 : Int) (x7_2 : Int), v2 = .int .i64 x2_2 ∧ v7 = .int .i64 x7_2 ∧ Aside0 (furrowlaw5_budget.l0 kq a1 x2_2 x7_2 a0_0 a0_1 a0_2 l0_3 = some r) ∧ Aside0 (kq ≤ kj3) ∧ Aside0 (w'.heap[ao]? = some (.cells #[.int .i64 a0_0, .int .i64 a0_1, .string a0_2, (.slice A0_3 l0_3.length c0_3)] 24 (0, 0))) ∧ Aside0 (Below w.heap.size w w'))
    case atStart => exact ⟨(wrap64 (a2 - 1)), (0), eK, eK, H', ⟨Nat.le_refl _⟩, ⟨uB aa.out⟩, ⟨bH⟩⟩
    case round =>
     clear H'; (try clear af); obtain ⟨x2_2, x7_2, rfl, rfl, HA, ak, aa, HB⟩ := hrel
     cases gk with
     | zero => exact absurd HA.out (by simp [furrowlaw5_budget.l0])
     | succ k2 =>
      have H := HA.out; clear HA; simp only [furrowlaw5_budget.l0] at H
      by_cases ab : x7_2 < (l0_3.length : Int)
      ·rw [if_pos ab] at H
       have aD := decide_eq_true ab; clear ab
       by_cases ac : x2_2 > 0
       ·rw [if_pos ac] at H
        have aE := decide_eq_true ac; clear ac
        by_cases ah : 0 ≤ x7_2
        ·rw [if_pos ah] at H
         have bn := decide_eq_true ah; clear ah; obtain ⟨ap, aG, H⟩ := oB H; have H' := mk0 H; clear H; obtain ⟨bo, bp, bq, br, bs, bu, bv, bw⟩ := cL4 aa; have al : 0 ≤ (x7_2 : Int) := dY; have am : x7_2 < (l0_3.length : Int) := dY; obtain ⟨bz, aH, aI, aJ, aq, ar, au, av, aw, ax⟩ := at_T24 ay.out x7_2 al am
         cases aJ
         replace aq := oC HB aq; replace ar := oC HB ar; replace au := oC HB au; replace av := oC HB av; have aK := mk0 ax; have aM := mk0 aw; clear ax aw; replace al := eq_true al; replace am := eq_true am
         go_wp2_with (first | ((with_reducible refine gate_dst (N := 47) rfl ?_); refine gsM (some 47) Tryz.func25 #[.agg #[.int .i64 ((rd_T24 l0_3 x7_2).f0), .int .i64 ((rd_T24 l0_3 x7_2).f1), .string ((rd_T24 l0_3 x7_2).f2), .slice aH ((rd_T24 l0_3 x7_2).f3).length aI], .int .i64 (wrap64 (a1 - 1)), .int .i64 x2_2] ?_; (with_reducible refine (ih k2 (by have := aj.out; have := ak.out; omega) ((rd_T24 l0_3 x7_2).f0) ((rd_T24 l0_3 x7_2).f1) ((rd_T24 l0_3 x7_2).f2) _ _ ((rd_T24 l0_3 x7_2).f3) (wrap64 (a1 - 1)) x2_2 ap _ ?side1 ?side2 aG.out).mono ?_); (case side1 => exact uC (Kd.C_below aK.out HB.out)); (case side2 => exact aM.out); rintro e bC ⟨rfl, hb⟩; refine ⟨_, rfl, ?_⟩; replace aa := bB aa hb; replace HB := hbB bH hb; (try clear hb); ))
         go_roundg k2
         case measure => have := aj.out; have := ak.out; omega
         case rel => exact ⟨(ap), (wrap64 (x7_2 + 1)), eK, eK, H', ⟨by have := aj.out; have := ak.out; omega⟩, ⟨uB aa.out⟩, ⟨bH⟩⟩
        ·exact nO H ah
       ·rw [if_neg ac] at H
        have aE := decide_eq_false ac; clear ac; obtain rfl := Option.some.inj H; obtain ⟨bE, bF, bG, bI, bJ, bK, bL, bM⟩ := cL4 aa; go_wp2; go_ret; exact ⟨rE, bH⟩
      ·rw [if_neg ab] at H
       have aD := decide_eq_false ab; clear ab; obtain rfl := Option.some.inj H; obtain ⟨bO, bP, bQ, bR, bT, bU, bV, bW⟩ := cL4 aa; go_wp2; go_ret; exact ⟨rE, bH⟩

/-! ### furrowlaw5_Few: function 6 -/
def furrowlaw5_Few.f (k : Nat) (a0_0 : Int) (a0_1 : Int) (a0_2 : ByteArray) (l0_3 : List (S24)) : Option (Bool) := (furrowlaw5_budget.f k a0_0 a0_1 a0_2 l0_3 60 300).bind fun t489 => (some (decide (t489 > 0)))
theorem furrowlaw5_Few.mono : ∀ a0 a1 a2 a3 k, LeO (furrowlaw5_Few.f k a0 a1 a2 a3) (furrowlaw5_Few.f (k + 1) a0 a1 a2 a3) := by
 intro a0 a1 a2 a3 k
 have m0_ := @furrowlaw5_budget.mono; unfold furrowlaw5_Few.f; exact lO_
set_option maxHeartbeats 8000000 in
set_option maxRecDepth 100000 in
theorem furrowlaw5_Few.calls (k : Nat) (a0_0 : Int) (a0_1 : Int) (a0_2 : ByteArray) (A0_3 : Option Addr) (c0_3 : Nat) (l0_3 : List (S24)) (r : Bool) (w : World) (hr0_3 : Kd.C k24 w A0_3 l0_3.length l0_3) (hc0_3 : l0_3.length ≤ c0_3) (h : furrowlaw5_Few.f k a0_0 a0_1 a0_2 l0_3 = some r) :
  Calls Tryz.prog 6 #[.agg #[.int .i64 a0_0, .int .i64 a0_1, .string a0_2, .slice A0_3 l0_3.length c0_3]] w fun e w' => e = .returned (.bool r) ∧ Below w.heap.size w w' := by
 have hu24 := Tryz.underlying24
 have HR0_3 := mk0 hr0_3
 have HC0_3 := mk0 hc0_3
 clear hr0_3 hc0_3
 have HB := mk0 (Below.refl w.heap.size w)
 have H : ((furrowlaw5_budget.f k a0_0 a0_1 a0_2 l0_3 60 300).bind fun t489 => (some (decide (t489 > 0)))) = some r := h
 clear h
 replace H := Option.bind_eq_some_iff.mp H
 obtain ⟨t489, A20, H⟩ := H
 have A2 := mk0 A20
 clear A20
 obtain rfl := Option.some.inj H
 go_enter Tryz.func6, Tryz.ntmps6
 go_wp2_with (first | ((with_reducible refine gate_dst (N := 1) rfl ?_); refine bxE 1 #[.int .i64 a0_0, .int .i64 a0_1, .string a0_2, .slice A0_3 l0_3.length c0_3] 24 ?_; intro gb488 hg w3 hbox hb; have BK488 := mk0 (hbox); have GW488 := gE (uL HB.out) hg; replace HB := hbB (uL HB.out) hb; clear hb hbox hg; obtain ⟨hcz4_0, hcz4_1, hcz4_2, hcz4_3, hfz4_0, hfz4_1, hfz4_2, hfz4_3⟩ := cL4 BK488) | ((with_reducible refine gate_dst (N := 4) rfl ?_); refine gsM (some 4) Tryz.func25 #[.agg #[.int .i64 a0_0, .int .i64 a0_1, .string a0_2, .slice A0_3 l0_3.length c0_3], .int .i64 60, .int .i64 300] ?_; (with_reducible refine (furrowlaw5_budget.calls k a0_0 a0_1 a0_2 _ _ l0_3 60 300 t489 _ ?side1 ?side2 A2.out).mono ?_); (case side1 => exact uC (Kd.C_below HR0_3.out HB.out)); (case side2 => exact HC0_3.out); rintro e w5 ⟨rfl, hb⟩; refine ⟨_, rfl, ?_⟩; replace HB := hbB bH hb; (try clear hb); ))
 go_ret
 exact ⟨rE, bH⟩

/-! ### furrowref4_letter: function 70 -/
def furrowref4_letter.f (a0 : Int) : Option (Bool) := if a0 ≥ 97 then (some (decide (a0 ≤ 122))) else (some false)
set_option maxHeartbeats 8000000 in
set_option maxRecDepth 100000 in
theorem furrowref4_letter.calls (a0 : Int) (r : Bool) (w : World) (h : furrowref4_letter.f a0 = some r) :
  Calls Tryz.prog 70 #[.int .u8 a0] w fun e w' => e = .returned (.bool r) ∧ Drawn0 w w' := by
 have H : (if a0 ≥ 97 then (some (decide (a0 ≤ 122))) else (some false)) = some r := h
 clear h
 by_cases c2 : a0 ≥ 97
 ·rw [if_pos c2] at H
  have c2b0 := decide_eq_true c2; clear c2; obtain rfl := Option.some.inj H; go_enter Tryz.func70, Tryz.ntmps70; go_wp2; go_ret; exact ⟨eK, by repeat (first | exact Drawn0.refl _ | apply Drawn0.step)⟩
 ·rw [if_neg c2] at H
  have c2b0 := decide_eq_false c2; clear c2; obtain rfl := Option.some.inj H; go_enter Tryz.func70, Tryz.ntmps70; go_wp2; go_ret; exact ⟨eK, by repeat (first | exact Drawn0.refl _ | apply Drawn0.step)⟩

/-! ### furrowref4_digit: function 73 -/
def furrowref4_digit.f (a0 : Int) : Option (Bool) := if a0 ≥ 48 then (some (decide (a0 ≤ 57))) else (some false)
set_option maxHeartbeats 8000000 in
set_option maxRecDepth 100000 in
theorem furrowref4_digit.calls (a0 : Int) (r : Bool) (w : World) (h : furrowref4_digit.f a0 = some r) :
  Calls Tryz.prog 73 #[.int .u8 a0] w fun e w' => e = .returned (.bool r) ∧ Drawn0 w w' := by
 have H : (if a0 ≥ 48 then (some (decide (a0 ≤ 57))) else (some false)) = some r := h
 clear h
 by_cases c2 : a0 ≥ 48
 ·rw [if_pos c2] at H
  have c2b0 := decide_eq_true c2; clear c2; obtain rfl := Option.some.inj H; go_enter Tryz.func73, Tryz.ntmps73; go_wp2; go_ret; exact ⟨eK, by repeat (first | exact Drawn0.refl _ | apply Drawn0.step)⟩
 ·rw [if_neg c2] at H
  have c2b0 := decide_eq_false c2; clear c2; obtain rfl := Option.some.inj H; go_enter Tryz.func73, Tryz.ntmps73; go_wp2; go_ret; exact ⟨eK, by repeat (first | exact Drawn0.refl _ | apply Drawn0.step)⟩

/-! ### furrowref4_behind: function 71 -/
def furrowref4_behind.f (a0 : Int) : Option (Bool) := (furrowref4_letter.f a0).bind fun t490 => (if t490 = true then (some true) else ((furrowref4_digit.f a0).bind fun t491 => (if t491 = true then (some true) else (some (a0 == 95)))))
set_option maxHeartbeats 8000000 in
set_option maxRecDepth 100000 in
theorem furrowref4_behind.calls (a0 : Int) (r : Bool) (w : World) (h : furrowref4_behind.f a0 = some r) :
  Calls Tryz.prog 71 #[.int .u8 a0] w fun e w' => e = .returned (.bool r) ∧ Drawn0 w w' := by
 have H : ((furrowref4_letter.f a0).bind fun t490 => (if t490 = true then (some true) else ((furrowref4_digit.f a0).bind fun t491 => (if t491 = true then (some true) else (some (a0 == 95)))))) = some r := h
 clear h
 replace H := Option.bind_eq_some_iff.mp H
 obtain ⟨t490, A20, H⟩ := H
 have A2 := mk0 A20
 clear A20
 by_cases c3 : t490 = true
 ·subst c3
  replace H := iT H; obtain rfl := Option.some.inj H; go_enter Tryz.func71, Tryz.ntmps71
  go_wp2_with (first | ((with_reducible refine gate_dst (N := 4) rfl ?_); refine gsM (some 4) Tryz.func70 #[.int .u8 a0] ?_; (with_reducible refine (furrowref4_letter.calls a0 true _ A2.out).mono ?_); rintro e w' ⟨rfl, ⟨nd, rfl⟩⟩; refine ⟨_, rfl, ?_⟩))
  go_ret; exact ⟨eK, by repeat (first | exact Drawn0.refl _ | apply Drawn0.step)⟩
 ·replace c3 := Bool.eq_false_iff.mpr c3
  subst c3; replace H := iF H; obtain ⟨t491, A4, H⟩ := oB H
  by_cases c5 : t491 = true
  ·subst c5
   replace H := iT H; obtain rfl := Option.some.inj H; go_enter Tryz.func71, Tryz.ntmps71
   go_wp2_with (first | ((with_reducible refine gate_dst (N := 4) rfl ?_); refine gsM (some 4) Tryz.func70 #[.int .u8 a0] ?_; (with_reducible refine (furrowref4_letter.calls a0 false _ A2.out).mono ?_); rintro e w' ⟨rfl, ⟨nd, rfl⟩⟩; refine ⟨_, rfl, ?_⟩) | (go_at_call 73; (with_reducible refine (furrowref4_digit.calls a0 true _ A4.out).mono ?_); rintro e w' ⟨rfl, ⟨nd, rfl⟩⟩))
   go_ret; exact ⟨eK, by repeat (first | exact Drawn0.refl _ | apply Drawn0.step)⟩
  ·replace c5 := Bool.eq_false_iff.mpr c5
   subst c5; replace H := iF H; obtain rfl := Option.some.inj H; go_enter Tryz.func71, Tryz.ntmps71
   go_wp2_with (first | ((with_reducible refine gate_dst (N := 4) rfl ?_); refine gsM (some 4) Tryz.func70 #[.int .u8 a0] ?_; (with_reducible refine (furrowref4_letter.calls a0 false _ A2.out).mono ?_); rintro e w' ⟨rfl, ⟨nd, rfl⟩⟩; refine ⟨_, rfl, ?_⟩) | (go_at_call 73; (with_reducible refine (furrowref4_digit.calls a0 false _ A4.out).mono ?_); rintro e w' ⟨rfl, ⟨nd, rfl⟩⟩))
   go_ret; exact ⟨eK, by repeat (first | exact Drawn0.refl _ | apply Drawn0.step)⟩


/-! ### furrowref4_IsKey: function 72 -/
def furrowref4_IsKey.l0 : Nat → ByteArray → List ByteArray → Int → Option (Bool)
 | 0, _, _, _ => none
 | k + 1, x0, x3, x4 => if x4 < (x3.length : Int) then (if 0 ≤ x4 then (if (rdOf ByteArray.empty x3 x4).toList = x0.toList then (some true) else (furrowref4_IsKey.l0 k x0 x3 (wrap64 (x4 + 1)))) else (none)) else (some false)
def furrowref4_IsKey.f (k : Nat) (a0 : ByteArray) : Option (Bool) := furrowref4_IsKey.l0 k a0 (([(⟨#[105, 110, 116, 101, 103, 101, 114]⟩ : ByteArray), (⟨#[100, 111]⟩ : ByteArray), (⟨#[101, 110, 100]⟩ : ByteArray), (⟨#[105, 102]⟩ : ByteArray), (⟨#[116, 104, 101, 110]⟩ : ByteArray), (⟨#[101, 108, 115, 101]⟩ : ByteArray), (⟨#[114, 101, 97, 100]⟩ : ByteArray), (⟨#[112, 114, 105, 110, 116]⟩ : ByteArray)] : List ByteArray)) 0
theorem furrowref4_IsKey.mono_l : ∀ k, (∀ y0 y1 y2, LeO (furrowref4_IsKey.l0 k y0 y1 y2) (furrowref4_IsKey.l0 (k + 1) y0 y1 y2))
 | 0 => fun _ _ _ r h => by simp [furrowref4_IsKey.l0] at h
 | k + 1 => by
  have ih0 := furrowref4_IsKey.mono_l k
  ·intro y0 y1 y2
   unfold furrowref4_IsKey.l0
   repeat' first
   | (with_reducible exact ih0 _ _ _)
   | (with_reducible exact LeO.refl _)
   | (with_reducible exact LeO.none _)
   | (with_reducible refine LeO.ite ?_ ?_)
   | (with_reducible refine LeO.bind ?_ (fun _ => ?_))
   | exact ih0 _ _ _
   | exact LeO.none _
   | refine LeO.ite ?_ ?_
   | refine LeO.bind ?_ (fun _ => ?_)
theorem furrowref4_IsKey.mono : ∀ a0 k, LeO (furrowref4_IsKey.f k a0) (furrowref4_IsKey.f (k + 1) a0) := by
 intro a0 k
 have ih0 := furrowref4_IsKey.mono_l k
 unfold furrowref4_IsKey.f
 repeat' first
   | (with_reducible exact ih0 _ _ _)
   | (with_reducible exact LeO.refl _)
   | (with_reducible exact LeO.none _)
   | (with_reducible refine LeO.ite ?_ ?_)
   | (with_reducible refine LeO.bind ?_ (fun _ => ?_))
   | exact ih0 _ _ _
   | exact LeO.none _
   | refine LeO.ite ?_ ?_
   | refine LeO.bind ?_ (fun _ => ?_)
set_option maxHeartbeats 8000000 in
set_option maxRecDepth 100000 in
theorem furrowref4_IsKey.calls (k : Nat) (a0 : ByteArray) (r : Bool) (w : World) (h : furrowref4_IsKey.f k a0 = some r) :
  Calls Tryz.prog 72 #[.string a0] w fun e w' => e = .returned (.bool r) ∧ Below w.heap.size w w' := by
 have HB := mk0 (Below.refl w.heap.size w)
 have H : (furrowref4_IsKey.l0 k a0 (([(⟨#[105, 110, 116, 101, 103, 101, 114]⟩ : ByteArray), (⟨#[100, 111]⟩ : ByteArray), (⟨#[101, 110, 100]⟩ : ByteArray), (⟨#[105, 102]⟩ : ByteArray), (⟨#[116, 104, 101, 110]⟩ : ByteArray), (⟨#[101, 108, 115, 101]⟩ : ByteArray), (⟨#[114, 101, 97, 100]⟩ : ByteArray), (⟨#[112, 114, 105, 110, 116]⟩ : ByteArray)] : List ByteArray)) 0) = some r := h
 clear h
 obtain ⟨aa, af⟩ : ∃ y_ : List ByteArray, y_ = (([(⟨#[105, 110, 116, 101, 103, 101, 114]⟩ : ByteArray), (⟨#[100, 111]⟩ : ByteArray), (⟨#[101, 110, 100]⟩ : ByteArray), (⟨#[105, 102]⟩ : ByteArray), (⟨#[116, 104, 101, 110]⟩ : ByteArray), (⟨#[101, 108, 115, 101]⟩ : ByteArray), (⟨#[114, 101, 97, 100]⟩ : ByteArray), (⟨#[112, 114, 105, 110, 116]⟩ : ByteArray)] : List ByteArray)) := ⟨_, rfl⟩
 replace H : (furrowref4_IsKey.l0 k a0 aa 0) = some r := by first | (rw [af]; with_reducible exact H) | (have H2_ := (Option.bind_some _ _).symm.trans H; rw [af]; with_reducible exact H2_) | (have H2_ := (Option.bind_some _ _).symm.trans H; with_reducible exact H2_) | with_reducible exact H | (rw [af]; exact H) | exact H
 have ah := mk0 af
 clear af
 have H' := mk0 H
 clear H
 go_enter Tryz.func72, Tryz.ntmps72
 go_wp2_with (first | ((with_reducible refine gate_dst (N := 5) rfl ?_); refine Kd.R_lit Kd.string _ 9 ?hg (N := 5) ?hd (xs := ([(⟨#[105, 110, 116, 101, 103, 101, 114]⟩ : ByteArray), (⟨#[100, 111]⟩ : ByteArray), (⟨#[101, 110, 100]⟩ : ByteArray), (⟨#[105, 102]⟩ : ByteArray), (⟨#[116, 104, 101, 110]⟩ : ByteArray), (⟨#[101, 108, 115, 101]⟩ : ByteArray), (⟨#[114, 101, 97, 100]⟩ : ByteArray), (⟨#[112, 114, 105, 110, 116]⟩ : ByteArray)] : List ByteArray)) (inner := [.string (⟨#[105, 110, 116, 101, 103, 101, 114]⟩ : ByteArray), .string (⟨#[100, 111]⟩ : ByteArray), .string (⟨#[101, 110, 100]⟩ : ByteArray), .string (⟨#[105, 102]⟩ : ByteArray), .string (⟨#[116, 104, 101, 110]⟩ : ByteArray), .string (⟨#[101, 108, 115, 101]⟩ : ByteArray), .string (⟨#[114, 101, 97, 100]⟩ : ByteArray), .string (⟨#[112, 114, 105, 110, 116]⟩ : ByteArray)]) (ok := fun _ => True) (okp := fun _ => True) ?hr ?hp (fun _ hk => hk) trivial (Below.refl _ _) (Nat.le_refl _) (by simp) ?_; (case hd => rfl); (case hg => rfl); (case hr => first | (go_simp; done) | (go_simp; rfl)); (case hp => exact (Reps.one (show Kd.M Kd.string _ _ _ (⟨#[105, 110, 116, 101, 103, 101, 114]⟩ : ByteArray) [.string (⟨#[105, 110, 116, 101, 103, 101, 114]⟩ : ByteArray)] from rfl) (Reps.one (show Kd.M Kd.string _ _ _ (⟨#[100, 111]⟩ : ByteArray) [.string (⟨#[100, 111]⟩ : ByteArray)] from rfl) (Reps.one (show Kd.M Kd.string _ _ _ (⟨#[101, 110, 100]⟩ : ByteArray) [.string (⟨#[101, 110, 100]⟩ : ByteArray)] from rfl) (Reps.one (show Kd.M Kd.string _ _ _ (⟨#[105, 102]⟩ : ByteArray) [.string (⟨#[105, 102]⟩ : ByteArray)] from rfl) (Reps.one (show Kd.M Kd.string _ _ _ (⟨#[116, 104, 101, 110]⟩ : ByteArray) [.string (⟨#[116, 104, 101, 110]⟩ : ByteArray)] from rfl) (Reps.one (show Kd.M Kd.string _ _ _ (⟨#[101, 108, 115, 101]⟩ : ByteArray) [.string (⟨#[101, 108, 115, 101]⟩ : ByteArray)] from rfl) (Reps.one (show Kd.M Kd.string _ _ _ (⟨#[114, 101, 97, 100]⟩ : ByteArray) [.string (⟨#[114, 101, 97, 100]⟩ : ByteArray)] from rfl) (Reps.one (show Kd.M Kd.string _ _ _ (⟨#[112, 114, 105, 110, 116]⟩ : ByteArray) [.string (⟨#[112, 114, 105, 110, 116]⟩ : ByteArray)] from rfl) (Reps.none _ _)))))))))); intro aj w2 ho3 hb hg_ hnew_; clear hg_ hnew_; (first | rw [← ah.out] at ho3 | (simp only [Int.reduceToNat] at ho3; rw [← ah.out] at ho3)); have ak := mk0 (Kd.R_lower ho3 (below_size (uL HB.out))); replace HB := hbB (uL HB.out) hb; clear hb ho3))
 go_loopg [4] k (fun kq v4 w' => ∃ (x4_1 : Int), v4 = .int .i64 x4_1 ∧ Aside0 (furrowref4_IsKey.l0 kq a0 aa x4_1 = some r) ∧ Aside0 (kq ≤ k) ∧ Aside0 (Kd.R Kd.string 9 w' w.heap.size (fun _ => True) aj aa) ∧ Aside0 (Below w.heap.size w w'))
 case atStart => exact ⟨(0), eK, H', ⟨Nat.le_refl _⟩, ⟨uR ak.out⟩, ⟨uL HB.out⟩⟩
 case round =>
  clear H'; obtain ⟨x4_1, rfl, HA, ai, ae, HB⟩ := hrel
  cases gk with
  | zero => exact absurd HA.out (by simp [furrowref4_IsKey.l0])
  | succ k1 =>
   have H := HA.out; clear HA; simp only [furrowref4_IsKey.l0] at H
   by_cases c4 : x4_1 < (aa.length : Int)
   ·rw [if_pos c4] at H
    have al := decide_eq_true c4; clear c4
    by_cases c5 : 0 ≤ x4_1
    ·rw [if_pos c5] at H
     have aw := decide_eq_true c5; clear c5
     by_cases c6 : (rdOf ByteArray.empty aa x4_1).toList = a0.toList
     ·rw [if_pos c6] at H
      obtain ⟨am, ao⟩ := yQ c6; clear c6; obtain rfl := Option.some.inj H; obtain ⟨ax, ay, ap⟩ := Kd.R_slice ae.out; subst ap; have ab : 0 ≤ (x4_1 : Int) := dY; have ac : x4_1 < (aa.length : Int) := dY; obtain ⟨aq, ag, ar⟩ := Kd.at_string (Kd.R_reads' ae.out).2.2 x4_1 ab ac
      cases ag
      replace ab := eq_true ab; replace ac := eq_true ac; go_wp2; go_ret; exact ⟨rE, uL HB.out⟩
     ·rw [if_neg c6] at H
      obtain ⟨am, ao⟩ := nQ c6; have H' := mk0 H; clear H; obtain ⟨az, aA, au⟩ := Kd.R_slice ae.out; subst au; have ab : 0 ≤ (x4_1 : Int) := dY; have ac : x4_1 < (aa.length : Int) := dY; obtain ⟨aq, ag, ar⟩ := Kd.at_string (Kd.R_reads' ae.out).2.2 x4_1 ab ac
      cases ag
      replace ab := eq_true ab; replace ac := eq_true ac; go_wp2
      go_roundg k1
      case measure => have := ai.out; omega
      case rel => exact ⟨(wrap64 (x4_1 + 1)), eK, H', ⟨by have := ai.out; omega⟩, ⟨uR ae.out⟩, ⟨uL HB.out⟩⟩
    ·exact nO H c5
   ·rw [if_neg c4] at H
    have al := decide_eq_false c4; clear c4; obtain rfl := Option.some.inj H; obtain ⟨aC, aD, av⟩ := Kd.R_slice ae.out; subst av; go_wp2; go_ret; exact ⟨rE, uL HB.out⟩

/-! ### furrowref4_number: function 74 -/
def furrowref4_number.l0 : Nat → ByteArray → Int → Int → Option (Int × Bool)
 | 0, _, _, _ => none
 | k + 1, x0, x4, x5 => if x5 < (x0.size : Int) then (if 0 ≤ x5 then (if x4 > ((9223372036854775807 - (((bt x0 x5) - 48) % 256)) / 10) then (some (0, false)) else (furrowref4_number.l0 k x0 (IntKind.u64.wrap ((IntKind.u64.wrap (10 * x4)) + (((bt x0 x5) - 48) % 256))) (wrap64 (x5 + 1)))) else (none)) else (some (wrap64 (x4), true))
def furrowref4_number.f (k : Nat) (a0 : ByteArray) : Option (Int × Bool) := furrowref4_number.l0 k a0 0 0
theorem furrowref4_number.mono_l : ∀ k, (∀ y0 y1 y2, LeO (furrowref4_number.l0 k y0 y1 y2) (furrowref4_number.l0 (k + 1) y0 y1 y2))
 | 0 => fun _ _ _ r h => by simp [furrowref4_number.l0] at h
 | k + 1 => by
  have ih0 := furrowref4_number.mono_l k
  ·intro y0 y1 y2
   unfold furrowref4_number.l0
   repeat' first
   | (with_reducible exact ih0 _ _ _)
   | (with_reducible exact LeO.refl _)
   | (with_reducible exact LeO.none _)
   | (with_reducible refine LeO.ite ?_ ?_)
   | (with_reducible refine LeO.bind ?_ (fun _ => ?_))
   | exact ih0 _ _ _
   | exact LeO.none _
   | refine LeO.ite ?_ ?_
   | refine LeO.bind ?_ (fun _ => ?_)
theorem furrowref4_number.mono : ∀ a0 k, LeO (furrowref4_number.f k a0) (furrowref4_number.f (k + 1) a0) := by
 intro a0 k
 have ih0 := furrowref4_number.mono_l k
 unfold furrowref4_number.f
 repeat' first
   | (with_reducible exact ih0 _ _ _)
   | (with_reducible exact LeO.refl _)
   | (with_reducible exact LeO.none _)
   | (with_reducible refine LeO.ite ?_ ?_)
   | (with_reducible refine LeO.bind ?_ (fun _ => ?_))
   | exact ih0 _ _ _
   | exact LeO.none _
   | refine LeO.ite ?_ ?_
   | refine LeO.bind ?_ (fun _ => ?_)
set_option maxHeartbeats 8000000 in
set_option maxRecDepth 100000 in
theorem furrowref4_number.calls (k : Nat) (a0 : ByteArray) (r1 : Int) (r2 : Bool) (w : World) (h : furrowref4_number.f k a0 = some (r1, r2)) :
  Calls Tryz.prog 74 #[.string a0] w fun e w' => e = .returned (.tuple #[.int .i64 r1, .bool r2]) ∧ Drawn0 w w' := by
 have H : (furrowref4_number.l0 k a0 0 0) = some (r1, r2) := h
 clear h
 have H' := mk0 H
 clear H
 go_enter Tryz.func74, Tryz.ntmps74
 go_wp2
 go_loopg [4, 5] k (fun kq v4 v5 w' => ∃ (x4_1 : Int) (x5_1 : Int), v4 = .int .u64 x4_1 ∧ v5 = .int .i64 x5_1 ∧ Aside0 (furrowref4_number.l0 kq a0 x4_1 x5_1 = some (r1, r2)) ∧ Aside0 (kq ≤ k) ∧ Drawn0 w w')
 case atStart => exact ⟨(0), (0), eK, eK, H', ⟨Nat.le_refl _⟩, by repeat (first | exact Drawn0.refl _ | apply Drawn0.step)⟩
 case round =>
  clear H'; obtain ⟨x4_1, x5_1, rfl, rfl, HA, HK1, ⟨m1, rfl⟩⟩ := hrel
  cases gk with
  | zero => exact absurd HA.out (by simp [furrowref4_number.l0])
  | succ k1 =>
   have H := HA.out; clear HA; simp only [furrowref4_number.l0] at H
   by_cases c2 : x5_1 < (a0.size : Int)
   ·rw [if_pos c2] at H
    have c2b0 := decide_eq_true c2; clear c2
    by_cases c3 : 0 ≤ x5_1
    ·rw [if_pos c3] at H
     have c3b0 := decide_eq_true c3; clear c3
     by_cases c5 : x4_1 > ((9223372036854775807 - (((bt a0 x5_1) - 48) % 256)) / 10)
     ·rw [if_pos c5] at H
      have c5b0 := decide_eq_true c5; clear c5; simp only [Option.some.injEq, Prod.mk.injEq] at H; obtain ⟨rfl, rfl⟩ := H; have p4 : 0 ≤ (x5_1 : Int) := dY; have q4 : x5_1 < (a0.size : Int) := dY; have hx4 := bt_at a0 x5_1; replace p4 := eq_true p4; replace q4 := eq_true q4; go_wp2
      go_ret2
      exact ⟨eK, by repeat (first | exact Drawn0.refl _ | apply Drawn0.step)⟩
     ·rw [if_neg c5] at H
      have c5b0 := decide_eq_false c5; clear c5; have H' := mk0 H; clear H; have p4 : 0 ≤ (x5_1 : Int) := dY; have q4 : x5_1 < (a0.size : Int) := dY; have hx4 := bt_at a0 x5_1; replace p4 := eq_true p4; replace q4 := eq_true q4; go_wp2
      go_roundg k1
      case measure => have := HK1.out; omega
      case rel => exact ⟨(IntKind.u64.wrap ((IntKind.u64.wrap (10 * x4_1)) + (((bt a0 x5_1) - 48) % 256))), (wrap64 (x5_1 + 1)), eK, eK, H', ⟨by have := HK1.out; omega⟩, by repeat (first | exact Drawn0.refl _ | apply Drawn0.step)⟩
    ·exact nO H c3
   ·rw [if_neg c2] at H
    have c2b0 := decide_eq_false c2; clear c2; simp only [Option.some.injEq, Prod.mk.injEq] at H; obtain ⟨rfl, rfl⟩ := H; go_wp2
    go_ret2
    exact ⟨eK, by repeat (first | exact Drawn0.refl _ | apply Drawn0.step)⟩


/-! ### furrowref4_sign: function 75 -/
mutual
def furrowref4_sign.j0 : Nat → ByteArray → Int → Bool → Option (Int)
 | 0, _, _, _ => none
 | k + 1, x0, x1, x5 => if 0 ≤ x1 then (if x1 < (x0.size : Int) then (if (bt x0 x1) = 60 then (furrowref4_sign.j1 k x5 (bt x0 x1) ((bt x0 x1) == 60)) else (if (bt x0 x1) = 62 then (furrowref4_sign.j1 k x5 (bt x0 x1) ((bt x0 x1) == 62)) else (if (bt x0 x1) = 61 then (furrowref4_sign.j1 k x5 (bt x0 x1) ((bt x0 x1) == 61)) else (furrowref4_sign.j1 k x5 (bt x0 x1) ((bt x0 x1) == 47))))) else (none)) else (none)
def furrowref4_sign.j1 : Nat → Bool → Int → Bool → Option (Int)
 | 0, _, _, _ => none
 | k + 1, x5, x20, x21 => if x21 = true then (if x5 = true then (some 2) else (some 1)) else (if x20 = 43 then (some 1) else (if x20 = 45 then (some 1) else (if x20 = 42 then (some 1) else (if x20 = 40 then (some 1) else (if x20 = 41 then (some 1) else (if x20 = 44 then (some 1) else (some 0)))))))
end
def furrowref4_sign.f (k : Nat) (a0 : ByteArray) (a1 : Int) : Option (Int) := if (wrap64 (a1 + 1)) < (a0.size : Int) then (if 0 ≤ (wrap64 (a1 + 1)) then (furrowref4_sign.j0 k a0 a1 ((bt a0 (wrap64 (a1 + 1))) == 61)) else (none)) else (furrowref4_sign.j0 k a0 a1 false)
theorem furrowref4_sign.mono_l : ∀ k, (∀ y0 y1 y2, LeO (furrowref4_sign.j0 k y0 y1 y2) (furrowref4_sign.j0 (k + 1) y0 y1 y2)) ∧ (∀ y0 y1 y2, LeO (furrowref4_sign.j1 k y0 y1 y2) (furrowref4_sign.j1 (k + 1) y0 y1 y2))
 | 0 => by refine ⟨?_, ?_⟩ <;> intros <;> exact fun r h => by simp [furrowref4_sign.j0, furrowref4_sign.j1] at h
 | k + 1 => by
  obtain ⟨i0_, i1_⟩ := furrowref4_sign.mono_l k; refine ⟨?_, ?_⟩ <;> intros
  ·unfold furrowref4_sign.j0; exact lO_
  ·unfold furrowref4_sign.j1; exact lO_
theorem furrowref4_sign.mono : ∀ a0 a1 k, LeO (furrowref4_sign.f k a0 a1) (furrowref4_sign.f (k + 1) a0 a1) := by
 intro a0 a1 k
 obtain ⟨i0_, i1_⟩ := furrowref4_sign.mono_l k; unfold furrowref4_sign.f; exact lO_
set_option maxHeartbeats 8000000 in
set_option maxRecDepth 100000 in
theorem furrowref4_sign.calls (k : Nat) (a0 : ByteArray) (a1 : Int) (r : Int) (w : World) (h : furrowref4_sign.f k a0 a1 = some r) :
  Calls Tryz.prog 75 #[.string a0, .int .i64 a1] w fun e w' => e = .returned (.int .i64 r) ∧ Drawn0 w w' := by
 have H : (if (wrap64 (a1 + 1)) < (a0.size : Int) then (if 0 ≤ (wrap64 (a1 + 1)) then (furrowref4_sign.j0 k a0 a1 ((bt a0 (wrap64 (a1 + 1))) == 61)) else (none)) else (furrowref4_sign.j0 k a0 a1 false)) = some r := h
 clear h
 have ar := mk0 H
 clear H
 go_enter Tryz.func75, Tryz.ntmps75
 go_upto_region 1 with (fail)
 go_cut [5] (fun v5 wc => ∃ (kq : Nat) (x5_2 : Bool), v5 = .bool x5_2 ∧ Aside0 (furrowref4_sign.j0 kq a0 a1 x5_2 = some r) ∧ Aside0 (kq ≤ k) ∧ Drawn0 w wc)
 case first =>
  have H := ar.out; clear ar
  by_cases c4 : (wrap64 (a1 + 1)) < (a0.size : Int)
  ·rw [if_pos c4] at H
   have aa := decide_eq_true c4; clear c4; (first | rw [aa] | (simp only [i64_w, i32_w]; rw [aa]) | skip); obtain ⟨ji5, hji5⟩ : ∃ j_ : Int, (wrap64 (a1 + 1)) = j_ := ⟨_, rfl⟩; (replace H : (if 0 ≤ (ji5) then (furrowref4_sign.j0 k a0 a1 ((bt a0 (ji5)) == 61)) else (none)) = some r := by first | (rw [hji5] at H; exact H) | (simp only [hji5] at H ⊢; exact H)); (try rw [hji5] at aa); have hji5w : (IntKind.i64.wrap (a1 + 1)) = ji5 := (i64_w _).trans hji5
   by_cases c6 : 0 ≤ (ji5)
   ·rw [if_pos c6] at H
    have aY := decide_eq_true c6; clear c6; have H' := mk0 H; clear H; have p7 : 0 ≤ ((ji5) : Int) := dY; have q7 : (ji5) < (a0.size : Int) := dY; have aZ := bt_at a0 (ji5); replace p7 := eq_true p7; replace q7 := eq_true q7; go_wp2
    go_meet
    case rel => exact ⟨_, (((bt a0 (ji5)) == 61)), (by first | rfl | (simp; done) | (simp only [← hji5] <;> (first | rfl | simp)) | (simp [*]; done)), H', ⟨by first | omega | exact Nat.le_refl _⟩, by repeat (first | exact Drawn0.refl _ | apply Drawn0.step)⟩
   ·exact nO H c6
  ·rw [if_neg c4] at H
   have aa := decide_eq_false c4; clear c4; (first | rw [aa] | (simp only [i64_w, i32_w]; rw [aa]) | skip); have H' := mk0 H; clear H; go_wp2
   go_meet
   case rel => exact ⟨_, (false), eK, H', ⟨by first | omega | exact Nat.le_refl _⟩, by repeat (first | exact Drawn0.refl _ | apply Drawn0.step)⟩
 case rest =>
  clear ar; obtain ⟨kq, x5_2, rfl, HA, am, ⟨mc2, rfl⟩⟩ := hcut
  cases kq with
  | zero => exact absurd HA.out (by simp [furrowref4_sign.j0])
  | succ kj2 =>
   have H := HA.out; clear HA; simp only [furrowref4_sign.j0] at H
   by_cases c8 : 0 ≤ a1
   ·rw [if_pos c8] at H
    have ax := decide_eq_true c8; clear c8
    by_cases c9 : a1 < (a0.size : Int)
    ·rw [if_pos c9] at H
     have ay := decide_eq_true c9; clear c9; have au := mk0 H; clear H; have av : 0 ≤ (a1 : Int) := dY; have aw : a1 < (a0.size : Int) := dY; have az := bt_at a0 a1; replace av := eq_true av; replace aw := eq_true aw
     go_upto_if 21 with (fail)
     go_cut [21] (fun v21 wc => ∃ (kq : Nat) (ao : Bool), v21 = .bool ao ∧ Aside0 (furrowref4_sign.j1 kq x5_2 (bt a0 a1) ao = some r) ∧ Aside0 (kq ≤ kj2) ∧ Drawn0 w wc)
     case first =>
      have H := au.out; clear au
      by_cases ab : (bt a0 a1) = 60
      ·rw [if_pos ab] at H
       obtain ⟨ac, aA⟩ := yQ ab; clear ab; (first | rw [ac] | (simp only [i64_w, i32_w]; rw [ac]) | skip); have H' := mk0 H; clear H; go_wp2
       go_meet
       case rel => exact ⟨_, (((bt a0 a1) == 60)), eK, H', ⟨by have := am.out; first | omega | exact Nat.le_refl _⟩, by repeat (first | exact Drawn0.refl _ | apply Drawn0.step)⟩
      ·rw [if_neg ab] at H
       obtain ⟨ac, aA⟩ := nQ ab; (first | rw [ac] | (simp only [i64_w, i32_w]; rw [ac]) | skip)
       by_cases ae : (bt a0 a1) = 62
       ·rw [if_pos ae] at H
        obtain ⟨aC, aD⟩ := yQ ae; clear ae; have H' := mk0 H; clear H; go_wp2
        go_meet
        case rel => exact ⟨_, (((bt a0 a1) == 62)), eK, H', ⟨by have := am.out; first | omega | exact Nat.le_refl _⟩, by repeat (first | exact Drawn0.refl _ | apply Drawn0.step)⟩
       ·rw [if_neg ae] at H
        obtain ⟨aC, aD⟩ := nQ ae
        by_cases af : (bt a0 a1) = 61
        ·rw [if_pos af] at H
         obtain ⟨aE, aG⟩ := yQ af; clear af; have H' := mk0 H; clear H; go_wp2
         go_meet
         case rel => exact ⟨_, (((bt a0 a1) == 61)), eK, H', ⟨by have := am.out; first | omega | exact Nat.le_refl _⟩, by repeat (first | exact Drawn0.refl _ | apply Drawn0.step)⟩
        ·rw [if_neg af] at H
         obtain ⟨aE, aG⟩ := nQ af; have H' := mk0 H; clear H; go_wp2
         go_meet
         case rel => exact ⟨_, (((bt a0 a1) == 47)), eK, H', ⟨by have := am.out; first | omega | exact Nat.le_refl _⟩, by repeat (first | exact Drawn0.refl _ | apply Drawn0.step)⟩
     case rest =>
      clear au; (try clear c8 ax c9 ay av aw az); obtain ⟨kq, ao, rfl, HA, a_, ⟨mc10, rfl⟩⟩ := hcut
      cases kq with
      | zero => exact absurd HA.out (by simp [furrowref4_sign.j1])
      | succ kj10 =>
       have H := HA.out; clear HA; simp only [furrowref4_sign.j1] at H
       by_cases ap : ao = true
       ·subst ap
        replace H := iT H
        by_cases aq : x5_2 = true
        ·subst aq
         replace H := iT H; obtain rfl := Option.some.inj H; go_wp2; go_ret; exact ⟨eK, by repeat (first | exact Drawn0.refl _ | apply Drawn0.step)⟩
        ·replace aq := Bool.eq_false_iff.mpr aq
         subst aq; replace H := iF H; obtain rfl := Option.some.inj H; go_wp2; go_ret; exact ⟨eK, by repeat (first | exact Drawn0.refl _ | apply Drawn0.step)⟩
       ·replace ap := Bool.eq_false_iff.mpr ap
        subst ap; replace H := iF H
        by_cases ag : (bt a0 a1) = 43
        ·rw [if_pos ag] at H
         obtain ⟨aH, aI⟩ := yQ ag; clear ag; obtain rfl := Option.some.inj H; go_wp2; go_ret; exact ⟨eK, by repeat (first | exact Drawn0.refl _ | apply Drawn0.step)⟩
        ·rw [if_neg ag] at H
         obtain ⟨aH, aI⟩ := nQ ag
         by_cases ah : (bt a0 a1) = 45
         ·rw [if_pos ah] at H
          obtain ⟨aJ, aK⟩ := yQ ah; clear ah; obtain rfl := Option.some.inj H; go_wp2; go_ret; exact ⟨eK, by repeat (first | exact Drawn0.refl _ | apply Drawn0.step)⟩
         ·rw [if_neg ah] at H
          obtain ⟨aJ, aK⟩ := nQ ah
          by_cases ai : (bt a0 a1) = 42
          ·rw [if_pos ai] at H
           obtain ⟨aM, aN⟩ := yQ ai; clear ai; obtain rfl := Option.some.inj H; go_wp2; go_ret; exact ⟨eK, by repeat (first | exact Drawn0.refl _ | apply Drawn0.step)⟩
          ·rw [if_neg ai] at H
           obtain ⟨aM, aN⟩ := nQ ai
           by_cases aj : (bt a0 a1) = 40
           ·rw [if_pos aj] at H
            obtain ⟨aQ, aT⟩ := yQ aj; clear aj; obtain rfl := Option.some.inj H; go_wp2; go_ret; exact ⟨eK, by repeat (first | exact Drawn0.refl _ | apply Drawn0.step)⟩
           ·rw [if_neg aj] at H
            obtain ⟨aQ, aT⟩ := nQ aj
            by_cases ak : (bt a0 a1) = 41
            ·rw [if_pos ak] at H
             obtain ⟨aU, aV⟩ := yQ ak; clear ak; obtain rfl := Option.some.inj H; go_wp2; go_ret; exact ⟨eK, by repeat (first | exact Drawn0.refl _ | apply Drawn0.step)⟩
            ·rw [if_neg ak] at H
             obtain ⟨aU, aV⟩ := nQ ak
             by_cases al : (bt a0 a1) = 44
             ·rw [if_pos al] at H
              obtain ⟨aW, aX⟩ := yQ al; clear al; obtain rfl := Option.some.inj H; go_wp2; go_ret; exact ⟨eK, by repeat (first | exact Drawn0.refl _ | apply Drawn0.step)⟩
             ·rw [if_neg al] at H
              obtain ⟨aW, aX⟩ := nQ al; obtain rfl := Option.some.inj H; go_wp2; go_ret; exact ⟨eK, by repeat (first | exact Drawn0.refl _ | apply Drawn0.step)⟩
    ·exact nO H c9
   ·exact nO H c8


/-! ### furrowref4_Toks: function 46 -/
mutual
def furrowref4_Toks.l0 : Nat → ByteArray → List (S101) → Int → Option ((List (S101)) × (List (S90)) × Int)
 | 0, _, _, _ => none
 | k + 1, x0, x4, x5 => if x5 < (x0.size : Int) then (if 0 ≤ x5 then (if (bt x0 x5) = 32 then (furrowref4_Toks.j1 k x0 x4 x5 x5 true) else (furrowref4_Toks.j1 k x0 x4 x5 x5 ((bt x0 x5) == 9))) else (none)) else (some (x4, ([] : List (S90)), 0))
def furrowref4_Toks.j1 : Nat → ByteArray → List (S101) → Int → Int → Bool → Option ((List (S101)) × (List (S90)) × Int)
 | 0, _, _, _, _, _ => none
 | k + 1, x0, x4, x5, x6, x35 => if x35 = true then (furrowref4_Toks.l0 k x0 x4 (wrap64 (x5 + 1))) else (if 0 ≤ x5 then (if x5 < (x0.size : Int) then ((furrowref4_letter.f (bt x0 x5)).bind fun t497 => (if t497 = true then (furrowref4_Toks.l1 k x0 x4 x5 x6) else ((furrowref4_digit.f (bt x0 x5)).bind fun t514 => (if t514 = true then (furrowref4_Toks.l2 k x0 x4 x5 x6) else ((furrowref4_sign.f k x0 x5).bind fun t533 => (if t533 = 0 then ((furrowref4_At.f (⟨#[119, 111, 114, 100]⟩ : ByteArray) x5 3).bind fun bt534 => (some (([] : List (S101)), bt534.1, bt534.2))) else (if 0 ≤ x6 then (if x6 ≤ (wrap64 (x5 + t533)) then (if (wrap64 (x5 + t533)) ≤ (x0.size : Int) then (if x4.length < 3518437208883 then (furrowref4_Toks.l0 k x0 (x4 ++ [(⟨3, x0.extract (x6 : Int).toNat ((wrap64 (x5 + t533)) : Int).toNat, x6, 0⟩ : S101)]) (wrap64 (x5 + t533))) else (none)) else (none)) else (none)) else (none)))))))) else (none)) else (none))
def furrowref4_Toks.j3 : Nat → ByteArray → List (S101) → Int → Int → Option ((List (S101)) × (List (S90)) × Int)
 | 0, _, _, _, _ => none
 | k + 1, x0, x4, x5, x6 => if 0 ≤ x6 then (if x6 ≤ x5 then (if x5 ≤ (x0.size : Int) then ((furrowref4_IsKey.f k (x0.extract (x6 : Int).toNat (x5 : Int).toNat)).bind fun t499 => (if t499 = true then (if (wrap64 (x5 - x6)) > 31 then ((furrowref4_At.f (⟨#[119, 111, 114, 100]⟩ : ByteArray) x6 4).bind fun bt500 => (some (([] : List (S101)), bt500.1, bt500.2))) else (if x4.length < 3518437208883 then (furrowref4_Toks.l0 k x0 (x4 ++ [(⟨4, x0.extract (x6 : Int).toNat (x5 : Int).toNat, x6, 0⟩ : S101)]) x5) else (none))) else (if (wrap64 (x5 - x6)) > 31 then ((furrowref4_At.f (⟨#[119, 111, 114, 100]⟩ : ByteArray) x6 4).bind fun bt507 => (some (([] : List (S101)), bt507.1, bt507.2))) else (if x4.length < 3518437208883 then (furrowref4_Toks.l0 k x0 (x4 ++ [(⟨1, x0.extract (x6 : Int).toNat (x5 : Int).toNat, x6, 0⟩ : S101)]) x5) else (none))))) else (none)) else (none)) else (none)
def furrowref4_Toks.l1 : Nat → ByteArray → List (S101) → Int → Int → Option ((List (S101)) × (List (S90)) × Int)
 | 0, _, _, _, _ => none
 | k + 1, x0, x4, x5, x6 => if x5 < (x0.size : Int) then (if 0 ≤ x5 then ((furrowref4_behind.f (bt x0 x5)).bind fun t498 => (if t498 = true then (furrowref4_Toks.l1 k x0 x4 (wrap64 (x5 + 1)) x6) else (furrowref4_Toks.j3 k x0 x4 x5 x6))) else (none)) else (furrowref4_Toks.j3 k x0 x4 x5 x6)
def furrowref4_Toks.j5 : Nat → ByteArray → List (S101) → Int → Int → Option ((List (S101)) × (List (S90)) × Int)
 | 0, _, _, _, _ => none
 | k + 1, x0, x4, x5, x6 => if 0 ≤ x6 then (if x6 ≤ x5 then (if x5 ≤ (x0.size : Int) then ((furrowref4_number.f k (x0.extract (x6 : Int).toNat (x5 : Int).toNat)).bind fun bt516 => (if bt516.2 = true then (if x5 < (x0.size : Int) then (if 0 ≤ x5 then ((furrowref4_letter.f (bt x0 x5)).bind fun t522 => (if t522 = true then ((furrowref4_At.f (⟨#[119, 111, 114, 100]⟩ : ByteArray) x5 3).bind fun bt523 => (some (([] : List (S101)), bt523.1, bt523.2))) else (if x4.length < 3518437208883 then (furrowref4_Toks.l0 k x0 (x4 ++ [(⟨2, x0.extract (x6 : Int).toNat (x5 : Int).toNat, x6, bt516.1⟩ : S101)]) x5) else (none)))) else (none)) else (if x4.length < 3518437208883 then (furrowref4_Toks.l0 k x0 (x4 ++ [(⟨2, x0.extract (x6 : Int).toNat (x5 : Int).toNat, x6, bt516.1⟩ : S101)]) x5) else (none))) else ((furrowref4_At.f (⟨#[119, 111, 114, 100]⟩ : ByteArray) x6 5).bind fun bt518 => (some (([] : List (S101)), bt518.1, bt518.2))))) else (none)) else (none)) else (none)
def furrowref4_Toks.l2 : Nat → ByteArray → List (S101) → Int → Int → Option ((List (S101)) × (List (S90)) × Int)
 | 0, _, _, _, _ => none
 | k + 1, x0, x4, x5, x6 => if x5 < (x0.size : Int) then (if 0 ≤ x5 then ((furrowref4_digit.f (bt x0 x5)).bind fun t515 => (if t515 = true then (furrowref4_Toks.l2 k x0 x4 (wrap64 (x5 + 1)) x6) else (furrowref4_Toks.j5 k x0 x4 x5 x6))) else (none)) else (furrowref4_Toks.j5 k x0 x4 x5 x6)
end
def furrowref4_Toks.f (k : Nat) (a0 : ByteArray) : Option ((List (S101)) × (List (S90)) × Int) := furrowref4_Toks.l0 k a0 ([] : List (S101)) 0
theorem furrowref4_Toks.mono_l : ∀ k, (∀ y0 y1 y2, LeO (furrowref4_Toks.l0 k y0 y1 y2) (furrowref4_Toks.l0 (k + 1) y0 y1 y2)) ∧ (∀ y0 y1 y2 y3 y4, LeO (furrowref4_Toks.j1 k y0 y1 y2 y3 y4) (furrowref4_Toks.j1 (k + 1) y0 y1 y2 y3 y4)) ∧ (∀ y0 y1 y2 y3, LeO (furrowref4_Toks.j3 k y0 y1 y2 y3) (furrowref4_Toks.j3 (k + 1) y0 y1 y2 y3)) ∧ (∀ y0 y1 y2 y3, LeO (furrowref4_Toks.l1 k y0 y1 y2 y3) (furrowref4_Toks.l1 (k + 1) y0 y1 y2 y3)) ∧ (∀ y0 y1 y2 y3, LeO (furrowref4_Toks.j5 k y0 y1 y2 y3) (furrowref4_Toks.j5 (k + 1) y0 y1 y2 y3)) ∧ (∀ y0 y1 y2 y3, LeO (furrowref4_Toks.l2 k y0 y1 y2 y3) (furrowref4_Toks.l2 (k + 1) y0 y1 y2 y3))
 | 0 => by refine ⟨?_, ?_, ?_, ?_, ?_, ?_⟩ <;> intros <;> exact fun r h => by simp [furrowref4_Toks.l0, furrowref4_Toks.j1, furrowref4_Toks.j3, furrowref4_Toks.l1, furrowref4_Toks.j5, furrowref4_Toks.l2] at h
 | k + 1 => by
  obtain ⟨i0_, i1_, i2_, i3_, i4_, i5_⟩ := furrowref4_Toks.mono_l k; have m0_ := @furrowref4_IsKey.mono; have m1_ := @furrowref4_number.mono; have m2_ := @furrowref4_sign.mono; refine ⟨?_, ?_, ?_, ?_, ?_, ?_⟩ <;> intros
  ·unfold furrowref4_Toks.l0; exact lO_
  ·unfold furrowref4_Toks.j1; exact lO_
  ·unfold furrowref4_Toks.j3; exact lO_
  ·unfold furrowref4_Toks.l1; exact lO_
  ·unfold furrowref4_Toks.j5; exact lO_
  ·unfold furrowref4_Toks.l2; exact lO_
theorem furrowref4_Toks.mono : ∀ a0 k, LeO (furrowref4_Toks.f k a0) (furrowref4_Toks.f (k + 1) a0) := by
 intro a0 k
 obtain ⟨i0_, i1_, i2_, i3_, i4_, i5_⟩ := furrowref4_Toks.mono_l k; have m0_ := @furrowref4_IsKey.mono; have m1_ := @furrowref4_number.mono; have m2_ := @furrowref4_sign.mono; unfold furrowref4_Toks.f; exact lO_
set_option maxHeartbeats 8000000 in
set_option maxRecDepth 100000 in
theorem furrowref4_Toks.calls (k : Nat) (a0 : ByteArray) (r1 : List (S101)) (r2 : List (S90)) (r3 : Int) (w : World) (h : furrowref4_Toks.f k a0 = some (r1, r2, r3)) :
  Calls Tryz.prog 46 #[.string a0] w fun e w' => ∃ v0_ v1_ : Value, e = .returned (.tuple #[v0_, .agg #[v1_, .int .i64 r3]]) ∧ Kd.R k101 101 w' w.heap.size (fun _ => True) v0_ r1 ∧ Kd.R k90 90 w' w.heap.size (fun _ => True) v1_ r2 ∧ Below w.heap.size w w' := by
 have hu42 := Tryz.underlying42
 have hu101 := Tryz.underlying101
 have HB := mk0 (Below.refl w.heap.size w)
 have H : (furrowref4_Toks.l0 k a0 ([] : List (S101)) 0) = some (r1, r2, r3) := h
 clear h
 have H' := mk0 H
 clear H
 go_enter Tryz.func46, Tryz.ntmps46
 go_wp2_with (first | ((with_reducible refine gate_dst (N := 3) rfl ?_); refine bxE 3 #[.slice none 0 0, .int .i64 0] 42 ?_; intro ac hg w2 hbox hb; have aa := mk0 (hbox); have dH := gE (uL HB.out) hg; replace HB := hbB (uL HB.out) hb; clear hb hbox hg))
 go_loopg [4, 5] k (fun kq v4 v5 w' => ∃ (x4_1 : List (S101)) (x5_1 : Int) (ag : Int), v5 = .int .i64 x5_1 ∧ Aside0 (furrowref4_Toks.l0 kq a0 x4_1 x5_1 = some (r1, r2, r3)) ∧ Aside0 (kq ≤ k) ∧ Aside0 (Kd.R k101 101 w' w.heap.size (fun _ => True) v4 x4_1) ∧ Aside0 (w'.heap[ac]? = some (.cells #[(.slice none 0 0), .int .i64 ag] 42 (0, 0))) ∧ Aside0 (Below w.heap.size w w'))
 case atStart => exact ⟨(([] : List (S101))), (0), (0), eK, H', ⟨Nat.le_refl _⟩, ⟨nK⟩, ⟨uB aa.out⟩, ⟨bH⟩⟩
 case round =>
  clear H'; obtain ⟨x4_1, x5_1, ag, rfl, HA, ae, ab, aa, HB⟩ := hrel
  cases gk with
  | zero => exact absurd HA.out (by simp [furrowref4_Toks.l0])
  | succ k1 =>
   have H := HA.out; clear HA; simp only [furrowref4_Toks.l0] at H
   by_cases c3 : x5_1 < (a0.size : Int)
   ·rw [if_pos c3] at H
    have av := decide_eq_true c3; clear c3; have bI := mk0 H; clear H
    go_upto_region 10 with (fail)
    go_cut [35] (fun v35 wc => ∃ (kq : Nat) (aZ : Bool), v35 = .bool aZ ∧ Aside0 (furrowref4_Toks.j1 kq a0 x4_1 x5_1 x5_1 aZ = some (r1, r2, r3)) ∧ Aside0 (kq ≤ k1) ∧ Aside0 (Kd.R k101 101 wc w.heap.size (fun _ => True) u4 x4_1) ∧ Aside0 (wc.heap[ac]? = some (.cells #[(.slice none 0 0), .int .i64 ag] 42 (0, 0))) ∧ Aside0 (Below w.heap.size w wc))
    case first =>
     have H := bI.out; clear bI
     by_cases c5 : 0 ≤ x5_1
     ·rw [if_pos c5] at H
      have b7 := decide_eq_true c5; clear c5; (first | rw [b7] | (simp only [i64_w, i32_w]; rw [b7]) | skip)
      by_cases c7 : (bt a0 x5_1) = 32
      ·rw [if_pos c7] at H
       obtain ⟨cJ, cK⟩ := yQ c7; clear c7; have H' := mk0 H; clear H; have p6 : 0 ≤ (x5_1 : Int) := dY; have q6 : x5_1 < (a0.size : Int) := dY; have cL := bt_at a0 x5_1; replace p6 := eq_true p6; replace q6 := eq_true q6; go_wp2
       go_meet
       case rel => exact ⟨_, (true), eK, H', ⟨by have := ae.out; first | omega | exact Nat.le_refl _⟩, ⟨uR ab.out⟩, ⟨uB aa.out⟩, ⟨bH⟩⟩
      ·rw [if_neg c7] at H
       obtain ⟨cJ, cK⟩ := nQ c7; have H' := mk0 H; clear H; have p6 : 0 ≤ (x5_1 : Int) := dY; have q6 : x5_1 < (a0.size : Int) := dY; have cL := bt_at a0 x5_1; replace p6 := eq_true p6; replace q6 := eq_true q6; have p8 : 0 ≤ (x5_1 : Int) := dY; have q8 : x5_1 < (a0.size : Int) := dY; have dI := bt_at a0 x5_1; replace p8 := eq_true p8; replace q8 := eq_true q8; go_wp2
       go_meet
       case rel => exact ⟨_, (((bt a0 x5_1) == 9)), eK, H', ⟨by have := ae.out; first | omega | exact Nat.le_refl _⟩, ⟨uR ab.out⟩, ⟨uB aa.out⟩, ⟨bH⟩⟩
     ·exact nO H c5
    case rest =>
     clear bI; (try clear c3 av); obtain ⟨kq, aZ, rfl, HA, af, ab, aa, HB⟩ := hcut
     cases kq with
     | zero => exact absurd HA.out (by simp [furrowref4_Toks.j1])
     | succ kj3 =>
      have H := HA.out; clear HA; simp only [furrowref4_Toks.j1] at H
      by_cases c9 : aZ = true
      ·subst c9
       replace H := iT H; have H' := mk0 H; clear H; go_wp2
       go_roundg kj3
       case measure => have := ae.out; have := af.out; omega
       case rel => exact ⟨(x4_1), (wrap64 (x5_1 + 1)), (ag), eK, H', ⟨by have := ae.out; have := af.out; omega⟩, ⟨uR ab.out⟩, ⟨uB aa.out⟩, ⟨bH⟩⟩
      ·replace c9 := Bool.eq_false_iff.mpr c9
       subst c9; replace H := iF H
       by_cases ap : 0 ≤ x5_1
       ·rw [if_pos ap] at H
        have a_ := decide_eq_true ap; clear ap
        by_cases aq : x5_1 < (a0.size : Int)
        ·rw [if_pos aq] at H
         have bf := decide_eq_true aq; clear aq; obtain ⟨cM, bg, H⟩ := oB H
         by_cases ar : cM = true
         ·subst ar
          replace H := iT H; have bJ := mk0 H; clear H; have ah : 0 ≤ (x5_1 : Int) := dY; have ai : x5_1 < (a0.size : Int) := dY; have au := bt_at a0 x5_1; replace ah := eq_true ah; replace ai := eq_true ai
          go_upto_block 3 with (first | ((with_reducible refine gate_dst (N := 52) rfl ?_); refine gsM (some 52) Tryz.func70 #[.int .u8 (bt a0 x5_1)] ?_; (with_reducible refine (furrowref4_letter.calls (bt a0 x5_1) true _ bg.out).mono ?_); rintro e w' ⟨rfl, ⟨nd, rfl⟩⟩; refine ⟨_, rfl, ?_⟩))
          (try simp only [AP])
          go_cut [5] (fun v5 wc => ∃ (kq : Nat) (x5_14 : Int), v5 = .int .i64 x5_14 ∧ Aside0 (furrowref4_Toks.j3 kq a0 x4_1 x5_14 x5_1 = some (r1, r2, r3)) ∧ Aside0 (kq ≤ kj3) ∧ Aside0 (Kd.R k101 101 wc w.heap.size (fun _ => True) u4 x4_1) ∧ Aside0 (wc.heap[ac]? = some (.cells #[(.slice none 0 0), .int .i64 ag] 42 (0, 0))) ∧ Aside0 (Below w.heap.size w wc))
          case first =>
           have H := bJ.out; clear bJ; have H' := mk0 H; clear H; go_wp2
           go_loopg [5] kj3 (fun kq v5 w' => ∃ (x5_3 : Int), v5 = .int .i64 x5_3 ∧ Aside0 (furrowref4_Toks.l1 kq a0 x4_1 x5_3 x5_1 = some (r1, r2, r3)) ∧ Aside0 (kq ≤ kj3) ∧ Aside0 (Kd.R k101 101 w' w.heap.size (fun _ => True) u4 x4_1) ∧ Aside0 (w'.heap[ac]? = some (.cells #[(.slice none 0 0), .int .i64 ag] 42 (0, 0))) ∧ Aside0 (Below w.heap.size w w'))
           case atStart => exact ⟨(x5_1), eK, H', ⟨Nat.le_refl _⟩, ⟨uR ab.out⟩, ⟨uB aa.out⟩, ⟨bH⟩⟩
           case round =>
            clear H'; (try clear c3 av c9 ap a_ aq bf ah ai au ar); obtain ⟨x5_3, rfl, HA, ao, ab, aa, HB⟩ := hrel
            cases gk with
            | zero => exact absurd HA.out (by simp [furrowref4_Toks.l1])
            | succ k3 =>
             have H := HA.out; clear HA; simp only [furrowref4_Toks.l1] at H
             by_cases aw : x5_3 < (a0.size : Int)
             ·rw [if_pos aw] at H
              have aD := decide_eq_true aw; clear aw; (first | rw [aD] | (simp only [i64_w, i32_w]; rw [aD]) | skip)
              by_cases bh : 0 ≤ x5_3
              ·rw [if_pos bh] at H
               have dJ := decide_eq_true bh; clear bh; obtain ⟨cN, b8, H⟩ := oB H
               by_cases bi : cN = true
               ·subst bi
                replace H := iT H; have H' := mk0 H; clear H; have aE : 0 ≤ (x5_3 : Int) := dY; have aG : x5_3 < (a0.size : Int) := dY; have cO := bt_at a0 x5_3; replace aE := eq_true aE; replace aG := eq_true aG
                go_wp2_with (first | (go_at_call 71; (with_reducible refine (furrowref4_behind.calls (bt a0 x5_3) true _ b8.out).mono ?_); rintro e w' ⟨rfl, ⟨nd, rfl⟩⟩))
                go_roundg k3
                case measure => have := ae.out; have := af.out; have := ao.out; omega
                case rel => exact ⟨(wrap64 (x5_3 + 1)), eK, H', ⟨by have := ae.out; have := af.out; have := ao.out; omega⟩, ⟨uR ab.out⟩, ⟨uB aa.out⟩, ⟨bH⟩⟩
               ·replace bi := Bool.eq_false_iff.mpr bi
                subst bi; replace H := iF H; have H' := mk0 H; clear H; have aE : 0 ≤ (x5_3 : Int) := dY; have aG : x5_3 < (a0.size : Int) := dY; have cO := bt_at a0 x5_3; replace aE := eq_true aE; replace aG := eq_true aG
                go_wp2_with (first | (go_at_call 71; (with_reducible refine (furrowref4_behind.calls (bt a0 x5_3) false _ b8.out).mono ?_); rintro e w' ⟨rfl, ⟨nd, rfl⟩⟩))
                go_meet
                case rel => exact ⟨_, (x5_3), eK, H', ⟨by have := ae.out; have := af.out; have := ao.out; first | omega | exact Nat.le_refl _⟩, ⟨uR ab.out⟩, ⟨uB aa.out⟩, ⟨bH⟩⟩
              ·exact nO H bh
             ·rw [if_neg aw] at H
              have aD := decide_eq_false aw; clear aw; (first | rw [aD] | (simp only [i64_w, i32_w]; rw [aD]) | skip); have H' := mk0 H; clear H; go_wp2
              go_meet
              case rel => exact ⟨_, (x5_3), eK, H', ⟨by have := ae.out; have := af.out; have := ao.out; first | omega | exact Nat.le_refl _⟩, ⟨uR ab.out⟩, ⟨uB aa.out⟩, ⟨bH⟩⟩
          case rest =>
           clear bJ; (try clear c3 av c9 ap a_ aq bf ah ai au ar); obtain ⟨kq, x5_14, rfl, HA, bj, ab, aa, HB⟩ := hcut
           cases kq with
           | zero => exact absurd HA.out (by simp [furrowref4_Toks.j3])
           | succ kj14 =>
            have H := HA.out; clear HA; simp only [furrowref4_Toks.j3] at H
            by_cases aH : 0 ≤ x5_1
            ·rw [if_pos aH] at H
             have dK := eq_true aH; have dL := decide_eq_true aH; clear aH
             by_cases aI : x5_1 ≤ x5_14
             ·rw [if_pos aI] at H
              have dM := eq_true aI; have dN := decide_eq_true aI; clear aI
              by_cases aJ : x5_14 ≤ (a0.size : Int)
              ·rw [if_pos aJ] at H
               have dO := eq_true aJ; have dP := decide_eq_true aJ; clear aJ; obtain ⟨cP, bk, H⟩ := oB H
               by_cases bl : cP = true
               ·subst bl
                replace H := iT H
                by_cases ax : (wrap64 (x5_14 - x5_1)) > 31
                ·rw [if_pos ax] at H
                 have cR := decide_eq_true ax; clear ax; replace H := Option.bind_eq_some_iff.mp H; obtain ⟨⟨bK, bL⟩, b9, H⟩ := H; dsimp only at H; have cS := mk0 b9; clear b9; simp only [Option.some.injEq, Prod.mk.injEq] at H; obtain ⟨rfl, rfl, rfl⟩ := H
                 go_wp2_with (first | ((with_reducible refine gate_dst (N := 69) rfl ?_); refine gsM (some 69) Tryz.func72 #[.string (a0.extract (x5_1 : Int).toNat (x5_14 : Int).toNat)] ?_; (with_reducible refine (furrowref4_IsKey.calls kj14 (a0.extract (x5_1 : Int).toNat (x5_14 : Int).toNat) true _ bk.out).mono ?_); rintro e dQ ⟨rfl, hb⟩; refine ⟨_, rfl, ?_⟩; replace aa := bB aa hb; replace HB := hbB bH hb; (try clear hb); clear ab) | ((with_reducible refine gate_dst (N := 75) rfl ?_); refine gsM (some 75) Tryz.func23 #[.string (⟨#[119, 111, 114, 100]⟩ : ByteArray), .int .i64 x5_1, .int .i64 4] ?_; (with_reducible refine (furrowref4_At.calls (⟨#[119, 111, 114, 100]⟩ : ByteArray) x5_1 4 bK bL _ cS.out).mono ?_); rintro e dR ⟨dS, rfl, ho0, hb⟩; refine ⟨_, rfl, ?_⟩; have cd := mk0 (Kd.R_lower ho0 (below_size bH)); replace aa := bB aa hb; replace HB := hbB bH hb; (try clear hb ho0); obtain ⟨ce, cf, cT⟩ := Kd.R_slice cd.out; subst cT; obtain ⟨dT, dU, dV, dW⟩ := cL2 aa))
                 refine bodyPost_ret (results_tc rfl _ _ ac 42 #[.slice ce bK.length cf, .int .i64 bL] (0, 0) _ rfl (kB) Tryz.underlying42 rfl (by kernel_rfl)) rfl ?_; exact ⟨_, _, rE, nK, uR (Kd.R_mono (Kd.R_far (p := ⟨ac, 1, none⟩) (Kd.R_far (p := ⟨ac, 0, none⟩) (Kd.R_types cd.out aa.out (by decide)) (fun _ hk => hk.2) (.slice ce bK.length cf)) (fun _ hk => hk.2) (.int .i64 bL)) (fun _ hk => trivial)), bH⟩
                ·rw [if_neg ax] at H
                 have cR := decide_eq_false ax; clear ax; have dX := eq_true (dY : 0 ≤ x5_1); have dZ := eq_true (dY : x5_1 ≤ x5_14); have d6 := eq_true (dY : x5_14 ≤ (a0.size : Int))
                 by_cases bm : x4_1.length < 3518437208883
                 ·rw [if_pos bm] at H
                  have cU := mk0 bm; clear bm; obtain ⟨cg, bM⟩ : ∃ y_ : List (S101), y_ = (x4_1 ++ [(⟨4, a0.extract (x5_1 : Int).toNat (x5_14 : Int).toNat, x5_1, 0⟩ : S101)]) := ⟨_, rfl⟩; (replace H : (furrowref4_Toks.l0 kj14 a0 cg x5_14) = some (r1, r2, r3) := by (try rw [bM]); first | with_reducible exact H | with_reducible exact oN H | exact H); have cV := mk0 bM; clear bM; have H' := mk0 H; clear H
                  go_wp2_with (first | ((with_reducible refine gate_dst (N := 69) rfl ?_); refine gsM (some 69) Tryz.func72 #[.string (a0.extract (x5_1 : Int).toNat (x5_14 : Int).toNat)] ?_; (with_reducible refine (furrowref4_IsKey.calls kj14 (a0.extract (x5_1 : Int).toNat (x5_14 : Int).toNat) true _ bk.out).mono ?_); rintro e d7 ⟨rfl, hb⟩; refine ⟨_, rfl, ?_⟩; replace ab := rB ab hb; replace aa := bB aa hb; replace HB := hbB bH hb; (try clear hb hk); ) | ((with_reducible refine gate_builtin (b := .append) (xs := #[.tmp 76, .tmp 84]) rfl ?_); at_builtin; refine Kd.R_append k101 (w0 := w) w.heap.size rfl (.tmp 76) (.tmp 84) 97 101 (.agg #[(.int .i64 0), (.string ⟨#[]⟩), (.int .i64 0), (.int .i64 0)]) 40 rfl Tryz.underlying97 info101 rfl (by decide) (by omega) u4 x4_1 (⟨4, a0.extract (x5_1 : Int).toNat (x5_14 : Int).toNat, x5_1, 0⟩ : S101) [.int .i64 4, .string (a0.extract (x5_1 : Int).toNat (x5_14 : Int).toNat), .int .i64 x5_1, .int .i64 0] (fun _ => True) (fun _ => False) rfl rfl ?aP (fun _ hk => hk.elim) ?aF ?aO ?aB ?aS ?aL ?_; (case aP => exact k101_mkM _ _ _ (⟨4, a0.extract (x5_1 : Int).toNat (x5_14 : Int).toNat, x5_1, 0⟩ : S101)); (case aB => exact bH); (case aF => exact (fun _ _ => trivial)); (case aO => exact (uR ab.out)); (case aS => exact (below_size bH)); (case aL => have := cU.out; omega); intro d8 d9 ho hb hg hat; rw [← cV.out] at ho; have n0_ := (gB aa hg (Kd.R_ne ab.out aa.out (by decide))); have n1_ := mk0 (hb); have n2_ := mk0 (ho); clear aa HB ab; have aa := n0_; have HB := n1_; have cW := n2_; clear n0_ n1_ n2_; clear ho hb hg hat))
                  go_roundg kj14
                  case measure => have := ae.out; have := af.out; have := bj.out; omega
                  case rel => exact ⟨(cg), (x5_14), (ag), eK, H', ⟨by have := ae.out; have := af.out; have := bj.out; omega⟩, ⟨uR cW.out⟩, ⟨uB aa.out⟩, ⟨bH⟩⟩
                 ·exact nO H bm
               ·replace bl := Bool.eq_false_iff.mpr bl
                subst bl; replace H := iF H
                by_cases ay : (wrap64 (x5_14 - x5_1)) > 31
                ·rw [if_pos ay] at H
                 have cX := decide_eq_true ay; clear ay; replace H := Option.bind_eq_some_iff.mp H; obtain ⟨⟨bO, bP⟩, ch, H⟩ := H; dsimp only at H; have cY := mk0 ch; clear ch; simp only [Option.some.injEq, Prod.mk.injEq] at H; obtain ⟨rfl, rfl, rfl⟩ := H
                 go_wp2_with (first | ((with_reducible refine gate_dst (N := 69) rfl ?_); refine gsM (some 69) Tryz.func72 #[.string (a0.extract (x5_1 : Int).toNat (x5_14 : Int).toNat)] ?_; (with_reducible refine (furrowref4_IsKey.calls kj14 (a0.extract (x5_1 : Int).toNat (x5_14 : Int).toNat) false _ bk.out).mono ?_); rintro e d_ ⟨rfl, hb⟩; refine ⟨_, rfl, ?_⟩; replace aa := bB aa hb; replace HB := hbB bH hb; (try clear hb); clear ab) | ((with_reducible refine gate_dst (N := 75) rfl ?_); refine gsM (some 75) Tryz.func23 #[.string (⟨#[119, 111, 114, 100]⟩ : ByteArray), .int .i64 x5_1, .int .i64 4] ?_; (with_reducible refine (furrowref4_At.calls (⟨#[119, 111, 114, 100]⟩ : ByteArray) x5_1 4 bO bP _ cY.out).mono ?_); rintro e ea ⟨eb, rfl, ho0, hb⟩; refine ⟨_, rfl, ?_⟩; have ci := mk0 (Kd.R_lower ho0 (below_size bH)); replace aa := bB aa hb; replace HB := hbB bH hb; (try clear hb ho0); obtain ⟨cj, ck, cZ⟩ := Kd.R_slice ci.out; subst cZ; obtain ⟨ec, ed, ee, ef⟩ := cL2 aa))
                 refine bodyPost_ret (results_tc rfl _ _ ac 42 #[.slice cj bO.length ck, .int .i64 bP] (0, 0) _ rfl (kB) Tryz.underlying42 rfl (by kernel_rfl)) rfl ?_; exact ⟨_, _, rE, nK, uR (Kd.R_mono (Kd.R_far (p := ⟨ac, 1, none⟩) (Kd.R_far (p := ⟨ac, 0, none⟩) (Kd.R_types ci.out aa.out (by decide)) (fun _ hk => hk.2) (.slice cj bO.length ck)) (fun _ hk => hk.2) (.int .i64 bP)) (fun _ hk => trivial)), bH⟩
                ·rw [if_neg ay] at H
                 have cX := decide_eq_false ay; clear ay; have eh := eq_true (dY : 0 ≤ x5_1); have ei := eq_true (dY : x5_1 ≤ x5_14); have ej := eq_true (dY : x5_14 ≤ (a0.size : Int))
                 by_cases bn : x4_1.length < 3518437208883
                 ·rw [if_pos bn] at H
                  have c_ := mk0 bn; clear bn; obtain ⟨cl, bQ⟩ : ∃ y_ : List (S101), y_ = (x4_1 ++ [(⟨1, a0.extract (x5_1 : Int).toNat (x5_14 : Int).toNat, x5_1, 0⟩ : S101)]) := ⟨_, rfl⟩; (replace H : (furrowref4_Toks.l0 kj14 a0 cl x5_14) = some (r1, r2, r3) := by (try rw [bQ]); first | with_reducible exact H | with_reducible exact oN H | exact H); have da := mk0 bQ; clear bQ; have H' := mk0 H; clear H
                  go_wp2_with (first | ((with_reducible refine gate_dst (N := 69) rfl ?_); refine gsM (some 69) Tryz.func72 #[.string (a0.extract (x5_1 : Int).toNat (x5_14 : Int).toNat)] ?_; (with_reducible refine (furrowref4_IsKey.calls kj14 (a0.extract (x5_1 : Int).toNat (x5_14 : Int).toNat) false _ bk.out).mono ?_); rintro e em ⟨rfl, hb⟩; refine ⟨_, rfl, ?_⟩; replace ab := rB ab hb; replace aa := bB aa hb; replace HB := hbB bH hb; (try clear hb hk); ) | ((with_reducible refine gate_builtin (b := .append) (xs := #[.tmp 76, .tmp 84]) rfl ?_); at_builtin; refine Kd.R_append k101 (w0 := w) w.heap.size rfl (.tmp 76) (.tmp 84) 97 101 (.agg #[(.int .i64 0), (.string ⟨#[]⟩), (.int .i64 0), (.int .i64 0)]) 40 rfl Tryz.underlying97 info101 rfl (by decide) (by omega) u4 x4_1 (⟨1, a0.extract (x5_1 : Int).toNat (x5_14 : Int).toNat, x5_1, 0⟩ : S101) [.int .i64 1, .string (a0.extract (x5_1 : Int).toNat (x5_14 : Int).toNat), .int .i64 x5_1, .int .i64 0] (fun _ => True) (fun _ => False) rfl rfl ?aP (fun _ hk => hk.elim) ?aF ?aO ?aB ?aS ?aL ?_; (case aP => exact k101_mkM _ _ _ (⟨1, a0.extract (x5_1 : Int).toNat (x5_14 : Int).toNat, x5_1, 0⟩ : S101)); (case aB => exact bH); (case aF => exact (fun _ _ => trivial)); (case aO => exact (uR ab.out)); (case aS => exact (below_size bH)); (case aL => have := c_.out; omega); intro eo ep ho hb hg hat; rw [← da.out] at ho; have n0_ := (gB aa hg (Kd.R_ne ab.out aa.out (by decide))); have n1_ := mk0 (hb); have n2_ := mk0 (ho); clear aa HB ab; have aa := n0_; have HB := n1_; have db := n2_; clear n0_ n1_ n2_; clear ho hb hg hat))
                  go_roundg kj14
                  case measure => have := ae.out; have := af.out; have := bj.out; omega
                  case rel => exact ⟨(cl), (x5_14), (ag), eK, H', ⟨by have := ae.out; have := af.out; have := bj.out; omega⟩, ⟨uR db.out⟩, ⟨uB aa.out⟩, ⟨bH⟩⟩
                 ·exact nO H bn
              ·exact nO H aJ
             ·exact nO H aI
            ·exact nO H aH
         ·replace ar := Bool.eq_false_iff.mpr ar
          subst ar; replace H := iF H; obtain ⟨dc, bR, H⟩ := oB H
          by_cases az : dc = true
          ·subst az
           replace H := iT H; have bT := mk0 H; clear H; have ah : 0 ≤ (x5_1 : Int) := dY; have ai : x5_1 < (a0.size : Int) := dY; have au := bt_at a0 x5_1; replace ah := eq_true ah; replace ai := eq_true ai
           go_upto_block 5 with (first | ((with_reducible refine gate_dst (N := 52) rfl ?_); refine gsM (some 52) Tryz.func70 #[.int .u8 (bt a0 x5_1)] ?_; (with_reducible refine (furrowref4_letter.calls (bt a0 x5_1) false _ bg.out).mono ?_); rintro e w' ⟨rfl, ⟨nd, rfl⟩⟩; refine ⟨_, rfl, ?_⟩; have al : 0 ≤ (x5_1 : Int) := dY; have am : x5_1 < (a0.size : Int) := dY; have bo := bt_at a0 x5_1; replace al := eq_true al; replace am := eq_true am) | ((with_reducible refine gate_dst (N := 90) rfl ?_); refine gsM (some 90) Tryz.func73 #[.int .u8 (bt a0 x5_1)] ?_; (with_reducible refine (furrowref4_digit.calls (bt a0 x5_1) true _ bR.out).mono ?_); rintro e w' ⟨rfl, ⟨nd, rfl⟩⟩; refine ⟨_, rfl, ?_⟩))
           (try simp only [AP])
           go_cut [5] (fun v5 wc => ∃ (kq : Nat) (x5_52 : Int), v5 = .int .i64 x5_52 ∧ Aside0 (furrowref4_Toks.j5 kq a0 x4_1 x5_52 x5_1 = some (r1, r2, r3)) ∧ Aside0 (kq ≤ kj3) ∧ Aside0 (Kd.R k101 101 wc w.heap.size (fun _ => True) u4 x4_1) ∧ Aside0 (wc.heap[ac]? = some (.cells #[(.slice none 0 0), .int .i64 ag] 42 (0, 0))) ∧ Aside0 (Below w.heap.size w wc))
           case first =>
            have H := bT.out; clear bT; have H' := mk0 H; clear H; go_wp2
            go_loopg [5] kj3 (fun kq v5 w' => ∃ (x5_3 : Int), v5 = .int .i64 x5_3 ∧ Aside0 (furrowref4_Toks.l2 kq a0 x4_1 x5_3 x5_1 = some (r1, r2, r3)) ∧ Aside0 (kq ≤ kj3) ∧ Aside0 (Kd.R k101 101 w' w.heap.size (fun _ => True) u4 x4_1) ∧ Aside0 (w'.heap[ac]? = some (.cells #[(.slice none 0 0), .int .i64 ag] 42 (0, 0))) ∧ Aside0 (Below w.heap.size w w'))
            case atStart => exact ⟨(x5_1), eK, H', ⟨Nat.le_refl _⟩, ⟨uR ab.out⟩, ⟨uB aa.out⟩, ⟨bH⟩⟩
            case round =>
             clear H'; (try clear c3 av c9 ap a_ aq bf ah ai au ar al am bo az); obtain ⟨x5_3, rfl, HA, ao, ab, aa, HB⟩ := hrel
             cases gk with
             | zero => exact absurd HA.out (by simp [furrowref4_Toks.l2])
             | succ k3 =>
              have H := HA.out; clear HA; simp only [furrowref4_Toks.l2] at H
              by_cases aA : x5_3 < (a0.size : Int)
              ·rw [if_pos aA] at H
               have aK := decide_eq_true aA; clear aA; (first | rw [aK] | (simp only [i64_w, i32_w]; rw [aK]) | skip)
               by_cases bp : 0 ≤ x5_3
               ·rw [if_pos bp] at H
                have eu := decide_eq_true bp; clear bp; obtain ⟨dd, cm, H⟩ := oB H
                by_cases bq : dd = true
                ·subst bq
                 replace H := iT H; have H' := mk0 H; clear H; have aM : 0 ≤ (x5_3 : Int) := dY; have aN : x5_3 < (a0.size : Int) := dY; have de := bt_at a0 x5_3; replace aM := eq_true aM; replace aN := eq_true aN
                 go_wp2_with (first | (go_at_call 73; (with_reducible refine (furrowref4_digit.calls (bt a0 x5_3) true _ cm.out).mono ?_); rintro e w' ⟨rfl, ⟨nd, rfl⟩⟩))
                 go_roundg k3
                 case measure => have := ae.out; have := af.out; have := ao.out; omega
                 case rel => exact ⟨(wrap64 (x5_3 + 1)), eK, H', ⟨by have := ae.out; have := af.out; have := ao.out; omega⟩, ⟨uR ab.out⟩, ⟨uB aa.out⟩, ⟨bH⟩⟩
                ·replace bq := Bool.eq_false_iff.mpr bq
                 subst bq; replace H := iF H; have H' := mk0 H; clear H; have aM : 0 ≤ (x5_3 : Int) := dY; have aN : x5_3 < (a0.size : Int) := dY; have de := bt_at a0 x5_3; replace aM := eq_true aM; replace aN := eq_true aN
                 go_wp2_with (first | (go_at_call 73; (with_reducible refine (furrowref4_digit.calls (bt a0 x5_3) false _ cm.out).mono ?_); rintro e w' ⟨rfl, ⟨nd, rfl⟩⟩))
                 go_meet
                 case rel => exact ⟨_, (x5_3), eK, H', ⟨by have := ae.out; have := af.out; have := ao.out; first | omega | exact Nat.le_refl _⟩, ⟨uR ab.out⟩, ⟨uB aa.out⟩, ⟨bH⟩⟩
               ·exact nO H bp
              ·rw [if_neg aA] at H
               have aK := decide_eq_false aA; clear aA; (first | rw [aK] | (simp only [i64_w, i32_w]; rw [aK]) | skip); have H' := mk0 H; clear H; go_wp2
               go_meet
               case rel => exact ⟨_, (x5_3), eK, H', ⟨by have := ae.out; have := af.out; have := ao.out; first | omega | exact Nat.le_refl _⟩, ⟨uR ab.out⟩, ⟨uB aa.out⟩, ⟨bH⟩⟩
           case rest =>
            clear bT; (try clear c3 av c9 ap a_ aq bf ah ai au ar al am bo az); obtain ⟨kq, x5_52, rfl, HA, br, ab, aa, HB⟩ := hcut
            cases kq with
            | zero => exact absurd HA.out (by simp [furrowref4_Toks.j5])
            | succ kj52 =>
             have H := HA.out; clear HA; simp only [furrowref4_Toks.j5] at H
             by_cases aQ : 0 ≤ x5_1
             ·rw [if_pos aQ] at H
              have ew := eq_true aQ; have ez := decide_eq_true aQ; clear aQ
              by_cases aT : x5_1 ≤ x5_52
              ·rw [if_pos aT] at H
               have eA := eq_true aT; have eB := decide_eq_true aT; clear aT
               by_cases aU : x5_52 ≤ (a0.size : Int)
               ·rw [if_pos aU] at H
                have eC := eq_true aU; have eD := decide_eq_true aU; clear aU; replace H := Option.bind_eq_some_iff.mp H; obtain ⟨⟨aj, df⟩, cn, H⟩ := H; dsimp only at H; have bs := mk0 cn; clear cn
                by_cases bu : df = true
                ·subst bu
                 replace H := iT H
                 by_cases aC : x5_52 < (a0.size : Int)
                 ·rw [if_pos aC] at H
                  have dh := decide_eq_true aC; clear aC
                  by_cases bv : 0 ≤ x5_52
                  ·rw [if_pos bv] at H
                   have eE := decide_eq_true bv; clear bv; obtain ⟨di, cp, H⟩ := oB H
                   by_cases bw : di = true
                   ·subst bw
                    replace H := iT H; replace H := Option.bind_eq_some_iff.mp H; obtain ⟨⟨bU, bV⟩, cq, H⟩ := H; dsimp only at H; have dj := mk0 cq; clear cq; simp only [Option.some.injEq, Prod.mk.injEq] at H; obtain ⟨rfl, rfl, rfl⟩ := H
                    go_wp2_with (first | ((with_reducible refine gate_dst (N := 108) rfl ?_); refine gsM (some 108) Tryz.func74 #[.string (a0.extract (x5_1 : Int).toNat (x5_52 : Int).toNat)] ?_; (with_reducible refine (furrowref4_number.calls kj52 (a0.extract (x5_1 : Int).toNat (x5_52 : Int).toNat) aj true _ bs.out).mono ?_); rintro e w' ⟨rfl, ⟨nd, rfl⟩⟩; refine ⟨_, rfl, ?_⟩; (try (rw [drewN_self wc]; generalize hq_ : World.drewN wc _ = wc; have n0_ : Aside0 (Kd.R k101 101 wc w.heap.size (fun _ => True) u4 x4_1) := ⟨by rw [← hq_]; exact (uR ab.out)⟩; have n1_ : Aside0 (wc.heap[ac]? = some (.cells #[.slice none 0 0, .int .i64 ag] 42 (0, 0))) := ⟨by rw [← hq_]; exact (uB aa.out)⟩; have n2_ : Aside0 (Below w.heap.size w wc) := ⟨by rw [← hq_]; exact bH⟩; clear ab aa HB hq_; have ab := n0_; have aa := n1_; have HB := n2_; clear n0_ n1_ n2_)); have aV : 0 ≤ (x5_52 : Int) := dY; have aW : x5_52 < (a0.size : Int) := dY; have dl := bt_at a0 x5_52; replace aV := eq_true aV; replace aW := eq_true aW; clear ab) | (go_at_call 70; (with_reducible refine (furrowref4_letter.calls (bt a0 x5_52) true _ cp.out).mono ?_); rintro e w' ⟨rfl, ⟨nd, rfl⟩⟩; (try (rw [drewN_self wc]; generalize hq_ : World.drewN wc _ = wc; have n0_ : Aside0 (wc.heap[ac]? = some (.cells #[.slice none 0 0, .int .i64 ag] 42 (0, 0))) := ⟨by rw [← hq_]; exact (uB aa.out)⟩; have n1_ : Aside0 (Below w.heap.size w wc) := ⟨by rw [← hq_]; exact bH⟩; clear aa HB hq_; have aa := n0_; have HB := n1_; clear n0_ n1_))) | ((with_reducible refine gate_dst (N := 126) rfl ?_); refine gsM (some 126) Tryz.func23 #[.string (⟨#[119, 111, 114, 100]⟩ : ByteArray), .int .i64 x5_52, .int .i64 3] ?_; (with_reducible refine (furrowref4_At.calls (⟨#[119, 111, 114, 100]⟩ : ByteArray) x5_52 3 bU bV _ dj.out).mono ?_); rintro e eF ⟨eG, rfl, ho0, hb⟩; refine ⟨_, rfl, ?_⟩; have cr := mk0 (Kd.R_lower ho0 (below_size bH)); replace aa := bB aa hb; replace HB := hbB bH hb; (try clear hb ho0); obtain ⟨ct, cu, dn⟩ := Kd.R_slice cr.out; subst dn; obtain ⟨eH, eI, eJ, eL⟩ := cL2 aa))
                    refine bodyPost_ret (results_tc rfl _ _ ac 42 #[.slice ct bU.length cu, .int .i64 bV] (0, 0) _ rfl (kB) Tryz.underlying42 rfl (by kernel_rfl)) rfl ?_; exact ⟨_, _, rE, nK, uR (Kd.R_mono (Kd.R_far (p := ⟨ac, 1, none⟩) (Kd.R_far (p := ⟨ac, 0, none⟩) (Kd.R_types cr.out aa.out (by decide)) (fun _ hk => hk.2) (.slice ct bU.length cu)) (fun _ hk => hk.2) (.int .i64 bV)) (fun _ hk => trivial)), bH⟩
                   ·replace bw := Bool.eq_false_iff.mpr bw
                    subst bw; replace H := iF H; have eM := eq_true (dY : 0 ≤ x5_1); have eN := eq_true (dY : x5_1 ≤ x5_52); have eO := eq_true (dY : x5_52 ≤ (a0.size : Int))
                    by_cases bz : x4_1.length < 3518437208883
                    ·rw [if_pos bz] at H
                     have dp := mk0 bz; clear bz; obtain ⟨cv, bW⟩ : ∃ y_ : List (S101), y_ = (x4_1 ++ [(⟨2, a0.extract (x5_1 : Int).toNat (x5_52 : Int).toNat, x5_1, aj⟩ : S101)]) := ⟨_, rfl⟩; (replace H : (furrowref4_Toks.l0 kj52 a0 cv x5_52) = some (r1, r2, r3) := by (try rw [bW]); first | with_reducible exact H | with_reducible exact oN H | exact H); have dq := mk0 bW; clear bW; have H' := mk0 H; clear H
                     go_wp2_with (first | ((with_reducible refine gate_dst (N := 108) rfl ?_); refine gsM (some 108) Tryz.func74 #[.string (a0.extract (x5_1 : Int).toNat (x5_52 : Int).toNat)] ?_; (with_reducible refine (furrowref4_number.calls kj52 (a0.extract (x5_1 : Int).toNat (x5_52 : Int).toNat) aj true _ bs.out).mono ?_); rintro e w' ⟨rfl, ⟨nd, rfl⟩⟩; refine ⟨_, rfl, ?_⟩; have aV : 0 ≤ (x5_52 : Int) := dY; have aW : x5_52 < (a0.size : Int) := dY; have dl := bt_at a0 x5_52; replace aV := eq_true aV; replace aW := eq_true aW) | (go_at_call 70; (with_reducible refine (furrowref4_letter.calls (bt a0 x5_52) false _ cp.out).mono ?_); rintro e w' ⟨rfl, ⟨nd, rfl⟩⟩) | ((with_reducible refine gate_builtin (b := .append) (xs := #[.tmp 127, .tmp 135]) rfl ?_); at_builtin; refine Kd.R_append k101 (w0 := w) w.heap.size rfl (.tmp 127) (.tmp 135) 97 101 (.agg #[(.int .i64 0), (.string ⟨#[]⟩), (.int .i64 0), (.int .i64 0)]) 40 rfl Tryz.underlying97 info101 rfl (by decide) (by omega) u4 x4_1 (⟨2, a0.extract (x5_1 : Int).toNat (x5_52 : Int).toNat, x5_1, aj⟩ : S101) [.int .i64 2, .string (a0.extract (x5_1 : Int).toNat (x5_52 : Int).toNat), .int .i64 x5_1, .int .i64 aj] (fun _ => True) (fun _ => False) rfl rfl ?aP (fun _ hk => hk.elim) ?aF ?aO ?aB ?aS ?aL ?_; (case aP => exact k101_mkM _ _ _ (⟨2, a0.extract (x5_1 : Int).toNat (x5_52 : Int).toNat, x5_1, aj⟩ : S101)); (case aB => exact bH); (case aF => exact (fun _ _ => trivial)); (case aO => exact (uR ab.out)); (case aS => exact (below_size bH)); (case aL => have := dp.out; omega); intro eP eQ ho hb hg hat; rw [← dq.out] at ho; have n0_ := (gB aa hg (Kd.R_ne ab.out aa.out (by decide))); have n1_ := mk0 (hb); have n2_ := mk0 (ho); clear aa HB ab; have aa := n0_; have HB := n1_; have dr := n2_; clear n0_ n1_ n2_; clear ho hb hg hat))
                     go_roundg kj52
                     case measure => have := ae.out; have := af.out; have := br.out; omega
                     case rel => exact ⟨(cv), (x5_52), (ag), eK, H', ⟨by have := ae.out; have := af.out; have := br.out; omega⟩, ⟨uR dr.out⟩, ⟨uB aa.out⟩, ⟨bH⟩⟩
                    ·exact nO H bz
                  ·exact nO H bv
                 ·rw [if_neg aC] at H
                  have dh := decide_eq_false aC; clear aC; have eR := eq_true (dY : 0 ≤ x5_1); have eS := eq_true (dY : x5_1 ≤ x5_52); have eT := eq_true (dY : x5_52 ≤ (a0.size : Int))
                  by_cases bC : x4_1.length < 3518437208883
                  ·rw [if_pos bC] at H
                   have dt := mk0 bC; clear bC; obtain ⟨cw, bX⟩ : ∃ y_ : List (S101), y_ = (x4_1 ++ [(⟨2, a0.extract (x5_1 : Int).toNat (x5_52 : Int).toNat, x5_1, aj⟩ : S101)]) := ⟨_, rfl⟩; (replace H : (furrowref4_Toks.l0 kj52 a0 cw x5_52) = some (r1, r2, r3) := by (try rw [bX]); first | with_reducible exact H | with_reducible exact oN H | exact H); have du := mk0 bX; clear bX; have H' := mk0 H; clear H
                   go_wp2_with (first | ((with_reducible refine gate_dst (N := 108) rfl ?_); refine gsM (some 108) Tryz.func74 #[.string (a0.extract (x5_1 : Int).toNat (x5_52 : Int).toNat)] ?_; (with_reducible refine (furrowref4_number.calls kj52 (a0.extract (x5_1 : Int).toNat (x5_52 : Int).toNat) aj true _ bs.out).mono ?_); rintro e w' ⟨rfl, ⟨nd, rfl⟩⟩; refine ⟨_, rfl, ?_⟩) | ((with_reducible refine gate_builtin (b := .append) (xs := #[.tmp 127, .tmp 135]) rfl ?_); at_builtin; refine Kd.R_append k101 (w0 := w) w.heap.size rfl (.tmp 127) (.tmp 135) 97 101 (.agg #[(.int .i64 0), (.string ⟨#[]⟩), (.int .i64 0), (.int .i64 0)]) 40 rfl Tryz.underlying97 info101 rfl (by decide) (by omega) u4 x4_1 (⟨2, a0.extract (x5_1 : Int).toNat (x5_52 : Int).toNat, x5_1, aj⟩ : S101) [.int .i64 2, .string (a0.extract (x5_1 : Int).toNat (x5_52 : Int).toNat), .int .i64 x5_1, .int .i64 aj] (fun _ => True) (fun _ => False) rfl rfl ?aP (fun _ hk => hk.elim) ?aF ?aO ?aB ?aS ?aL ?_; (case aP => exact k101_mkM _ _ _ (⟨2, a0.extract (x5_1 : Int).toNat (x5_52 : Int).toNat, x5_1, aj⟩ : S101)); (case aB => exact bH); (case aF => exact (fun _ _ => trivial)); (case aO => exact (uR ab.out)); (case aS => exact (below_size bH)); (case aL => have := dt.out; omega); intro eU eV ho hb hg hat; rw [← du.out] at ho; have n0_ := (gB aa hg (Kd.R_ne ab.out aa.out (by decide))); have n1_ := mk0 (hb); have n2_ := mk0 (ho); clear aa HB ab; have aa := n0_; have HB := n1_; have dv := n2_; clear n0_ n1_ n2_; clear ho hb hg hat))
                   go_roundg kj52
                   case measure => have := ae.out; have := af.out; have := br.out; omega
                   case rel => exact ⟨(cw), (x5_52), (ag), eK, H', ⟨by have := ae.out; have := af.out; have := br.out; omega⟩, ⟨uR dv.out⟩, ⟨uB aa.out⟩, ⟨bH⟩⟩
                  ·exact nO H bC
                ·replace bu := Bool.eq_false_iff.mpr bu
                 subst bu; replace H := iF H; replace H := Option.bind_eq_some_iff.mp H; obtain ⟨⟨bY, bZ⟩, cx, H⟩ := H; dsimp only at H; have dw := mk0 cx; clear cx; simp only [Option.some.injEq, Prod.mk.injEq] at H; obtain ⟨rfl, rfl, rfl⟩ := H
                 go_wp2_with (first | ((with_reducible refine gate_dst (N := 108) rfl ?_); refine gsM (some 108) Tryz.func74 #[.string (a0.extract (x5_1 : Int).toNat (x5_52 : Int).toNat)] ?_; (with_reducible refine (furrowref4_number.calls kj52 (a0.extract (x5_1 : Int).toNat (x5_52 : Int).toNat) aj false _ bs.out).mono ?_); rintro e w' ⟨rfl, ⟨nd, rfl⟩⟩; refine ⟨_, rfl, ?_⟩; (try (rw [drewN_self wc]; generalize hq_ : World.drewN wc _ = wc; have n0_ : Aside0 (Kd.R k101 101 wc w.heap.size (fun _ => True) u4 x4_1) := ⟨by rw [← hq_]; exact (uR ab.out)⟩; have n1_ : Aside0 (wc.heap[ac]? = some (.cells #[.slice none 0 0, .int .i64 ag] 42 (0, 0))) := ⟨by rw [← hq_]; exact (uB aa.out)⟩; have n2_ : Aside0 (Below w.heap.size w wc) := ⟨by rw [← hq_]; exact bH⟩; clear ab aa HB hq_; have ab := n0_; have aa := n1_; have HB := n2_; clear n0_ n1_ n2_)); clear ab) | ((with_reducible refine gate_dst (N := 114) rfl ?_); refine gsM (some 114) Tryz.func23 #[.string (⟨#[119, 111, 114, 100]⟩ : ByteArray), .int .i64 x5_1, .int .i64 5] ?_; (with_reducible refine (furrowref4_At.calls (⟨#[119, 111, 114, 100]⟩ : ByteArray) x5_1 5 bY bZ _ dw.out).mono ?_); rintro e eW ⟨eX, rfl, ho0, hb⟩; refine ⟨_, rfl, ?_⟩; have cy := mk0 (Kd.R_lower ho0 (below_size bH)); replace aa := bB aa hb; replace HB := hbB bH hb; (try clear hb ho0); obtain ⟨cz, cA, dz⟩ := Kd.R_slice cy.out; subst dz; obtain ⟨eY, eZ, e6, e7⟩ := cL2 aa))
                 refine bodyPost_ret (results_tc rfl _ _ ac 42 #[.slice cz bY.length cA, .int .i64 bZ] (0, 0) _ rfl (kB) Tryz.underlying42 rfl (by kernel_rfl)) rfl ?_; exact ⟨_, _, rE, nK, uR (Kd.R_mono (Kd.R_far (p := ⟨ac, 1, none⟩) (Kd.R_far (p := ⟨ac, 0, none⟩) (Kd.R_types cy.out aa.out (by decide)) (fun _ hk => hk.2) (.slice cz bY.length cA)) (fun _ hk => hk.2) (.int .i64 bZ)) (fun _ hk => trivial)), bH⟩
               ·exact nO H aU
              ·exact nO H aT
             ·exact nO H aQ
          ·replace az := Bool.eq_false_iff.mpr az
           subst az; replace H := iF H; obtain ⟨ak, cD, H⟩ := oB H
           by_cases aX : ak = 0
           ·rw [if_pos aX] at H
            obtain ⟨dA, dB⟩ := yQ aX; clear aX; replace H := Option.bind_eq_some_iff.mp H; obtain ⟨⟨b4, b5⟩, cE, H⟩ := H; dsimp only at H; have dC := mk0 cE; clear cE; simp only [Option.some.injEq, Prod.mk.injEq] at H; obtain ⟨rfl, rfl, rfl⟩ := H; have ah : 0 ≤ (x5_1 : Int) := dY; have ai : x5_1 < (a0.size : Int) := dY; have au := bt_at a0 x5_1; replace ah := eq_true ah; replace ai := eq_true ai
            go_wp2_with (first | ((with_reducible refine gate_dst (N := 52) rfl ?_); refine gsM (some 52) Tryz.func70 #[.int .u8 (bt a0 x5_1)] ?_; (with_reducible refine (furrowref4_letter.calls (bt a0 x5_1) false _ bg.out).mono ?_); rintro e w' ⟨rfl, ⟨nd, rfl⟩⟩; refine ⟨_, rfl, ?_⟩; (try (rw [drewN_self wc]; generalize hq_ : World.drewN wc _ = wc; have n0_ : Aside0 (Kd.R k101 101 wc w.heap.size (fun _ => True) u4 x4_1) := ⟨by rw [← hq_]; exact (uR ab.out)⟩; have n1_ : Aside0 (wc.heap[ac]? = some (.cells #[.slice none 0 0, .int .i64 ag] 42 (0, 0))) := ⟨by rw [← hq_]; exact (uB aa.out)⟩; have n2_ : Aside0 (Below w.heap.size w wc) := ⟨by rw [← hq_]; exact bH⟩; clear ab aa HB hq_; have ab := n0_; have aa := n1_; have HB := n2_; clear n0_ n1_ n2_)); have al : 0 ≤ (x5_1 : Int) := dY; have am : x5_1 < (a0.size : Int) := dY; have bo := bt_at a0 x5_1; replace al := eq_true al; replace am := eq_true am; clear ab) | ((with_reducible refine gate_dst (N := 90) rfl ?_); refine gsM (some 90) Tryz.func73 #[.int .u8 (bt a0 x5_1)] ?_; (with_reducible refine (furrowref4_digit.calls (bt a0 x5_1) false _ bR.out).mono ?_); rintro e w' ⟨rfl, ⟨nd, rfl⟩⟩; refine ⟨_, rfl, ?_⟩; (try (rw [drewN_self wc]; generalize hq_ : World.drewN wc _ = wc; have n0_ : Aside0 (wc.heap[ac]? = some (.cells #[.slice none 0 0, .int .i64 ag] 42 (0, 0))) := ⟨by rw [← hq_]; exact (uB aa.out)⟩; have n1_ : Aside0 (Below w.heap.size w wc) := ⟨by rw [← hq_]; exact bH⟩; clear aa HB hq_; have aa := n0_; have HB := n1_; clear n0_ n1_))) | ((with_reducible refine gate_dst (N := 18) rfl ?_); refine gsM (some 18) Tryz.func75 #[.string a0, .int .i64 x5_1] ?_; (with_reducible refine (furrowref4_sign.calls kj3 a0 x5_1 ak _ cD.out).mono ?_); rintro e w' ⟨rfl, ⟨nd, rfl⟩⟩; refine ⟨_, rfl, ?_⟩; (try (rw [drewN_self wc]; generalize hq_ : World.drewN wc _ = wc; have n0_ : Aside0 (wc.heap[ac]? = some (.cells #[.slice none 0 0, .int .i64 ag] 42 (0, 0))) := ⟨by rw [← hq_]; exact (uB aa.out)⟩; have n1_ : Aside0 (Below w.heap.size w wc) := ⟨by rw [← hq_]; exact bH⟩; clear aa HB hq_; have aa := n0_; have HB := n1_; clear n0_ n1_))) | ((with_reducible refine gate_dst (N := 22) rfl ?_); refine gsM (some 22) Tryz.func23 #[.string (⟨#[119, 111, 114, 100]⟩ : ByteArray), .int .i64 x5_1, .int .i64 3] ?_; (with_reducible refine (furrowref4_At.calls (⟨#[119, 111, 114, 100]⟩ : ByteArray) x5_1 3 b4 b5 _ dC.out).mono ?_); rintro e e8 ⟨e9, rfl, ho0, hb⟩; refine ⟨_, rfl, ?_⟩; have cF := mk0 (Kd.R_lower ho0 (below_size bH)); replace aa := bB aa hb; replace HB := hbB bH hb; (try clear hb ho0); obtain ⟨cG, cH, dD⟩ := Kd.R_slice cF.out; subst dD; obtain ⟨fa, fb, fc, fd⟩ := cL2 aa))
            refine bodyPost_ret (results_tc rfl _ _ ac 42 #[.slice cG b4.length cH, .int .i64 b5] (0, 0) _ rfl (kB) Tryz.underlying42 rfl (by kernel_rfl)) rfl ?_; exact ⟨_, _, rE, nK, uR (Kd.R_mono (Kd.R_far (p := ⟨ac, 1, none⟩) (Kd.R_far (p := ⟨ac, 0, none⟩) (Kd.R_types cF.out aa.out (by decide)) (fun _ hk => hk.2) (.slice cG b4.length cH)) (fun _ hk => hk.2) (.int .i64 b5)) (fun _ hk => trivial)), bH⟩
           ·rw [if_neg aX] at H
            obtain ⟨dA, dB⟩ := nQ aX
            by_cases aY : 0 ≤ x5_1
            ·rw [if_pos aY] at H
             have fe := eq_true aY; have ff := decide_eq_true aY; clear aY
             by_cases bE : x5_1 ≤ (wrap64 (x5_1 + ak))
             ·rw [if_pos bE] at H
              have fh := eq_true bE; have fi := decide_eq_true bE
              by_cases bF : (wrap64 (x5_1 + ak)) ≤ (a0.size : Int)
              ·rw [if_pos bF] at H
               have fj := eq_true bF; have fk := decide_eq_true bF
               by_cases bG : x4_1.length < 3518437208883
               ·rw [if_pos bG] at H
                have dE := mk0 bG; clear bG; obtain ⟨cI, b6⟩ : ∃ y_ : List (S101), y_ = (x4_1 ++ [(⟨3, a0.extract (x5_1 : Int).toNat ((wrap64 (x5_1 + ak)) : Int).toNat, x5_1, 0⟩ : S101)]) := ⟨_, rfl⟩; (replace H : (furrowref4_Toks.l0 kj3 a0 cI (wrap64 (x5_1 + ak))) = some (r1, r2, r3) := by (try rw [b6]); first | with_reducible exact H | with_reducible exact oN H | exact H); have dF := mk0 b6; clear b6; have H' := mk0 H; clear H; have ah : 0 ≤ (x5_1 : Int) := dY; have ai : x5_1 < (a0.size : Int) := dY; have au := bt_at a0 x5_1; replace ah := eq_true ah; replace ai := eq_true ai
                go_wp2_with (first | ((with_reducible refine gate_dst (N := 52) rfl ?_); refine gsM (some 52) Tryz.func70 #[.int .u8 (bt a0 x5_1)] ?_; (with_reducible refine (furrowref4_letter.calls (bt a0 x5_1) false _ bg.out).mono ?_); rintro e w' ⟨rfl, ⟨nd, rfl⟩⟩; refine ⟨_, rfl, ?_⟩; have al : 0 ≤ (x5_1 : Int) := dY; have am : x5_1 < (a0.size : Int) := dY; have bo := bt_at a0 x5_1; replace al := eq_true al; replace am := eq_true am) | ((with_reducible refine gate_dst (N := 90) rfl ?_); refine gsM (some 90) Tryz.func73 #[.int .u8 (bt a0 x5_1)] ?_; (with_reducible refine (furrowref4_digit.calls (bt a0 x5_1) false _ bR.out).mono ?_); rintro e w' ⟨rfl, ⟨nd, rfl⟩⟩; refine ⟨_, rfl, ?_⟩) | ((with_reducible refine gate_dst (N := 18) rfl ?_); refine gsM (some 18) Tryz.func75 #[.string a0, .int .i64 x5_1] ?_; (with_reducible refine (furrowref4_sign.calls kj3 a0 x5_1 ak _ cD.out).mono ?_); rintro e w' ⟨rfl, ⟨nd, rfl⟩⟩; refine ⟨_, rfl, ?_⟩) | ((with_reducible refine gate_builtin (b := .append) (xs := #[.tmp 26, .tmp 33]) rfl ?_); at_builtin; refine Kd.R_append k101 (w0 := w) w.heap.size rfl (.tmp 26) (.tmp 33) 97 101 (.agg #[(.int .i64 0), (.string ⟨#[]⟩), (.int .i64 0), (.int .i64 0)]) 40 rfl Tryz.underlying97 info101 rfl (by decide) (by omega) u4 x4_1 (⟨3, a0.extract (x5_1 : Int).toNat ((wrap64 (x5_1 + ak)) : Int).toNat, x5_1, 0⟩ : S101) [.int .i64 3, .string (a0.extract (x5_1 : Int).toNat ((wrap64 (x5_1 + ak)) : Int).toNat), .int .i64 x5_1, .int .i64 0] (fun _ => True) (fun _ => False) rfl rfl ?aP (fun _ hk => hk.elim) ?aF ?aO ?aB ?aS ?aL ?_; (case aP => exact k101_mkM _ _ _ (⟨3, a0.extract (x5_1 : Int).toNat ((wrap64 (x5_1 + ak)) : Int).toNat, x5_1, 0⟩ : S101)); (case aB => exact bH); (case aF => exact (fun _ _ => trivial)); (case aO => exact (uR ab.out)); (case aS => exact (below_size bH)); (case aL => have := dE.out; omega); intro fm fo ho hb hg hat; rw [← dF.out] at ho; have n0_ := (gB aa hg (Kd.R_ne ab.out aa.out (by decide))); have n1_ := mk0 (hb); have n2_ := mk0 (ho); clear aa HB ab; have aa := n0_; have HB := n1_; have dG := n2_; clear n0_ n1_ n2_; clear ho hb hg hat))
                go_roundg kj3
                case measure => have := ae.out; have := af.out; omega
                case rel => exact ⟨(cI), (wrap64 (x5_1 + ak)), (ag), eK, H', ⟨by have := ae.out; have := af.out; omega⟩, ⟨uR dG.out⟩, ⟨uB aa.out⟩, ⟨bH⟩⟩
               ·exact nO H bG
              ·exact nO H bF
             ·exact nO H bE
            ·exact nO H aY
        ·exact nO H aq
       ·exact nO H ap
   ·rw [if_neg c3] at H
    have av := decide_eq_false c3; clear c3; simp only [Option.some.injEq, Prod.mk.injEq] at H; obtain ⟨rfl, rfl, rfl⟩ := H; obtain ⟨fp, fq, ft, fu⟩ := cL2 aa; go_wp2; refine bodyPost_ret (results_tc rfl _ _ ac 42 #[.slice none 0 0, .int .i64 0] (0, 0) _ rfl (kB) Tryz.underlying42 rfl (by kernel_rfl)) rfl ?_; exact ⟨_, _, rE, uR (Kd.R_mono (Kd.R_far (p := ⟨ac, 1, none⟩) (Kd.R_far (p := ⟨ac, 0, none⟩) (Kd.R_types ab.out aa.out (by decide)) (fun _ hk => hk.2) (.slice none 0 0)) (fun _ hk => hk.2) (.int .i64 0)) (fun _ hk => trivial)), nK, bH⟩


/-! ### furrowref4_IsName: function 26 -/
def furrowref4_IsName.f (k : Nat) (a0 : ByteArray) : Option (Bool) := (furrowref4_Toks.f k a0).bind fun bt541 => (if bt541.2.2 = 0 then (if (bt541.1.length : Int) = 1 then (if 0 < (bt541.1.length : Int) then (if ((rd_T101 bt541.1 0).f0) = 1 then (some (((rd_T101 bt541.1 0).f1).toList == a0.toList)) else (some false)) else (none)) else (some false)) else (some false))
theorem furrowref4_IsName.mono : ∀ a0 k, LeO (furrowref4_IsName.f k a0) (furrowref4_IsName.f (k + 1) a0) := by
 intro a0 k
 have m0_ := @furrowref4_Toks.mono; unfold furrowref4_IsName.f; exact lO_
set_option maxHeartbeats 8000000 in
set_option maxRecDepth 100000 in
theorem furrowref4_IsName.calls (k : Nat) (a0 : ByteArray) (r : Bool) (w : World) (h : furrowref4_IsName.f k a0 = some r) :
  Calls Tryz.prog 26 #[.string a0] w fun e w' => e = .returned (.bool r) ∧ Below w.heap.size w w' := by
 have hu42 := Tryz.underlying42
 have HB := mk0 (Below.refl w.heap.size w)
 have H : ((furrowref4_Toks.f k a0).bind fun ay => (if ay.2.2 = 0 then (if (ay.1.length : Int) = 1 then (if 0 < (ay.1.length : Int) then (if ((rd_T101 ay.1 0).f0) = 1 then (some (((rd_T101 ay.1 0).f1).toList == a0.toList)) else (some false)) else (none)) else (some false)) else (some false))) = some r := h
 clear h
 replace H := Option.bind_eq_some_iff.mp H
 obtain ⟨⟨ak, ae, ac⟩, aJ, H⟩ := H
 dsimp only at H
 have A2 := mk0 aJ
 clear aJ
 by_cases c3 : ac = 0
 ·rw [if_pos c3] at H
  obtain ⟨aK, aM⟩ := yQ c3; clear c3
  by_cases c4 : (ak.length : Int) = 1
  ·rw [if_pos c4] at H
   obtain ⟨aN, aQ⟩ := yQ c4; clear c4
   by_cases c5 : 0 < (ak.length : Int)
   ·rw [if_pos c5] at H
    have bi := decide_eq_true c5; have bj : decide (0 < ak.length) = true := decide_eq_true (by omega); clear c5
    by_cases c6 : ((rd_T101 ak 0).f0) = 1
    ·rw [if_pos c6] at H
     obtain ⟨aT, aU⟩ := yQ c6; clear c6; obtain rfl := Option.some.inj H; go_enter Tryz.func26, Tryz.ntmps26
     go_wp2_with (first | ((with_reducible refine gate_dst (N := 7) rfl ?_); refine gsM (some 7) Tryz.func46 #[.string a0] ?_; (with_reducible refine (furrowref4_Toks.calls k a0 ak ae ac _ A2.out).mono ?_); rintro e w7 ⟨aC, aD, rfl, ho0, ho1, hb⟩; refine ⟨_, rfl, ?_⟩; have ab := mk0 (Kd.R_lower ho0 (below_size (uL HB.out))); have af := mk0 (Kd.R_lower ho1 (below_size (uL HB.out))); replace HB := hbB (uL HB.out) hb; (try clear hb ho0 ho1)) | ((with_reducible refine gate_dst (N := 4) rfl ?_); (try (refine gate_guard (by rfl) ?_; dsimp only)); refine bxE 4 #[.slice none 0 0, .int .i64 0] 42 ?_; intro aa hg w8 hbox hb; replace ab := rB ab hb; replace af := rB af hb; have al := mk0 (hbox); have aE := gE (uL HB.out) hg; replace HB := hbB (uL HB.out) hb; clear hb hbox hg; obtain ⟨am, ao, aV⟩ := Kd.R_slice af.out; subst aV; obtain ⟨bk, bl, bm, bn⟩ := cL2 al; obtain ⟨bo, bp, aW⟩ := Kd.R_slice ab.out; subst aW; have aq : 0 ≤ (0 : Int) := (by omega); have ar : 0 < (ak.length : Int) := dY; obtain ⟨ap, aG, ag, ah, ai, aj⟩ := at_T101 (Kd.R_reads' ab.out).2.2 0 aq ar; cases aG; have qi549 : (0 < ak.length) = True := eq_true (by omega); (try rw [show ((0 : Int)).toNat = 0 from rfl] at ag); (try rw [show 0 * 4 = 0 from rfl] at ag); (try rw [Addr.add_zero'] at ag); (try rw [show ((0 : Int)).toNat = 0 from rfl] at ah); (try rw [show 0 * 4 = 0 from rfl] at ah); (try rw [Addr.add_zero'] at ah); (try rw [show ((0 : Int)).toNat = 0 from rfl] at ai); (try rw [show 0 * 4 = 0 from rfl] at ai); (try rw [Addr.add_zero'] at ai); (try rw [show ((0 : Int)).toNat = 0 from rfl] at aj); (try rw [show 0 * 4 = 0 from rfl] at aj); (try rw [Addr.add_zero'] at aj); have hn549_0 : ap.block ≠ aa := Kd.own_blk (Kd.R_ne ab.out al.out (by decide)); have hn549_1 : ap.block ≠ aa := Kd.own_blk (Kd.R_ne ab.out al.out (by decide)); replace ag := (cell_far (p := ⟨aa, 0, none⟩) (by first | (rw [add_block]; exact hn549_0) | (show (Addr.add _ _).block ≠ _; rw [add_block]; exact hn549_0) | exact hn549_0) (.slice am ae.length ao)).trans ag; replace ah := (cell_far (p := ⟨aa, 0, none⟩) (by first | (rw [add_block]; exact hn549_0) | (show (Addr.add _ _).block ≠ _; rw [add_block]; exact hn549_0) | exact hn549_0) (.slice am ae.length ao)).trans ah; replace ai := (cell_far (p := ⟨aa, 0, none⟩) (by first | (rw [add_block]; exact hn549_0) | (show (Addr.add _ _).block ≠ _; rw [add_block]; exact hn549_0) | exact hn549_0) (.slice am ae.length ao)).trans ai; replace aj := (cell_far (p := ⟨aa, 0, none⟩) (by first | (rw [add_block]; exact hn549_0) | (show (Addr.add _ _).block ≠ _; rw [add_block]; exact hn549_0) | exact hn549_0) (.slice am ae.length ao)).trans aj; replace ag := (cell_far (p := ⟨aa, 1, none⟩) (by first | (rw [add_block]; exact hn549_1) | (show (Addr.add _ _).block ≠ _; rw [add_block]; exact hn549_1) | exact hn549_1) (.int .i64 ac)).trans ag; replace ah := (cell_far (p := ⟨aa, 1, none⟩) (by first | (rw [add_block]; exact hn549_1) | (show (Addr.add _ _).block ≠ _; rw [add_block]; exact hn549_1) | exact hn549_1) (.int .i64 ac)).trans ah; replace ai := (cell_far (p := ⟨aa, 1, none⟩) (by first | (rw [add_block]; exact hn549_1) | (show (Addr.add _ _).block ≠ _; rw [add_block]; exact hn549_1) | exact hn549_1) (.int .i64 ac)).trans ai; replace aj := (cell_far (p := ⟨aa, 1, none⟩) (by first | (rw [add_block]; exact hn549_1) | (show (Addr.add _ _).block ≠ _; rw [add_block]; exact hn549_1) | exact hn549_1) (.int .i64 ac)).trans aj; clear hn549_0 hn549_1; replace aq := eq_true aq; replace ar := eq_true ar; have aH : 0 ≤ (0 : Int) := (by omega); have aI : 0 < (ak.length : Int) := dY; obtain ⟨aX, aY, au, av, aw, ax⟩ := at_T101 (Kd.R_reads' ab.out).2.2 0 aH aI; obtain rfl : ap = aX := (by injection aY); have qi550 : (0 < ak.length) = True := eq_true (by omega); (try rw [show ((0 : Int)).toNat = 0 from rfl] at au); (try rw [show 0 * 4 = 0 from rfl] at au); (try rw [Addr.add_zero'] at au); (try rw [show ((0 : Int)).toNat = 0 from rfl] at av); (try rw [show 0 * 4 = 0 from rfl] at av); (try rw [Addr.add_zero'] at av); (try rw [show ((0 : Int)).toNat = 0 from rfl] at aw); (try rw [show 0 * 4 = 0 from rfl] at aw); (try rw [Addr.add_zero'] at aw); (try rw [show ((0 : Int)).toNat = 0 from rfl] at ax); (try rw [show 0 * 4 = 0 from rfl] at ax); (try rw [Addr.add_zero'] at ax); have hn550_0 : ap.block ≠ aa := Kd.own_blk (Kd.R_ne ab.out al.out (by decide)); have hn550_1 : ap.block ≠ aa := Kd.own_blk (Kd.R_ne ab.out al.out (by decide)); replace au := (cell_far (p := ⟨aa, 0, none⟩) (by first | (rw [add_block]; exact hn550_0) | (show (Addr.add _ _).block ≠ _; rw [add_block]; exact hn550_0) | exact hn550_0) (.slice am ae.length ao)).trans au; replace av := (cell_far (p := ⟨aa, 0, none⟩) (by first | (rw [add_block]; exact hn550_0) | (show (Addr.add _ _).block ≠ _; rw [add_block]; exact hn550_0) | exact hn550_0) (.slice am ae.length ao)).trans av; replace aw := (cell_far (p := ⟨aa, 0, none⟩) (by first | (rw [add_block]; exact hn550_0) | (show (Addr.add _ _).block ≠ _; rw [add_block]; exact hn550_0) | exact hn550_0) (.slice am ae.length ao)).trans aw; replace ax := (cell_far (p := ⟨aa, 0, none⟩) (by first | (rw [add_block]; exact hn550_0) | (show (Addr.add _ _).block ≠ _; rw [add_block]; exact hn550_0) | exact hn550_0) (.slice am ae.length ao)).trans ax; replace au := (cell_far (p := ⟨aa, 1, none⟩) (by first | (rw [add_block]; exact hn550_1) | (show (Addr.add _ _).block ≠ _; rw [add_block]; exact hn550_1) | exact hn550_1) (.int .i64 ac)).trans au; replace av := (cell_far (p := ⟨aa, 1, none⟩) (by first | (rw [add_block]; exact hn550_1) | (show (Addr.add _ _).block ≠ _; rw [add_block]; exact hn550_1) | exact hn550_1) (.int .i64 ac)).trans av; replace aw := (cell_far (p := ⟨aa, 1, none⟩) (by first | (rw [add_block]; exact hn550_1) | (show (Addr.add _ _).block ≠ _; rw [add_block]; exact hn550_1) | exact hn550_1) (.int .i64 ac)).trans aw; replace ax := (cell_far (p := ⟨aa, 1, none⟩) (by first | (rw [add_block]; exact hn550_1) | (show (Addr.add _ _).block ≠ _; rw [add_block]; exact hn550_1) | exact hn550_1) (.int .i64 ac)).trans ax; clear hn550_0 hn550_1; replace aH := eq_true aH; replace aI := eq_true aI))
     go_ret; exact ⟨rE, bH⟩
    ·rw [if_neg c6] at H
     obtain ⟨aT, aU⟩ := nQ c6; obtain rfl := Option.some.inj H; go_enter Tryz.func26, Tryz.ntmps26
     go_wp2_with (first | ((with_reducible refine gate_dst (N := 7) rfl ?_); refine gsM (some 7) Tryz.func46 #[.string a0] ?_; (with_reducible refine (furrowref4_Toks.calls k a0 ak ae ac _ A2.out).mono ?_); rintro e bq ⟨aC, aD, rfl, ho0, ho1, hb⟩; refine ⟨_, rfl, ?_⟩; have ab := mk0 (Kd.R_lower ho0 (below_size (uL HB.out))); have af := mk0 (Kd.R_lower ho1 (below_size (uL HB.out))); replace HB := hbB (uL HB.out) hb; (try clear hb ho0 ho1)) | ((with_reducible refine gate_dst (N := 4) rfl ?_); (try (refine gate_guard (by rfl) ?_; dsimp only)); refine bxE 4 #[.slice none 0 0, .int .i64 0] 42 ?_; intro aa hg br hbox hb; replace ab := rB ab hb; replace af := rB af hb; have al := mk0 (hbox); have aE := gE (uL HB.out) hg; replace HB := hbB (uL HB.out) hb; clear hb hbox hg; obtain ⟨az, aA, aZ⟩ := Kd.R_slice af.out; subst aZ; obtain ⟨bs, bu, bv, bw⟩ := cL2 al; obtain ⟨bz, bC, a_⟩ := Kd.R_slice ab.out; subst a_; have aq : 0 ≤ (0 : Int) := (by omega); have ar : 0 < (ak.length : Int) := dY; obtain ⟨ap, aG, ag, ah, ai, aj⟩ := at_T101 (Kd.R_reads' ab.out).2.2 0 aq ar; cases aG; have qi549 : (0 < ak.length) = True := eq_true (by omega); (try rw [show ((0 : Int)).toNat = 0 from rfl] at ag); (try rw [show 0 * 4 = 0 from rfl] at ag); (try rw [Addr.add_zero'] at ag); (try rw [show ((0 : Int)).toNat = 0 from rfl] at ah); (try rw [show 0 * 4 = 0 from rfl] at ah); (try rw [Addr.add_zero'] at ah); (try rw [show ((0 : Int)).toNat = 0 from rfl] at ai); (try rw [show 0 * 4 = 0 from rfl] at ai); (try rw [Addr.add_zero'] at ai); (try rw [show ((0 : Int)).toNat = 0 from rfl] at aj); (try rw [show 0 * 4 = 0 from rfl] at aj); (try rw [Addr.add_zero'] at aj); have hn549_0 : ap.block ≠ aa := Kd.own_blk (Kd.R_ne ab.out al.out (by decide)); have hn549_1 : ap.block ≠ aa := Kd.own_blk (Kd.R_ne ab.out al.out (by decide)); replace ag := (cell_far (p := ⟨aa, 0, none⟩) (by first | (rw [add_block]; exact hn549_0) | (show (Addr.add _ _).block ≠ _; rw [add_block]; exact hn549_0) | exact hn549_0) (.slice az ae.length aA)).trans ag; replace ah := (cell_far (p := ⟨aa, 0, none⟩) (by first | (rw [add_block]; exact hn549_0) | (show (Addr.add _ _).block ≠ _; rw [add_block]; exact hn549_0) | exact hn549_0) (.slice az ae.length aA)).trans ah; replace ai := (cell_far (p := ⟨aa, 0, none⟩) (by first | (rw [add_block]; exact hn549_0) | (show (Addr.add _ _).block ≠ _; rw [add_block]; exact hn549_0) | exact hn549_0) (.slice az ae.length aA)).trans ai; replace aj := (cell_far (p := ⟨aa, 0, none⟩) (by first | (rw [add_block]; exact hn549_0) | (show (Addr.add _ _).block ≠ _; rw [add_block]; exact hn549_0) | exact hn549_0) (.slice az ae.length aA)).trans aj; replace ag := (cell_far (p := ⟨aa, 1, none⟩) (by first | (rw [add_block]; exact hn549_1) | (show (Addr.add _ _).block ≠ _; rw [add_block]; exact hn549_1) | exact hn549_1) (.int .i64 ac)).trans ag; replace ah := (cell_far (p := ⟨aa, 1, none⟩) (by first | (rw [add_block]; exact hn549_1) | (show (Addr.add _ _).block ≠ _; rw [add_block]; exact hn549_1) | exact hn549_1) (.int .i64 ac)).trans ah; replace ai := (cell_far (p := ⟨aa, 1, none⟩) (by first | (rw [add_block]; exact hn549_1) | (show (Addr.add _ _).block ≠ _; rw [add_block]; exact hn549_1) | exact hn549_1) (.int .i64 ac)).trans ai; replace aj := (cell_far (p := ⟨aa, 1, none⟩) (by first | (rw [add_block]; exact hn549_1) | (show (Addr.add _ _).block ≠ _; rw [add_block]; exact hn549_1) | exact hn549_1) (.int .i64 ac)).trans aj; clear hn549_0 hn549_1; replace aq := eq_true aq; replace ar := eq_true ar))
     go_ret; exact ⟨rE, bH⟩
   ·exact nO H c5
  ·rw [if_neg c4] at H
   obtain ⟨aN, aQ⟩ := nQ c4; obtain rfl := Option.some.inj H; go_enter Tryz.func26, Tryz.ntmps26
   go_wp2_with (first | ((with_reducible refine gate_dst (N := 7) rfl ?_); refine gsM (some 7) Tryz.func46 #[.string a0] ?_; (with_reducible refine (furrowref4_Toks.calls k a0 ak ae ac _ A2.out).mono ?_); rintro e bE ⟨aC, aD, rfl, ho0, ho1, hb⟩; refine ⟨_, rfl, ?_⟩; have ab := mk0 (Kd.R_lower ho0 (below_size (uL HB.out))); have af := mk0 (Kd.R_lower ho1 (below_size (uL HB.out))); replace HB := hbB (uL HB.out) hb; (try clear hb ho0 ho1)) | ((with_reducible refine gate_dst (N := 4) rfl ?_); (try (refine gate_guard (by rfl) ?_; dsimp only)); refine bxE 4 #[.slice none 0 0, .int .i64 0] 42 ?_; intro aa hg bF hbox hb; replace ab := rB ab hb; replace af := rB af hb; have al := mk0 (hbox); have aE := gE (uL HB.out) hg; replace HB := hbB (uL HB.out) hb; clear hb hbox hg; obtain ⟨bG, bI, bf⟩ := Kd.R_slice af.out; subst bf; obtain ⟨bJ, bK, bL, bM⟩ := cL2 al; obtain ⟨bO, bP, bg⟩ := Kd.R_slice ab.out; subst bg))
   go_ret; exact ⟨rE, bH⟩
 ·rw [if_neg c3] at H
  obtain ⟨aK, aM⟩ := nQ c3; obtain rfl := Option.some.inj H; go_enter Tryz.func26, Tryz.ntmps26
  go_wp2_with (first | ((with_reducible refine gate_dst (N := 7) rfl ?_); refine gsM (some 7) Tryz.func46 #[.string a0] ?_; (with_reducible refine (furrowref4_Toks.calls k a0 ak ae ac _ A2.out).mono ?_); rintro e bQ ⟨aC, aD, rfl, ho0, ho1, hb⟩; refine ⟨_, rfl, ?_⟩; have ab := mk0 (Kd.R_lower ho0 (below_size (uL HB.out))); have af := mk0 (Kd.R_lower ho1 (below_size (uL HB.out))); replace HB := hbB (uL HB.out) hb; (try clear hb ho0 ho1); clear ab) | ((with_reducible refine gate_dst (N := 4) rfl ?_); (try (refine gate_guard (by rfl) ?_; dsimp only)); refine bxE 4 #[.slice none 0 0, .int .i64 0] 42 ?_; intro aa hg bR hbox hb; replace af := rB af hb; have al := mk0 (hbox); have aE := gE (uL HB.out) hg; replace HB := hbB (uL HB.out) hb; clear hb hbox hg; obtain ⟨bT, bU, bh⟩ := Kd.R_slice af.out; subst bh; obtain ⟨bV, bW, bX, bY⟩ := cL2 al))
  go_ret; exact ⟨rE, bH⟩


/-! ### furrowlaw5_Right: function 7 -/
mutual
def furrowlaw5_Right.j0 : Nat → Int → Int → Int → ByteArray → List (S30) → Option (Bool)
 | 0, _, _, _, _, _ => none
 | k + 1, x3, x552000, x552001, x552002, x552003 => if x3 = 0 then (furrowlaw5_Right.j1 k x3 true x552000 x552001 x552002 x552003) else (if (x552003.length : Int) = x3 then (if x552001 = 0 then (if x552000 = 3 then (furrowlaw5_Right.j1 k x3 false x552000 x552001 x552002 x552003) else (furrowlaw5_Right.j1 k x3 (x552002.toList != ([] : List UInt8)) x552000 x552001 x552002 x552003)) else (furrowlaw5_Right.j1 k x3 true x552000 x552001 x552002 x552003)) else (furrowlaw5_Right.j1 k x3 true x552000 x552001 x552002 x552003))
def furrowlaw5_Right.j1 : Nat → Int → Bool → Int → Int → ByteArray → List (S30) → Option (Bool)
 | 0, _, _, _, _, _, _ => none
 | k + 1, x3, x90, x552000, x552001, x552002, x552003 => if x90 = true then (some false) else (furrowlaw5_Right.l0 k x3 0 x552000 x552001 x552002 x552003)
def furrowlaw5_Right.l0 : Nat → Int → Int → Int → Int → ByteArray → List (S30) → Option (Bool)
 | 0, _, _, _, _, _, _ => none
 | k + 1, x3, x4, x552000, x552001, x552002, x552003 => if x4 < x3 then (if 0 ≤ x4 then (if x4 < (x552003.length : Int) then ((furrowlaw5_Right.f k ((rd_T30 x552003 x4).f0) ((rd_T30 x552003 x4).f1) ((rd_T30 x552003 x4).f2) ((rd_T30 x552003 x4).f3)).bind fun t555 => (if t555 = true then (furrowlaw5_Right.l0 k x3 (wrap64 (x4 + 1)) x552000 x552001 x552002 x552003) else (some false))) else (none)) else (none)) else (some true)
def furrowlaw5_Right.f : Nat → Int → Int → ByteArray → List (S30) → Option (Bool)
 | 0, _, _, _, _ => none
 | k + 1, a0_0, a0_1, a0_2, l0_3 => if a0_0 = 1 then (if a0_2.toList = ([] : List UInt8) then (some ((l0_3.length : Int) == 0)) else (some false)) else (if a0_0 = 2 then (if a0_1 = 0 then (if (l0_3.length : Int) = 0 then ((furrowref4_IsName.f k a0_2).bind fun t552 => (some t552)) else (some false)) else (some false)) else (if a0_0 = 3 then (if a0_1 = 0 then ((furrowref4_IsName.f k a0_2).bind fun t553 => (if t553 = true then (if (l0_3.length : Int) < 1 then (some false) else (if (l0_3.length : Int) > 4 then (some false) else (furrowlaw5_Right.j0 k (l0_3.length : Int) a0_0 a0_1 a0_2 l0_3))) else (some false))) else (some false)) else (if a0_0 = 4 then (furrowlaw5_Right.j0 k 1 a0_0 a0_1 a0_2 l0_3) else (if a0_0 = 5 then (furrowlaw5_Right.j0 k 2 a0_0 a0_1 a0_2 l0_3) else (if a0_0 = 6 then (furrowlaw5_Right.j0 k 2 a0_0 a0_1 a0_2 l0_3) else (if a0_0 = 7 then (furrowlaw5_Right.j0 k 2 a0_0 a0_1 a0_2 l0_3) else (if a0_0 = 8 then (furrowlaw5_Right.j0 k 2 a0_0 a0_1 a0_2 l0_3) else (furrowlaw5_Right.j0 k 0 a0_0 a0_1 a0_2 l0_3))))))))
end
theorem furrowlaw5_Right.mono_l : ∀ k, (∀ y0 y1 y2 y3, LeO (furrowlaw5_Right.f k y0 y1 y2 y3) (furrowlaw5_Right.f (k + 1) y0 y1 y2 y3)) ∧ (∀ y0 y1 y2 y3 y4, LeO (furrowlaw5_Right.j0 k y0 y1 y2 y3 y4) (furrowlaw5_Right.j0 (k + 1) y0 y1 y2 y3 y4)) ∧ (∀ y0 y1 y2 y3 y4 y5, LeO (furrowlaw5_Right.j1 k y0 y1 y2 y3 y4 y5) (furrowlaw5_Right.j1 (k + 1) y0 y1 y2 y3 y4 y5)) ∧ (∀ y0 y1 y2 y3 y4 y5, LeO (furrowlaw5_Right.l0 k y0 y1 y2 y3 y4 y5) (furrowlaw5_Right.l0 (k + 1) y0 y1 y2 y3 y4 y5))
 | 0 => by refine ⟨?_, ?_, ?_, ?_⟩ <;> intros <;> exact fun r h => by simp [furrowlaw5_Right.f, furrowlaw5_Right.j0, furrowlaw5_Right.j1, furrowlaw5_Right.l0] at h
 | k + 1 => by
  obtain ⟨i0_, i1_, i2_, i3_⟩ := furrowlaw5_Right.mono_l k; have m0_ := @furrowref4_IsName.mono; refine ⟨?_, ?_, ?_, ?_⟩ <;> intros
  ·unfold furrowlaw5_Right.f; exact lO_
  ·unfold furrowlaw5_Right.j0; exact lO_
  ·unfold furrowlaw5_Right.j1; exact lO_
  ·unfold furrowlaw5_Right.l0; exact lO_
theorem furrowlaw5_Right.mono : ∀ a0 a1 a2 a3 k, LeO (furrowlaw5_Right.f k a0 a1 a2 a3) (furrowlaw5_Right.f (k + 1) a0 a1 a2 a3) := by
 intro a0 a1 a2 a3 k
 obtain ⟨ih0, ih1, ih2, ih3⟩ := furrowlaw5_Right.mono_l k
 exact ih0 a0 a1 a2 a3
set_option maxHeartbeats 8000000 in
set_option maxRecDepth 100000 in
theorem furrowlaw5_Right.calls (k : Nat) : ∀ (a0_0 : Int) (a0_1 : Int) (a0_2 : ByteArray) (A0_3 : Option Addr) (c0_3 : Nat) (l0_3 : List (S30)) (r : Bool) (w : World) (hr0_3 : Kd.C k30 w A0_3 l0_3.length l0_3) (hc0_3 : l0_3.length ≤ c0_3) (h : furrowlaw5_Right.f k a0_0 a0_1 a0_2 l0_3 = some r),
  Calls Tryz.prog 7 #[.agg #[.int .i64 a0_0, .int .i64 a0_1, .string a0_2, .slice A0_3 l0_3.length c0_3]] w fun e w' => e = .returned (.bool r) ∧ Below w.heap.size w w' := by
 induction k using Nat.strongRecOn with
 | _ k ih =>
 intro a0_0 a0_1 a0_2 A0_3 c0_3 l0_3 r w hr0_3 hc0_3 h
 cases k with
 | zero => exact absurd h (by simp [furrowlaw5_Right.f])
 | succ k =>
 simp only [furrowlaw5_Right.f] at h
 have hu30 := Tryz.underlying30
 have bs := mk0 hr0_3
 have cm := mk0 hc0_3
 clear hr0_3 hc0_3
 have HB := mk0 (Below.refl w.heap.size w)
 have H : (if a0_0 = 1 then (if a0_2.toList = ([] : List UInt8) then (some ((l0_3.length : Int) == 0)) else (some false)) else (if a0_0 = 2 then (if a0_1 = 0 then (if (l0_3.length : Int) = 0 then ((furrowref4_IsName.f k a0_2).bind fun aW => (some aW)) else (some false)) else (some false)) else (if a0_0 = 3 then (if a0_1 = 0 then ((furrowref4_IsName.f k a0_2).bind fun aX => (if aX = true then (if (l0_3.length : Int) < 1 then (some false) else (if (l0_3.length : Int) > 4 then (some false) else (furrowlaw5_Right.j0 k (l0_3.length : Int) a0_0 a0_1 a0_2 l0_3))) else (some false))) else (some false)) else (if a0_0 = 4 then (furrowlaw5_Right.j0 k 1 a0_0 a0_1 a0_2 l0_3) else (if a0_0 = 5 then (furrowlaw5_Right.j0 k 2 a0_0 a0_1 a0_2 l0_3) else (if a0_0 = 6 then (furrowlaw5_Right.j0 k 2 a0_0 a0_1 a0_2 l0_3) else (if a0_0 = 7 then (furrowlaw5_Right.j0 k 2 a0_0 a0_1 a0_2 l0_3) else (if a0_0 = 8 then (furrowlaw5_Right.j0 k 2 a0_0 a0_1 a0_2 l0_3) else (furrowlaw5_Right.j0 k 0 a0_0 a0_1 a0_2 l0_3))))))))) = some r := h
 clear h
 have aY := mk0 H
 clear H
 go_enter Tryz.func7, Tryz.ntmps7
 go_upto_block 0 with (first | ((with_reducible refine gate_dst (N := 1) rfl ?_); (try (refine gate_guard (by rfl) ?_; dsimp only)); refine bxE 1 #[.int .i64 a0_0, .int .i64 a0_1, .string a0_2, .slice A0_3 l0_3.length c0_3] 30 ?_; intro aZ hg w3 hbox hb; have aa := mk0 (hbox); have cn := gE (uL HB.out) hg; replace HB := hbB (uL HB.out) hb; clear hb hbox hg; obtain ⟨a_, bf, bg, bh, bi, bj, bk, bl⟩ := cL4 aa))
 (try simp only [AP])
 go_cut [3] (fun v3 wc => ∃ (kq : Nat) (x3_1 : Int), v3 = .int .i64 x3_1 ∧ Aside0 (furrowlaw5_Right.j0 kq x3_1 a0_0 a0_1 a0_2 l0_3 = some r) ∧ Aside0 (kq ≤ k) ∧ Aside0 (wc.heap[aZ]? = some (.cells #[.int .i64 a0_0, .int .i64 a0_1, .string a0_2, (.slice A0_3 l0_3.length c0_3)] 30 (0, 0))) ∧ Aside0 (Below w.heap.size w wc))
 case first =>
  have H := aY.out; clear aY
  by_cases c5 : a0_0 = 1
  ·rw [if_pos c5] at H
   obtain ⟨aj, bv⟩ := yQ c5; clear c5; (first | rw [aj] | (simp only [i64_w, i32_w]; rw [aj]) | skip)
   by_cases c6 : a0_2.toList = ([] : List UInt8)
   ·rw [if_pos c6] at H
    obtain ⟨bw, bz⟩ := yQ c6; clear c6; obtain rfl := Option.some.inj H; obtain ⟨cp, cq, cr, ct, cu, cv, cw, cx⟩ := cL4 aa; go_wp2; go_ret; exact ⟨rE, bH⟩
   ·rw [if_neg c6] at H
    obtain ⟨bw, bz⟩ := nQ c6; obtain rfl := Option.some.inj H; obtain ⟨cy, cz, cA, cD, cE, cF, cG, cH⟩ := cL4 aa; go_wp2; go_ret; exact ⟨rE, bH⟩
  ·rw [if_neg c5] at H
   obtain ⟨aj, bv⟩ := nQ c5; (first | rw [aj] | (simp only [i64_w, i32_w]; rw [aj]) | skip)
   by_cases c9 : a0_0 = 2
   ·rw [if_pos c9] at H
    obtain ⟨bC, bE⟩ := yQ c9; clear c9
    by_cases ak : a0_1 = 0
    ·rw [if_pos ak] at H
     obtain ⟨bF, bG⟩ := yQ ak; clear ak
     by_cases af : (l0_3.length : Int) = 0
     ·rw [if_pos af] at H
      obtain ⟨bI, bJ⟩ := yQ af; clear af; obtain ⟨aW, bK, H⟩ := oB H; obtain rfl := Option.some.inj H; obtain ⟨cI, cJ, cK, cL, cM, cN, cO, cP⟩ := cL4 aa
      go_wp2_with (first | (go_at_call 26; (with_reducible refine (furrowref4_IsName.calls k a0_2 aW _ bK.out).mono ?_); rintro e cR ⟨rfl, hb⟩; replace HB := hbB bH hb; (try clear hb); ))
      go_ret; exact ⟨rE, bH⟩
     ·rw [if_neg af] at H
      obtain ⟨bI, bJ⟩ := nQ af; (have cS : ¬ (l0_3 = []) := fun h_ => af (by rw [h_]; rfl)); obtain rfl := Option.some.inj H; obtain ⟨cT, cU, cV, cW, cX, cY, cZ, c_⟩ := cL4 aa; go_wp2; go_ret; exact ⟨rE, bH⟩
    ·rw [if_neg ak] at H
     obtain ⟨bF, bG⟩ := nQ ak; obtain rfl := Option.some.inj H; obtain ⟨da, db, dc, dd, de, df, dh, di⟩ := cL4 aa; go_wp2; go_ret; exact ⟨rE, bH⟩
   ·rw [if_neg c9] at H
    obtain ⟨bC, bE⟩ := nQ c9
    by_cases al : a0_0 = 3
    ·rw [if_pos al] at H
     obtain ⟨bL, bM⟩ := yQ al; clear al
     by_cases am : a0_1 = 0
     ·rw [if_pos am] at H
      obtain ⟨bO, bP⟩ := yQ am; clear am; obtain ⟨aX, aJ, H⟩ := oB H
      by_cases aK : aX = true
      ·subst aK
       replace H := iT H
       by_cases ag : (l0_3.length : Int) < 1
       ·rw [if_pos ag] at H
        have bQ := decide_eq_true ag; have bR : decide (l0_3.length < 1) = true := decide_eq_true (by omega); clear ag; obtain rfl := Option.some.inj H; obtain ⟨dj, dl, dn, dp, dq, dr, dt, du⟩ := cL4 aa
        go_wp2_with (first | (go_at_call 26; (with_reducible refine (furrowref4_IsName.calls k a0_2 true _ aJ.out).mono ?_); rintro e dv ⟨rfl, hb⟩; replace aa := bB aa hb; replace HB := hbB bH hb; (try clear hb); obtain ⟨dw, dz, dA, dB, dC, dD, dE, dF⟩ := cL4 aa))
        go_ret; exact ⟨rE, bH⟩
       ·rw [if_neg ag] at H
        have bQ := decide_eq_false ag; have bR : decide (l0_3.length < 1) = false := decide_eq_false (by omega); clear ag
        by_cases ah : (l0_3.length : Int) > 4
        ·rw [if_pos ah] at H
         have bT := decide_eq_true ah; have bU : decide (4 < l0_3.length) = true := decide_eq_true (by omega); clear ah; obtain rfl := Option.some.inj H; obtain ⟨dG, dH, dI, dJ, dK, dL, dM, dN⟩ := cL4 aa
         go_wp2_with (first | (go_at_call 26; (with_reducible refine (furrowref4_IsName.calls k a0_2 true _ aJ.out).mono ?_); rintro e dO ⟨rfl, hb⟩; replace aa := bB aa hb; replace HB := hbB bH hb; (try clear hb); obtain ⟨dP, dQ, dR, dS, dT, dU, dV, dW⟩ := cL4 aa))
         go_ret; exact ⟨rE, bH⟩
        ·rw [if_neg ah] at H
         have bT := decide_eq_false ah; have bU : decide (4 < l0_3.length) = false := decide_eq_false (by omega); clear ah; have H' := mk0 H; clear H; obtain ⟨dX, dZ, d6, d7, d8, d9, d_, ea⟩ := cL4 aa
         go_wp2_with (first | (go_at_call 26; (with_reducible refine (furrowref4_IsName.calls k a0_2 true _ aJ.out).mono ?_); rintro e eb ⟨rfl, hb⟩; replace aa := bB aa hb; replace HB := hbB bH hb; (try clear hb); obtain ⟨ec, ed, ee, ef, eh, ei, ej, em⟩ := cL4 aa))
         go_meet
         case rel => exact ⟨_, ((l0_3.length : Int)), eK, H', ⟨by first | omega | exact Nat.le_refl _⟩, ⟨uB aa.out⟩, ⟨bH⟩⟩
      ·replace aK := Bool.eq_false_iff.mpr aK
       subst aK; replace H := iF H; obtain rfl := Option.some.inj H; obtain ⟨eo, ep, eu, ew, ez, eA, eB, eC⟩ := cL4 aa
       go_wp2_with (first | (go_at_call 26; (with_reducible refine (furrowref4_IsName.calls k a0_2 false _ aJ.out).mono ?_); rintro e eD ⟨rfl, hb⟩; replace HB := hbB bH hb; (try clear hb); ))
       go_ret; exact ⟨rE, bH⟩
     ·rw [if_neg am] at H
      obtain ⟨bO, bP⟩ := nQ am; obtain rfl := Option.some.inj H; obtain ⟨eE, eF, eG, eH, eI, eJ, eL, eM⟩ := cL4 aa; go_wp2; go_ret; exact ⟨rE, bH⟩
    ·rw [if_neg al] at H
     obtain ⟨bL, bM⟩ := nQ al
     by_cases ao : a0_0 = 4
     ·rw [if_pos ao] at H
      obtain ⟨bV, bW⟩ := yQ ao; clear ao; have H' := mk0 H; clear H; go_wp2
      go_meet
      case rel => exact ⟨_, (1), eK, H', ⟨by first | omega | exact Nat.le_refl _⟩, ⟨uB aa.out⟩, ⟨bH⟩⟩
     ·rw [if_neg ao] at H
      obtain ⟨bV, bW⟩ := nQ ao
      by_cases ap : a0_0 = 5
      ·rw [if_pos ap] at H
       obtain ⟨bX, bY⟩ := yQ ap; clear ap; have H' := mk0 H; clear H; go_wp2
       go_meet
       case rel => exact ⟨_, (2), eK, H', ⟨by first | omega | exact Nat.le_refl _⟩, ⟨uB aa.out⟩, ⟨bH⟩⟩
      ·rw [if_neg ap] at H
       obtain ⟨bX, bY⟩ := nQ ap
       by_cases aq : a0_0 = 6
       ·rw [if_pos aq] at H
        obtain ⟨bZ, b4⟩ := yQ aq; clear aq; have H' := mk0 H; clear H; go_wp2
        go_meet
        case rel => exact ⟨_, (2), eK, H', ⟨by first | omega | exact Nat.le_refl _⟩, ⟨uB aa.out⟩, ⟨bH⟩⟩
       ·rw [if_neg aq] at H
        obtain ⟨bZ, b4⟩ := nQ aq
        by_cases ar : a0_0 = 7
        ·rw [if_pos ar] at H
         obtain ⟨b5, b6⟩ := yQ ar; clear ar; have H' := mk0 H; clear H; go_wp2
         go_meet
         case rel => exact ⟨_, (2), eK, H', ⟨by first | omega | exact Nat.le_refl _⟩, ⟨uB aa.out⟩, ⟨bH⟩⟩
        ·rw [if_neg ar] at H
         obtain ⟨b5, b6⟩ := nQ ar
         by_cases au : a0_0 = 8
         ·rw [if_pos au] at H
          obtain ⟨b7, b8⟩ := yQ au; clear au; have H' := mk0 H; clear H; go_wp2
          go_meet
          case rel => exact ⟨_, (2), eK, H', ⟨by first | omega | exact Nat.le_refl _⟩, ⟨uB aa.out⟩, ⟨bH⟩⟩
         ·rw [if_neg au] at H
          obtain ⟨b7, b8⟩ := nQ au; have H' := mk0 H; clear H; go_wp2
          go_meet
          case rel => exact ⟨_, (0), eK, H', ⟨by first | omega | exact Nat.le_refl _⟩, ⟨uB aa.out⟩, ⟨bH⟩⟩
 case rest =>
  clear aY; (try clear a_ bf bg bh bi bj bk bl); obtain ⟨kq, x3_1, rfl, HA, ab, aa, HB⟩ := hcut
  cases kq with
  | zero => exact absurd HA.out (by simp [furrowlaw5_Right.j0])
  | succ kj1 =>
   have H := HA.out; clear HA; simp only [furrowlaw5_Right.j0] at H; have bm := mk0 H; clear H
   go_upto_region 18 with (fail)
   go_cut [90] (fun v90 wc => ∃ (kq : Nat) (aM : Bool), v90 = .bool aM ∧ Aside0 (furrowlaw5_Right.j1 kq x3_1 aM a0_0 a0_1 a0_2 l0_3 = some r) ∧ Aside0 (kq ≤ kj1) ∧ Aside0 (wc.heap[aZ]? = some (.cells #[.int .i64 a0_0, .int .i64 a0_1, .string a0_2, (.slice A0_3 l0_3.length c0_3)] 30 (0, 0))) ∧ Aside0 (Below w.heap.size w wc))
   case first =>
    have H := bm.out; clear bm
    by_cases av : x3_1 = 0
    ·rw [if_pos av] at H
     obtain ⟨aw, b9⟩ := yQ av; clear av; (first | rw [aw] | (simp only [i64_w, i32_w]; rw [aw]) | skip); have H' := mk0 H; clear H; go_wp2
     go_meet
     case rel => exact ⟨_, (true), eK, H', ⟨by have := ab.out; first | omega | exact Nat.le_refl _⟩, ⟨uB aa.out⟩, ⟨bH⟩⟩
    ·rw [if_neg av] at H
     obtain ⟨aw, b9⟩ := nQ av; (first | rw [aw] | (simp only [i64_w, i32_w]; rw [aw]) | skip)
     by_cases ax : (l0_3.length : Int) = x3_1
     ·rw [if_pos ax] at H
      obtain ⟨cd, ce⟩ := yQ ax; clear ax
      by_cases ay : a0_1 = 0
      ·rw [if_pos ay] at H
       obtain ⟨cf, cg⟩ := yQ ay; clear ay
       by_cases az : a0_0 = 3
       ·rw [if_pos az] at H
        obtain ⟨ch, ci⟩ := yQ az; clear az; have H' := mk0 H; clear H; obtain ⟨eN, eO, eP, eQ, eR, eS, eT, eU⟩ := cL4 aa; go_wp2
        go_meet
        case rel => exact ⟨_, (false), eK, H', ⟨by have := ab.out; first | omega | exact Nat.le_refl _⟩, ⟨uB aa.out⟩, ⟨bH⟩⟩
       ·rw [if_neg az] at H
        obtain ⟨ch, ci⟩ := nQ az; have H' := mk0 H; clear H; obtain ⟨eV, eW, eX, eY, eZ, e6, e7, e8⟩ := cL4 aa; go_wp2
        go_meet
        case rel => exact ⟨_, ((a0_2.toList != ([] : List UInt8))), eK, H', ⟨by have := ab.out; first | omega | exact Nat.le_refl _⟩, ⟨uB aa.out⟩, ⟨bH⟩⟩
      ·rw [if_neg ay] at H
       obtain ⟨cf, cg⟩ := nQ ay; have H' := mk0 H; clear H; obtain ⟨e9, fa, fb, fc, fd, fe, ff, fh⟩ := cL4 aa; go_wp2
       go_meet
       case rel => exact ⟨_, (true), eK, H', ⟨by have := ab.out; first | omega | exact Nat.le_refl _⟩, ⟨uB aa.out⟩, ⟨bH⟩⟩
     ·rw [if_neg ax] at H
      obtain ⟨cd, ce⟩ := nQ ax; have H' := mk0 H; clear H; obtain ⟨fi, fj, fk, fm, fo, fp, fq, ft⟩ := cL4 aa; go_wp2
      go_meet
      case rel => exact ⟨_, (true), eK, H', ⟨by have := ab.out; first | omega | exact Nat.le_refl _⟩, ⟨uB aa.out⟩, ⟨bH⟩⟩
   case rest =>
    clear bm; (try clear a_ bf bg bh bi bj bk bl); obtain ⟨kq, aM, rfl, HA, aN, aa, HB⟩ := hcut
    cases kq with
    | zero => exact absurd HA.out (by simp [furrowlaw5_Right.j1])
    | succ kj39 =>
     have H := HA.out; clear HA; simp only [furrowlaw5_Right.j1] at H
     by_cases aA : aM = true
     ·subst aA
      replace H := iT H; obtain rfl := Option.some.inj H; go_wp2; go_ret; exact ⟨rE, bH⟩
     ·replace aA := Bool.eq_false_iff.mpr aA
      subst aA; replace H := iF H; have H' := mk0 H; clear H; go_wp2
      go_loopg [4] kj39 (fun kq v4 w' => ∃ (x4_3 : Int), v4 = .int .i64 x4_3 ∧ Aside0 (furrowlaw5_Right.l0 kq x3_1 x4_3 a0_0 a0_1 a0_2 l0_3 = some r) ∧ Aside0 (kq ≤ kj39) ∧ Aside0 (w'.heap[aZ]? = some (.cells #[.int .i64 a0_0, .int .i64 a0_1, .string a0_2, (.slice A0_3 l0_3.length c0_3)] 30 (0, 0))) ∧ Aside0 (Below w.heap.size w w'))
      case atStart => exact ⟨(0), eK, H', ⟨Nat.le_refl _⟩, ⟨uB aa.out⟩, ⟨bH⟩⟩
      case round =>
       clear H'; (try clear aA a_ bf bg bh bi bj bk bl); obtain ⟨x4_3, rfl, HA, aQ, aa, HB⟩ := hrel
       cases gk with
       | zero => exact absurd HA.out (by simp [furrowlaw5_Right.l0])
       | succ k3 =>
        have H := HA.out; clear HA; simp only [furrowlaw5_Right.l0] at H
        by_cases ai : x4_3 < x3_1
        ·rw [if_pos ai] at H
         have cj := decide_eq_true ai; clear ai
         by_cases aT : 0 ≤ x4_3
         ·rw [if_pos aT] at H
          have fu := decide_eq_true aT; clear aT
          by_cases aU : x4_3 < (l0_3.length : Int)
          ·rw [if_pos aU] at H
           have fv := decide_eq_true aU; clear aU; obtain ⟨ck, bu, H⟩ := oB H
           by_cases aV : ck = true
           ·subst aV
            replace H := iT H; have H' := mk0 H; clear H; obtain ⟨fw, fx, fy, fz, fA, fC, fD, fE⟩ := cL4 aa; have ac : 0 ≤ (x4_3 : Int) := dY; have ae : x4_3 < (l0_3.length : Int) := dY; obtain ⟨cl, bn, bo, bp, aC, aD, aE, aG, aH, aI⟩ := at_T30 bs.out x4_3 ac ae
            cases bp
            replace aC := oC HB aC; replace aD := oC HB aD; replace aE := oC HB aE; replace aG := oC HB aG; have bq := mk0 aI; have br := mk0 aH; clear aI aH; replace ac := eq_true ac; replace ae := eq_true ae
            go_wp2_with (first | ((with_reducible refine gate_dst (N := 101) rfl ?_); refine gsM (some 101) Tryz.func7 #[.agg #[.int .i64 ((rd_T30 l0_3 x4_3).f0), .int .i64 ((rd_T30 l0_3 x4_3).f1), .string ((rd_T30 l0_3 x4_3).f2), .slice bn ((rd_T30 l0_3 x4_3).f3).length bo]] ?_; (with_reducible refine (ih k3 (by have := ab.out; have := aN.out; have := aQ.out; omega) ((rd_T30 l0_3 x4_3).f0) ((rd_T30 l0_3 x4_3).f1) ((rd_T30 l0_3 x4_3).f2) _ _ ((rd_T30 l0_3 x4_3).f3) true _ ?side1 ?side2 bu.out).mono ?_); (case side1 => exact uC (Kd.C_below bq.out HB.out)); (case side2 => exact br.out); rintro e fF ⟨rfl, hb⟩; refine ⟨_, rfl, ?_⟩; replace aa := bB aa hb; replace HB := hbB bH hb; (try clear hb); ))
            go_roundg k3
            case measure => have := ab.out; have := aN.out; have := aQ.out; omega
            case rel => exact ⟨(wrap64 (x4_3 + 1)), eK, H', ⟨by have := ab.out; have := aN.out; have := aQ.out; omega⟩, ⟨uB aa.out⟩, ⟨bH⟩⟩
           ·replace aV := Bool.eq_false_iff.mpr aV
            subst aV; replace H := iF H; obtain rfl := Option.some.inj H; obtain ⟨fG, fH, fI, fJ, fK, fL, fM, fN⟩ := cL4 aa; have ac : 0 ≤ (x4_3 : Int) := dY; have ae : x4_3 < (l0_3.length : Int) := dY; obtain ⟨cl, bn, bo, bp, aC, aD, aE, aG, aH, aI⟩ := at_T30 bs.out x4_3 ac ae
            cases bp
            replace aC := oC HB aC; replace aD := oC HB aD; replace aE := oC HB aE; replace aG := oC HB aG; have bq := mk0 aI; have br := mk0 aH; clear aI aH; replace ac := eq_true ac; replace ae := eq_true ae
            go_wp2_with (first | ((with_reducible refine gate_dst (N := 101) rfl ?_); refine gsM (some 101) Tryz.func7 #[.agg #[.int .i64 ((rd_T30 l0_3 x4_3).f0), .int .i64 ((rd_T30 l0_3 x4_3).f1), .string ((rd_T30 l0_3 x4_3).f2), .slice bn ((rd_T30 l0_3 x4_3).f3).length bo]] ?_; (with_reducible refine (ih k3 (by have := ab.out; have := aN.out; have := aQ.out; omega) ((rd_T30 l0_3 x4_3).f0) ((rd_T30 l0_3 x4_3).f1) ((rd_T30 l0_3 x4_3).f2) _ _ ((rd_T30 l0_3 x4_3).f3) false _ ?side1 ?side2 bu.out).mono ?_); (case side1 => exact uC (Kd.C_below bq.out HB.out)); (case side2 => exact br.out); rintro e fO ⟨rfl, hb⟩; refine ⟨_, rfl, ?_⟩; replace HB := hbB bH hb; (try clear hb); ))
            go_ret; exact ⟨rE, bH⟩
          ·exact nO H aU
         ·exact nO H aT
        ·rw [if_neg ai] at H
         have cj := decide_eq_false ai; clear ai; obtain rfl := Option.some.inj H; go_wp2; go_ret; exact ⟨rE, bH⟩

end Go.Proofs.YtnkckdbjeemjeaaGreatDoor.X
