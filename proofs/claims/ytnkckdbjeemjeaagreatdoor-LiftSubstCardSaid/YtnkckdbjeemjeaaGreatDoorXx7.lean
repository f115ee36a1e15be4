-- PRINTED by print.py (a twelfth state) out of the translation. Not trusted: Lean checks it.
import Derived.Test.YtnkckdbjeemjeaaGreatDoorXx0
namespace Go.Proofs.YtnkckdbjeemjeaaGreatDoor.X
open Go.Proofs.YtnkckdbjeemjeaaGreatDoor.Flt Go.Proofs.YtnkckdbjeemjeaaGreatDoor.H Go.RowKit Go.Proofs.YtnkckdbjeemjeaaGreatDoorW.PrintWords Go.Proofs.YtnkckdbjeemjeaaGreatDoorW.PrintLast Go.Proofs.YtnkckdbjeemjeaaGreatDoorW.PrintMore
attribute [local go_sem] max2_int min2_int max_two min_two max_three min_three max_four min_four   -- for this text's walks alone
set_option linter.unusedVariables false
set_option linter.unusedSimpArgs false

-- NOT PRINTED: function 60 (reflectlite_TypeOf)

-- NOT PRINTED: function 61 (errors_is)

-- NOT PRINTED: function 40 (errors_Is)

-- NOT PRINTED: function 62 (reflectlite_ValueOf)

-- NOT PRINTED: function 63 (reflectlite_Value_Type)

-- NOT PRINTED: function 64 (reflectlite_Value_IsNil)

-- NOT PRINTED: function 87 (reflectlite_Value_Elem)

-- NOT PRINTED: function 88 (reflectlite_Value_Set)

-- NOT PRINTED: function 65 (errors_as)

-- NOT PRINTED: function 41 (errors_As)

/-! ### furrowref4_At: function 23 -/
def furrowref4_At.f (a0 : ByteArray) (a1 : Int) (a2 : Int) : Option ((List (S90)) × Int) := some ((([(⟨a0, a1⟩ : S90)] : List (S90))), a2)
set_option maxHeartbeats 8000000 in
set_option maxRecDepth 100000 in
theorem furrowref4_At.calls (a0 : ByteArray) (a1 : Int) (a2 : Int) (r1 : List (S90)) (r2 : Int) (w : World) (h : furrowref4_At.f a0 a1 a2 = some (r1, r2)) :
  Calls Tryz.prog 23 #[.string a0, .int .i64 a1, .int .i64 a2] w fun e w' => ∃ v0_ : Value, e = .returned (.agg #[v0_, .int .i64 r2]) ∧ Kd.R k90 90 w' w.heap.size (fun _ => True) v0_ r1 ∧ Below w.heap.size w w' := by
 have hu42 := Tryz.underlying42
 have hu90 := Tryz.underlying90
 have HB := mk0 (Below.refl w.heap.size w)
 have H : (some ((([(⟨a0, a1⟩ : S90)] : List (S90))), a2)) = some (r1, r2) := h
 clear h
 obtain ⟨ac, aa⟩ : ∃ y_ : List (S90), y_ = (([(⟨a0, a1⟩ : S90)] : List (S90))) := ⟨_, rfl⟩
 replace H : (some (ac, a2)) = some (r1, r2) := by first | (rw [aa]; with_reducible exact H) | (have H2_ := (Option.bind_some _ _).symm.trans H; rw [aa]; with_reducible exact H2_) | (have H2_ := (Option.bind_some _ _).symm.trans H; with_reducible exact H2_) | with_reducible exact H | (rw [aa]; exact H) | exact H
 have af := mk0 aa
 clear aa
 simp only [Option.some.injEq, Prod.mk.injEq] at H
 obtain ⟨rfl, rfl⟩ := H
 go_enter Tryz.func23, Tryz.ntmps23
 go_wp2_with (first | ((with_reducible refine gate_dst (N := 6) rfl ?_); refine bxE 6 #[.slice none 0 0, .int .i64 0] 42 ?_; intro ae hg w4 hbox hb; have ab := mk0 (hbox); have ak := gE (uL HB.out) hg; have al := gE (uL HB.out) hg; replace HB := hbB (uL HB.out) hb; clear hb hbox hg) | ((with_reducible refine gate_dst (N := 10) rfl ?_); refine Kd.R_lit k90 _ 90 ?hg (N := 10) ?hd (xs := ([(⟨a0, a1⟩ : S90)] : List (S90))) (inner := [.string a0, .int .i64 a1]) (ok := fun _ => True) (okp := fun _ => True) ?hr ?hp (fun _ hk => hk) trivial (Below.refl _ _) (Nat.le_refl _) (by simp) ?_; (case hd => rfl); (case hg => rfl); (case hr => first | (go_simp; done) | (go_simp; rfl)); (case hp => exact (Reps.c2 (show Kd.M k90 _ _ _ (⟨a0, a1⟩ : S90) [.string a0, .int .i64 a1] from (k90_mkM _ _ _ (⟨a0, a1⟩ : S90) )) (Reps.none _ _))); intro am w5 ho6 hb hg_ hnew_; clear hg_ hnew_; (first | rw [← af.out] at ho6 | (simp only [Int.reduceToNat] at ho6; rw [← af.out] at ho6)); have ag := mk0 (Kd.R_lower ho6 (below_size bH)); replace ab := bB ab hb; replace HB := hbB bH hb; clear hb ho6; obtain ⟨ah, ai, aj⟩ := Kd.R_slice ag.out; subst aj; obtain ⟨ao, ap, aq, ar⟩ := cL2 ab))
 refine bodyPost_ret (results_cell_row rfl _ _ ae 42 #[.slice ah ac.length ai, .int .i64 a2] (0, 0) _ rfl (kB) Tryz.underlying42 rfl (by kernel_rfl)) rfl ?_
 exact ⟨_, rE, uR (Kd.R_mono (Kd.R_far (p := ⟨ae, 1, none⟩) (Kd.R_far (p := ⟨ae, 0, none⟩) (Kd.R_types ag.out ab.out (by decide)) (fun _ hk => hk.2) (.slice ah ac.length ai)) (fun _ hk => hk.2) (.int .i64 a2)) (fun _ hk => trivial)), bH⟩
 -- NOT PRINTED: function 95 (strconv_small)
 -- NOT PRINTED: function 101 (strconv_log10Pow2)
 -- NOT PRINTED: function 102 (bits_Len64)
 -- NOT PRINTED: function 103 (strconv_bool2_int)
 -- NOT PRINTED: function 96 (strconv_numDigits)
 -- NOT PRINTED: function 97 (strconv_formatBase10)
 -- NOT PRINTED: function 104 (strconv_isPowerOfTwo)
 -- NOT PRINTED: function 106 (bits_TrailingZeros32)
 -- NOT PRINTED: function 107 (bits_TrailingZeros64)
 -- NOT PRINTED: function 105 (bits_TrailingZeros)
 -- NOT PRINTED: function 98 (strconv_formatBits)
 -- NOT PRINTED: function 89 (strconv_FormatInt_89)
 -- NOT PRINTED: function 99 (abi_NoEscape)
 -- NOT PRINTED: function 90 (strings_Builder_copyCheck)
 -- NOT PRINTED: function 100 (bytealg_MakeNoZero)
 -- NOT PRINTED: function 91 (strings_Builder_grow)
 -- NOT PRINTED: function 67 (strings_Builder_Grow)
 -- NOT PRINTED: function 68 (strings_Builder_WriteString)
 -- NOT PRINTED: function 69 (strings_Builder_String)
 -- NOT PRINTED: function 43 (strings_Join)

/-! ### expr_bracket: function 44 -/
def expr_bracket.f (a0 : ByteArray) (a1 : Bool) : Option (ByteArray) := if a1 = true then (if 1 + a0.size ≤ 9223372036854775807 then (if ((⟨#[40]⟩ : ByteArray) ++ a0).size + 1 ≤ 9223372036854775807 then (some (((⟨#[40]⟩ : ByteArray) ++ a0) ++ (⟨#[41]⟩ : ByteArray))) else (none)) else (none)) else (some a0)
set_option maxHeartbeats 8000000 in
set_option maxRecDepth 100000 in
theorem expr_bracket.calls (a0 : ByteArray) (a1 : Bool) (r : ByteArray) (w : World) (h : expr_bracket.f a0 a1 = some r) :
  Calls Tryz.prog 44 #[.string a0, .bool a1] w fun e w' => e = .returned (.string r) ∧ Drawn0 w w' := by
 have H : (if a1 = true then (if 1 + a0.size ≤ 9223372036854775807 then (if ((⟨#[40]⟩ : ByteArray) ++ a0).size + 1 ≤ 9223372036854775807 then (some (((⟨#[40]⟩ : ByteArray) ++ a0) ++ (⟨#[41]⟩ : ByteArray))) else (none)) else (none)) else (some a0)) = some r := h
 clear h
 by_cases c3 : a1 = true
 ·subst c3
  replace H := iT H
  by_cases c4 : 1 + a0.size ≤ 9223372036854775807
  ·rw [if_pos c4] at H
   have c4b0 := eq_true c4; have c4b1 := decide_eq_true c4; (try have c4b2 : (9223372036854775807 < 1 + a0.size) = False := eq_false (Nat.not_lt.2 c4))
   by_cases c5 : ((⟨#[40]⟩ : ByteArray) ++ a0).size + 1 ≤ 9223372036854775807
   ·rw [if_pos c5] at H
    have c5b0 := eq_true c5; have c5b1 := decide_eq_true c5; (try have c5b2 : (9223372036854775807 < ((⟨#[40]⟩ : ByteArray) ++ a0).size + 1) = False := eq_false (Nat.not_lt.2 c5)); have c5s := c5; simp only [ByteArray.size_append, show (⟨#[40]⟩ : ByteArray).size = 1 from rfl] at c5s; have c5b3 := eq_true c5s; have c5b4 := decide_eq_true c5s; have c5b5 := eq_false (Nat.not_lt.2 c5s); clear c5s; obtain rfl := Option.some.inj H; go_enter Tryz.func44, Tryz.ntmps44; go_wp2; go_ret; exact ⟨eK, by repeat (first | exact Drawn0.refl _ | apply Drawn0.step)⟩
   ·exact nO H c5
  ·exact nO H c4
 ·replace c3 := Bool.eq_false_iff.mpr c3
  subst c3; replace H := iF H; obtain rfl := Option.some.inj H; go_enter Tryz.func44, Tryz.ntmps44; go_wp2; go_ret; exact ⟨eK, by repeat (first | exact Drawn0.refl _ | apply Drawn0.step)⟩

/-! ### expr_level: function 45 -/
def expr_level.j0 : Nat → Int → Int → Bool → Option (Int)
 | 0, _, _, _ => none
 | k + 1, x3, x5, x6 => if x6 = true then (some (wrap64 ((wrap64 (x3 + 1)) + 1))) else (if x5 = 7 then (some (wrap64 (x3 + 1))) else (if x5 = 8 then (some (wrap64 (x3 + 1))) else (some x3)))
def expr_level.f (k : Nat) (a0_0 : Int) (a0_1 : Int) (a0_2 : ByteArray) (l0_3 : List (S24)) : Option (Int) := if a0_0 = 1 then (expr_level.j0 k 1 a0_0 (a0_0 == 1)) else (if a0_0 = 2 then (expr_level.j0 k 1 a0_0 (a0_0 == 2)) else (if a0_0 = 3 then (expr_level.j0 k 1 a0_0 (a0_0 == 3)) else (expr_level.j0 k 1 a0_0 (a0_0 == 4))))
theorem expr_level.mono_l : ∀ k, (∀ y0 y1 y2, LeO (expr_level.j0 k y0 y1 y2) (expr_level.j0 (k + 1) y0 y1 y2))
 | 0 => fun _ _ _ r h => by simp [expr_level.j0] at h
 | k + 1 => by
  have ih0 := expr_level.mono_l k
  ·intro y0 y1 y2
   unfold expr_level.j0
   repeat' first
   | (with_reducible exact ih0 _ _ _)
   | (with_reducible exact LeO.refl _)
   | (with_reducible exact LeO.none _)
   | (with_reducible refine LeO.ite ?_ ?_)
   | (with_reducible refine LeO.bind ?_ (fun _ => ?_))
   | exact ih0 _ _ _
   | exact LeO.none _
   | refine LeO.ite ?_ ?_
   | refine LeO.bind ?_ (fun _ => ?_)
theorem expr_level.mono : ∀ a0 a1 a2 a3 k, LeO (expr_level.f k a0 a1 a2 a3) (expr_level.f (k + 1) a0 a1 a2 a3) := by
 intro a0 a1 a2 a3 k
 have ih0 := expr_level.mono_l k
 unfold expr_level.f
 repeat' first
   | (with_reducible exact ih0 _ _ _)
   | (with_reducible exact LeO.refl _)
   | (with_reducible exact LeO.none _)
   | (with_reducible refine LeO.ite ?_ ?_)
   | (with_reducible refine LeO.bind ?_ (fun _ => ?_))
   | exact ih0 _ _ _
   | exact LeO.none _
   | refine LeO.ite ?_ ?_
   | refine LeO.bind ?_ (fun _ => ?_)
set_option maxHeartbeats 8000000 in
set_option maxRecDepth 100000 in
theorem expr_level.calls (k : Nat) (a0_0 : Int) (a0_1 : Int) (a0_2 : ByteArray) (A0_3 : Option Addr) (c0_3 : Nat) (l0_3 : List (S24)) (r : Int) (w : World) (hr0_3 : Kd.C k24 w A0_3 l0_3.length l0_3) (hc0_3 : l0_3.length ≤ c0_3) (h : expr_level.f k a0_0 a0_1 a0_2 l0_3 = some r) :
  Calls Tryz.prog 45 #[.agg #[.int .i64 a0_0, .int .i64 a0_1, .string a0_2, .slice A0_3 l0_3.length c0_3]] w fun e w' => e = .returned (.int .i64 r) ∧ Below w.heap.size w w' := by
 have hu24 := Tryz.underlying24
 have aA := mk0 hr0_3
 have aC := mk0 hc0_3
 clear hr0_3 hc0_3
 have HB := mk0 (Below.refl w.heap.size w)
 have H : (if a0_0 = 1 then (expr_level.j0 k 1 a0_0 (a0_0 == 1)) else (if a0_0 = 2 then (expr_level.j0 k 1 a0_0 (a0_0 == 2)) else (if a0_0 = 3 then (expr_level.j0 k 1 a0_0 (a0_0 == 3)) else (expr_level.j0 k 1 a0_0 (a0_0 == 4))))) = some r := h
 clear h
 have ae := mk0 H
 clear H
 go_enter Tryz.func45, Tryz.ntmps45
 go_upto_if 6 with (first | ((with_reducible refine gate_dst (N := 1) rfl ?_); refine bxE 1 #[.int .i64 a0_0, .int .i64 a0_1, .string a0_2, .slice A0_3 l0_3.length c0_3] 24 ?_; intro af hg w3 hbox hb; have ab := mk0 (hbox); have aD := gE (uL HB.out) hg; have aE := gE (uL HB.out) hg; replace HB := hbB (uL HB.out) hb; clear hb hbox hg; obtain ⟨ag, ah, ai, aj, ak, al, am, ao⟩ := cL4 ab))
 (try simp only [AP])
 go_cut [6] (fun v6 wc => ∃ (kq : Nat) (x6_1 : Bool), v6 = .bool x6_1 ∧ Aside0 (expr_level.j0 kq 1 a0_0 x6_1 = some r) ∧ Aside0 (kq ≤ k) ∧ Aside0 (wc.heap[af]? = some (.cells #[.int .i64 a0_0, .int .i64 a0_1, .string a0_2, (.slice A0_3 l0_3.length c0_3)] 24 (0, 0))) ∧ Aside0 (Below w.heap.size w wc))
 case first =>
  have H := ae.out; clear ae
  by_cases c5 : a0_0 = 1
  ·rw [if_pos c5] at H
   have ac : (a0_0 == 1) = true := beq_iff_eq.mpr c5; have ap : (a0_0 != 1) = false := bne_eq_false_iff_eq.mpr c5; clear c5; (first | rw [ac] | (simp only [i64_w, i32_w]; rw [ac]) | skip); have H' := mk0 H; clear H; go_wp2
   go_meet
   case rel => exact ⟨_, ((a0_0 == 1)), eK, H', ⟨by first | omega | exact Nat.le_refl _⟩, ⟨uB ab.out⟩, ⟨bH⟩⟩
  ·rw [if_neg c5] at H
   have ac : (a0_0 == 1) = false := beq_eq_false_iff_ne.mpr c5; have ap : (a0_0 != 1) = true := bne_iff_ne.mpr c5; (first | rw [ac] | (simp only [i64_w, i32_w]; rw [ac]) | skip)
   by_cases c6 : a0_0 = 2
   ·rw [if_pos c6] at H
    have aq : (a0_0 == 2) = true := beq_iff_eq.mpr c6; have ar : (a0_0 != 2) = false := bne_eq_false_iff_eq.mpr c6; clear c6; have H' := mk0 H; clear H; go_wp2
    go_meet
    case rel => exact ⟨_, ((a0_0 == 2)), eK, H', ⟨by first | omega | exact Nat.le_refl _⟩, ⟨uB ab.out⟩, ⟨bH⟩⟩
   ·rw [if_neg c6] at H
    have aq : (a0_0 == 2) = false := beq_eq_false_iff_ne.mpr c6; have ar : (a0_0 != 2) = true := bne_iff_ne.mpr c6
    by_cases c7 : a0_0 = 3
    ·rw [if_pos c7] at H
     have au : (a0_0 == 3) = true := beq_iff_eq.mpr c7; have av : (a0_0 != 3) = false := bne_eq_false_iff_eq.mpr c7; clear c7; have H' := mk0 H; clear H; go_wp2
     go_meet
     case rel => exact ⟨_, ((a0_0 == 3)), eK, H', ⟨by first | omega | exact Nat.le_refl _⟩, ⟨uB ab.out⟩, ⟨bH⟩⟩
    ·rw [if_neg c7] at H
     have au : (a0_0 == 3) = false := beq_eq_false_iff_ne.mpr c7; have av : (a0_0 != 3) = true := bne_iff_ne.mpr c7; have H' := mk0 H; clear H; go_wp2
     go_meet
     case rel => exact ⟨_, ((a0_0 == 4)), eK, H', ⟨by first | omega | exact Nat.le_refl _⟩, ⟨uB ab.out⟩, ⟨bH⟩⟩
 case rest =>
  clear ae; (try clear ag ah ai aj ak al am ao); obtain ⟨kq, x6_1, rfl, HA, aG, ab, HB⟩ := hcut
  cases kq with
  | zero => exact absurd HA.out (by simp [expr_level.j0])
  | succ kj1 =>
   have H := HA.out; clear HA; simp only [expr_level.j0] at H
   by_cases c8 : x6_1 = true
   ·subst c8
    replace H := iT H; obtain rfl := Option.some.inj H; go_wp2; go_ret; exact ⟨by first | rfl | (simp [wrap64]; done) | decide, bH⟩
   ·replace c8 := Bool.eq_false_iff.mpr c8
    subst c8; replace H := iF H
    by_cases c9 : a0_0 = 7
    ·rw [if_pos c9] at H
     have aw : (a0_0 == 7) = true := beq_iff_eq.mpr c9; have ax : (a0_0 != 7) = false := bne_eq_false_iff_eq.mpr c9; clear c9; obtain rfl := Option.some.inj H; go_wp2; go_ret; exact ⟨by first | rfl | (simp [wrap64]; done) | decide, bH⟩
    ·rw [if_neg c9] at H
     have aw : (a0_0 == 7) = false := beq_eq_false_iff_ne.mpr c9; have ax : (a0_0 != 7) = true := bne_iff_ne.mpr c9
     by_cases aa : a0_0 = 8
     ·rw [if_pos aa] at H
      have ay : (a0_0 == 8) = true := beq_iff_eq.mpr aa; have az : (a0_0 != 8) = false := bne_eq_false_iff_eq.mpr aa; clear aa; obtain rfl := Option.some.inj H; go_wp2; go_ret; exact ⟨by first | rfl | (simp [wrap64]; done) | decide, bH⟩
     ·rw [if_neg aa] at H
      have ay : (a0_0 == 8) = false := beq_eq_false_iff_ne.mpr aa; have az : (a0_0 != 8) = true := bne_iff_ne.mpr aa; obtain rfl := Option.some.inj H; go_wp2; go_ret; exact ⟨by first | rfl | (simp [wrap64]; done) | decide, bH⟩

end Go.Proofs.YtnkckdbjeemjeaaGreatDoor.X
