-- PRINTED by print.py (a twelfth state) out of the translation. Not trusted: Lean checks it.
import Derived.Test.YtmnifoeodohphaaDoorXx0
namespace Go.Proofs.YtmnifoeodohphaaDoor.X
open Go.Proofs.YtmnifoeodohphaaDoor.Flt Go.Proofs.YtmnifoeodohphaaDoor.H Go.RowKit Go.Proofs.YtmnifoeodohphaaDoorW.PrintWords Go.Proofs.YtmnifoeodohphaaDoorW.PrintLast Go.Proofs.YtmnifoeodohphaaDoorW.PrintMore
attribute [local go_sem] max2_int min2_int max_two min_two max_three min_three max_four min_four   -- for this text's walks alone
set_option linter.unusedVariables false
set_option linter.unusedSimpArgs false

-- NOT PRINTED: function 63 (strconv_small)

-- NOT PRINTED: function 67 (strconv_log10Pow2)

-- NOT PRINTED: function 68 (bits_Len64)

-- NOT PRINTED: function 69 (strconv_bool2_int)

-- NOT PRINTED: function 64 (strconv_numDigits)

-- NOT PRINTED: function 65 (strconv_formatBase10)

-- NOT PRINTED: function 70 (strconv_isPowerOfTwo)

-- NOT PRINTED: function 72 (bits_TrailingZeros32)

-- NOT PRINTED: function 73 (bits_TrailingZeros64)

-- NOT PRINTED: function 71 (bits_TrailingZeros)

-- NOT PRINTED: function 66 (strconv_formatBits)

-- NOT PRINTED: function 62 (strconv_FormatInt_62)

/-! ### lin_Form_part: function 34 -/
def lin_Form_part.f (l0_0 : List Int) (a0_1 : Int) (a1 : Int) : Option (Int) := if a1 < (l0_0.length : Int) then (if 0 ≤ a1 then (some (rd l0_0 a1)) else (none)) else (some a0_1)
set_option maxHeartbeats 8000000 in
set_option maxRecDepth 100000 in
theorem lin_Form_part.calls (A0_0 : Option Addr) (c0_0 : Nat) (l0_0 : List Int) (a0_1 : Int) (a1 : Int) (r : Int) (w : World) (hr0_0 : Kd.C (Kd.int .i64) w A0_0 l0_0.length l0_0) (hc0_0 : l0_0.length ≤ c0_0) (h : lin_Form_part.f l0_0 a0_1 a1 = some r) :
  Calls Tryd.prog 34 #[.agg #[.slice A0_0 l0_0.length c0_0, .int .i64 a0_1], .int .i64 a1] w fun e w' => e = .returned (.int .i64 r) ∧ Below w.heap.size w w' := by
 have hu24 := Tryd.underlying24
 have HR0_0 := mk0 hr0_0
 have HC0_0 := mk0 hc0_0
 clear hr0_0 hc0_0
 have HB := mk0 (Below.refl w.heap.size w)
 have H : (if a1 < (l0_0.length : Int) then (if 0 ≤ a1 then (some (rd l0_0 a1)) else (none)) else (some a0_1)) = some r := h
 clear h
 by_cases c3 : a1 < (l0_0.length : Int)
 ·rw [if_pos c3] at H
  have c3b0 : decide (a1 < (l0_0.length : Int)) = true := decide_eq_true c3; clear c3
  by_cases c4 : 0 ≤ a1
  ·rw [if_pos c4] at H
   have c4b0 : decide (0 ≤ a1) = true := decide_eq_true c4; clear c4; obtain rfl := Option.some.inj H; go_enter Tryd.func34, Tryd.ntmps34
   go_wp2_with (first | ((with_reducible refine gate_dst (N := 2) rfl ?_); refine bxE 2 #[.slice A0_0 l0_0.length c0_0, .int .i64 a0_1] 24 ?_; intro gb102 hg w5 hbox hb; have BK102 := mk0 (hbox); have GW102 := gE (uL HB.out) hg; have GE102 := gE (uL HB.out) hg; replace HB := hbB (uL HB.out) hb; clear hb hbox hg; obtain ⟨hcz6_0, hcz6_1, hfz6_0, hfz6_1⟩ := cL2 BK102; have p103 : 0 ≤ (a1 : Int) := of_decide_eq_true (by first | (with_reducible assumption) | assumption); have q103 : a1 < (l0_0.length : Int) := of_decide_eq_true (by first | (with_reducible assumption) | assumption); obtain ⟨ad103, e103, hx103_0⟩ := Kd.at_int HR0_0.out a1 p103 q103; cases e103; replace hx103_0 := (HB.out.cell (World.block_lt_of_cell? w _ hx103_0)).trans hx103_0; replace p103 := eq_true p103; replace q103 := eq_true q103))
   go_ret; exact ⟨rE, bH⟩
  ·rw [if_neg c4] at H
   exact absurd H (by simp)
 ·rw [if_neg c3] at H
  have c3b0 : decide (a1 < (l0_0.length : Int)) = false := decide_eq_false c3; clear c3; obtain rfl := Option.some.inj H; go_enter Tryd.func34, Tryd.ntmps34
  go_wp2_with (first | ((with_reducible refine gate_dst (N := 2) rfl ?_); refine bxE 2 #[.slice A0_0 l0_0.length c0_0, .int .i64 a0_1] 24 ?_; intro gb102 hg w7 hbox hb; have BK102 := mk0 (hbox); have GW102 := gE (uL HB.out) hg; have GE102 := gE (uL HB.out) hg; replace HB := hbB (uL HB.out) hb; clear hb hbox hg; obtain ⟨hcz8_0, hcz8_1, hfz8_0, hfz8_1⟩ := cL2 BK102))
  go_ret; exact ⟨rE, bH⟩

-- NOT PRINTED: function 31 (lin_each)

-- NOT PRINTED: function 52 (reflectlite_TypeOf)

-- NOT PRINTED: function 53 (errors_is)

-- NOT PRINTED: function 41 (errors_Is)

-- NOT PRINTED: function 54 (reflectlite_ValueOf)

-- NOT PRINTED: function 55 (reflectlite_Value_Type)

-- NOT PRINTED: function 56 (reflectlite_Value_IsNil)

-- NOT PRINTED: function 60 (reflectlite_Value_Elem)

-- NOT PRINTED: function 61 (reflectlite_Value_Set)

-- NOT PRINTED: function 57 (errors_as)

-- NOT PRINTED: function 42 (errors_As)

/-! ### lin_Same: function 18 -/
mutual
def lin_Same.l0 : Nat → Int → Int → List Int → Int → List Int → Int → Option (Bool)
 | 0, _, _, _, _, _, _ => none
 | k + 1, x14, x15, x105000, x105001, x106000, x106001 => if x15 < x14 then (if x15 < (x105000.length : Int) then (if 0 ≤ x15 then (lin_Same.j1 k x15 (rd x105000 x15) 0 x14 x15 x105000 x105001 x106000 x106001) else (none)) else (lin_Same.j1 k x15 0 0 x14 x15 x105000 x105001 x106000 x106001)) else (some (x105001 == x106001))
def lin_Same.j1 : Nat → Int → Int → Int → Int → Int → List Int → Int → List Int → Int → Option (Bool)
 | 0, _, _, _, _, _, _, _, _, _ => none
 | k + 1, x5, x6, x7, x14, x15, x105000, x105001, x106000, x106001 => if x5 < (x106000.length : Int) then (if 0 ≤ x5 then (if x6 = (rd x106000 x5) then (lin_Same.l0 k x14 (wrap64 (x15 + 1)) x105000 x105001 x106000 x106001) else (some false)) else (none)) else (if x6 = x7 then (lin_Same.l0 k x14 (wrap64 (x15 + 1)) x105000 x105001 x106000 x106001) else (some false))
end
def lin_Same.f (k : Nat) (l0_0 : List Int) (a0_1 : Int) (l1_0 : List Int) (a1_1 : Int) : Option (Bool) := lin_Same.l0 k (mx (l0_0.length : Int) (l1_0.length : Int)) 0 l0_0 a0_1 l1_0 a1_1
theorem lin_Same.mono_l : ∀ k, (∀ y0 y1 y2 y3 y4 y5, LeO (lin_Same.l0 k y0 y1 y2 y3 y4 y5) (lin_Same.l0 (k + 1) y0 y1 y2 y3 y4 y5)) ∧ (∀ y0 y1 y2 y3 y4 y5 y6 y7 y8, LeO (lin_Same.j1 k y0 y1 y2 y3 y4 y5 y6 y7 y8) (lin_Same.j1 (k + 1) y0 y1 y2 y3 y4 y5 y6 y7 y8))
 | 0 => ⟨fun _ _ _ _ _ _ r h => by simp [lin_Same.l0] at h, fun _ _ _ _ _ _ _ _ _ r h => by simp [lin_Same.j1] at h⟩
 | k + 1 => by
  obtain ⟨ih0, ih1⟩ := lin_Same.mono_l k; refine ⟨?_, ?_⟩
  ·intro y0 y1 y2 y3 y4 y5
   unfold lin_Same.l0
   repeat' first
   | (with_reducible exact ih0 _ _ _ _ _ _)
   | (with_reducible exact ih1 _ _ _ _ _ _ _ _ _)
   | (with_reducible exact LeO.refl _)
   | (with_reducible exact LeO.none _)
   | (with_reducible refine LeO.ite ?_ ?_)
   | (with_reducible refine LeO.bind ?_ (fun _ => ?_))
   | exact ih0 _ _ _ _ _ _
   | exact ih1 _ _ _ _ _ _ _ _ _
   | exact LeO.none _
   | refine LeO.ite ?_ ?_
   | refine LeO.bind ?_ (fun _ => ?_)
  ·intro y0 y1 y2 y3 y4 y5 y6 y7 y8
   unfold lin_Same.j1
   repeat' first
   | (with_reducible exact ih0 _ _ _ _ _ _)
   | (with_reducible exact ih1 _ _ _ _ _ _ _ _ _)
   | (with_reducible exact LeO.refl _)
   | (with_reducible exact LeO.none _)
   | (with_reducible refine LeO.ite ?_ ?_)
   | (with_reducible refine LeO.bind ?_ (fun _ => ?_))
   | exact ih0 _ _ _ _ _ _
   | exact ih1 _ _ _ _ _ _ _ _ _
   | exact LeO.none _
   | refine LeO.ite ?_ ?_
   | refine LeO.bind ?_ (fun _ => ?_)
theorem lin_Same.mono : ∀ a0 a1 a2 a3 k, LeO (lin_Same.f k a0 a1 a2 a3) (lin_Same.f (k + 1) a0 a1 a2 a3) := by
 intro a0 a1 a2 a3 k
 obtain ⟨ih0, ih1⟩ := lin_Same.mono_l k
 unfold lin_Same.f
 repeat' first
   | (with_reducible exact ih0 _ _ _ _ _ _)
   | (with_reducible exact ih1 _ _ _ _ _ _ _ _ _)
   | (with_reducible exact LeO.refl _)
   | (with_reducible exact LeO.none _)
   | (with_reducible refine LeO.ite ?_ ?_)
   | (with_reducible refine LeO.bind ?_ (fun _ => ?_))
   | exact ih0 _ _ _ _ _ _
   | exact ih1 _ _ _ _ _ _ _ _ _
   | exact LeO.none _
   | refine LeO.ite ?_ ?_
   | refine LeO.bind ?_ (fun _ => ?_)
set_option maxHeartbeats 8000000 in
set_option maxRecDepth 100000 in
theorem lin_Same.calls (k : Nat) (A0_0 : Option Addr) (c0_0 : Nat) (l0_0 : List Int) (a0_1 : Int) (A1_0 : Option Addr) (c1_0 : Nat) (l1_0 : List Int) (a1_1 : Int) (r : Bool) (w : World) (hr0_0 : Kd.C (Kd.int .i64) w A0_0 l0_0.length l0_0) (hc0_0 : l0_0.length ≤ c0_0) (hr1_0 : Kd.C (Kd.int .i64) w A1_0 l1_0.length l1_0) (hc1_0 : l1_0.length ≤ c1_0) (h : lin_Same.f k l0_0 a0_1 l1_0 a1_1 = some r) :
  Calls Tryd.prog 18 #[.agg #[.slice A0_0 l0_0.length c0_0, .int .i64 a0_1], .agg #[.slice A1_0 l1_0.length c1_0, .int .i64 a1_1]] w fun e w' => e = .returned (.bool r) ∧ Below w.heap.size w w' := by
 have hu24 := Tryd.underlying24
 have HR0_0 := mk0 hr0_0
 have HC0_0 := mk0 hc0_0
 clear hr0_0 hc0_0
 have HR1_0 := mk0 hr1_0
 have HC1_0 := mk0 hc1_0
 clear hr1_0 hc1_0
 have HB := mk0 (Below.refl w.heap.size w)
 have H : (lin_Same.l0 k (mx (l0_0.length : Int) (l1_0.length : Int)) 0 l0_0 a0_1 l1_0 a1_1) = some r := h
 clear h
 obtain ⟨ji3, hji3⟩ : ∃ j_ : Int, (mx (l0_0.length : Int) (l1_0.length : Int)) = j_ := ⟨_, rfl⟩
 replace H : (lin_Same.l0 k ji3 0 l0_0 a0_1 l1_0 a1_1) = some r := by first | (rw [hji3] at H; exact H) | (simp only [hji3] at H ⊢; exact H)
 (try (have hji3l : 0 ≤ ji3 := by (rw [← hji3]; unfold mx; (repeat' split) <;> omega)))
 (try (have hji3m : 0 ≤ ji3 := by omega))
 have hji3_ : (if (l0_0.length : Int) < (l1_0.length : Int) then (l1_0.length : Int) else (l0_0.length : Int)) = ji3 := hji3
 have hji3n : (if l0_0.length < l1_0.length then (l1_0.length : Int) else (l0_0.length : Int)) = ji3 := by (have h_ := hji3_; simp only [Int.ofNat_lt] at h_; exact h_)
 have H' := mk0 H
 clear H
 go_enter Tryd.func18, Tryd.ntmps18
 go_wp2_with (first | ((with_reducible refine gate_dst (N := 2) rfl ?_); refine bxE 2 #[.slice A0_0 l0_0.length c0_0, .int .i64 a0_1] 24 ?_; intro gb104 hg w4 hbox hb; have BK104 := mk0 (hbox); have GW104 := gE (uL HB.out) hg; have GE104 := gE (uL HB.out) hg; replace HB := hbB (uL HB.out) hb; clear hb hbox hg) | ((with_reducible refine gate_dst (N := 3) rfl ?_); refine bxE 3 #[.slice A1_0 l1_0.length c1_0, .int .i64 a1_1] 24 ?_; intro gb105 hg w5 hbox hb; have BK105 := mk0 (hbox); have GW105 := gE bH hg; have GE105 := gE bH hg; replace HB := hbB bH hb; have NB104_105 := nL BK104 hg; have NB105_104 := nG BK104 hg; replace BK104 := bB BK104 hb; clear hb hbox hg; have hnb6 := NB104_105.out; have hnc6 := NB105_104.out; obtain ⟨hcz7_0, hcz7_1, hfz7_0, hfz7_1⟩ := cL2 BK104; obtain ⟨hcz8_0, hcz8_1, hfz8_0, hfz8_1⟩ := cL2 BK105))
 go_loopg [15] k (fun kq v15 w' => ∃ (x15_1 : Int), v15 = .int .i64 x15_1 ∧ Aside0 (lin_Same.l0 kq ji3 x15_1 l0_0 a0_1 l1_0 a1_1 = some r) ∧ Aside0 (kq ≤ k) ∧ Aside0 (w'.heap[gb104]? = some (.cells #[(.slice A0_0 l0_0.length c0_0), .int .i64 a0_1] 24 (0, 0))) ∧ Aside0 (w'.heap[gb105]? = some (.cells #[(.slice A1_0 l1_0.length c1_0), .int .i64 a1_1] 24 (0, 0))) ∧ Aside0 (Below w.heap.size w w'))
 case atStart => exact ⟨(0), (by first | rfl | (simp; done) | (simp [*]; done) | (simp [bne_nil_, beq_nil_]; done)), H', ⟨Nat.le_refl _⟩, ⟨uB BK104.out⟩, ⟨uB BK105.out⟩, ⟨bH⟩⟩
 case round =>
  clear H'; (try clear c1); (try clear p2); (try clear c6); (try clear hcz7_0); (try clear hcz7_1); (try clear hcz8_0); (try clear hcz8_1); (try clear hfz7_0); (try clear hfz7_1); (try clear hfz8_0); (try clear hfz8_1); obtain ⟨x15_1, rfl, HA, HK1, BK104, BK105, HB⟩ := hrel
  cases gk with
  | zero => exact absurd HA.out (by simp [lin_Same.l0])
  | succ k1 =>
   have H := HA.out; clear HA; simp only [lin_Same.l0] at H
   by_cases c9 : x15_1 < ji3
   ·rw [if_pos c9] at H
    have c9b0 : decide (x15_1 < ji3) = true := decide_eq_true c9; clear c9; have HC10 := mk0 H; clear H; have hnb11 := NB104_105.out; have hnc11 := NB105_104.out; obtain ⟨hcz12_0, hcz12_1, hfz12_0, hfz12_1⟩ := cL2 BK104
    go_upto_if 22 with (fail)
    go_cut [6] (fun v6 wc => ∃ (kq : Nat) (x6_9 : Int), v6 = .int .i64 x6_9 ∧ Aside0 (lin_Same.j1 kq x15_1 x6_9 0 ji3 x15_1 l0_0 a0_1 l1_0 a1_1 = some r) ∧ Aside0 (kq ≤ k1) ∧ Aside0 (wc.heap[gb104]? = some (.cells #[(.slice A0_0 l0_0.length c0_0), .int .i64 a0_1] 24 (0, 0))) ∧ Aside0 (wc.heap[gb105]? = some (.cells #[(.slice A1_0 l1_0.length c1_0), .int .i64 a1_1] 24 (0, 0))) ∧ Aside0 (Below w.heap.size w wc))
    case first =>
     have H := HC10.out; clear HC10
     by_cases c13 : x15_1 < (l0_0.length : Int)
     ·rw [if_pos c13] at H
      have c13b0 : decide (x15_1 < (l0_0.length : Int)) = true := decide_eq_true c13; clear c13; (first | rw [c13b0] | (simp only [i64_w, i32_w]; rw [c13b0]) | skip)
      by_cases c14 : 0 ≤ x15_1
      ·rw [if_pos c14] at H
       have c14b0 : decide (0 ≤ x15_1) = true := decide_eq_true c14; clear c14; have H' := mk0 H; clear H; have hnb15 := NB104_105.out; have hnc15 := NB105_104.out; obtain ⟨hcz16_0, hcz16_1, hfz16_0, hfz16_1⟩ := cL2 BK104; have p106 : 0 ≤ (x15_1 : Int) := of_decide_eq_true (by first | (with_reducible assumption) | assumption); have q106 : x15_1 < (l0_0.length : Int) := of_decide_eq_true (by first | (with_reducible assumption) | assumption); obtain ⟨ad106, e106, hx106_0⟩ := Kd.at_int HR0_0.out x15_1 p106 q106
       cases e106
       replace hx106_0 := (HB.out.cell (World.block_lt_of_cell? w _ hx106_0)).trans hx106_0; replace p106 := eq_true p106; replace q106 := eq_true q106; go_wp2
       go_meet
       case rel => exact ⟨_, (rd l0_0 x15_1), (by first | rfl | (simp; done) | (simp [*]; done) | (simp [bne_nil_, beq_nil_]; done)), H', ⟨by have := HK1.out; first | omega | exact Nat.le_refl _⟩, ⟨uB BK104.out⟩, ⟨uB BK105.out⟩, ⟨bH⟩⟩
      ·rw [if_neg c14] at H
       exact absurd H (by simp)
     ·rw [if_neg c13] at H
      have c13b0 : decide (x15_1 < (l0_0.length : Int)) = false := decide_eq_false c13; clear c13; (first | rw [c13b0] | (simp only [i64_w, i32_w]; rw [c13b0]) | skip); have H' := mk0 H; clear H; go_wp2
      go_meet
      case rel => exact ⟨_, (0), (by first | rfl | (simp; done) | (simp [*]; done) | (simp [bne_nil_, beq_nil_]; done)), H', ⟨by have := HK1.out; first | omega | exact Nat.le_refl _⟩, ⟨uB BK104.out⟩, ⟨uB BK105.out⟩, ⟨bH⟩⟩
    case rest =>
     clear HC10; (try clear c1); (try clear p1); (try clear q1); (try clear hx1); (try clear p2); (try clear c6); (try clear c9); (try clear c9b0); (try clear p10); (try clear q10); (try clear hx10); (try clear c11); (try clear c13); (try clear c13b0); (try clear c14); (try clear c14b0); (try clear c15); (try clear hcz12_0); (try clear hcz12_1); (try clear hcz16_0); (try clear hcz16_1); (try clear hcz7_0); (try clear hcz7_1); (try clear hcz8_0); (try clear hcz8_1); (try clear hfz12_0); (try clear hfz12_1); (try clear hfz16_0); (try clear hfz16_1); (try clear hfz7_0); (try clear hfz7_1); (try clear hfz8_0); (try clear hfz8_1); (try clear hx106_0); (try clear p106); (try clear p2); (try clear q106); obtain ⟨kq, x6_9, rfl, HA, HJ9, BK104, BK105, HB⟩ := hcut
     cases kq with
     | zero => exact absurd HA.out (by simp [lin_Same.j1])
     | succ kj9 =>
      have H := HA.out; clear HA; simp only [lin_Same.j1] at H
      by_cases c17 : x15_1 < (l1_0.length : Int)
      ·rw [if_pos c17] at H
       have c17b0 : decide (x15_1 < (l1_0.length : Int)) = true := decide_eq_true c17; clear c17
       by_cases c18 : 0 ≤ x15_1
       ·rw [if_pos c18] at H
        have c18b0 : decide (0 ≤ x15_1) = true := decide_eq_true c18; clear c18
        by_cases c19 : x6_9 = (rd l1_0 x15_1)
        ·rw [if_pos c19] at H
         have c19b0 : (x6_9 == (rd l1_0 x15_1)) = true := beq_iff_eq.mpr c19; have c19b1 : (x6_9 != (rd l1_0 x15_1)) = false := bne_eq_false_iff_eq.mpr c19; clear c19; have H' := mk0 H; clear H; have hnb20 := NB105_104.out; have hnc20 := NB104_105.out; obtain ⟨hcz21_0, hcz21_1, hfz21_0, hfz21_1⟩ := cL2 BK105; have p107 : 0 ≤ (x15_1 : Int) := of_decide_eq_true (by first | (with_reducible assumption) | assumption); have q107 : x15_1 < (l1_0.length : Int) := of_decide_eq_true (by first | (with_reducible assumption) | assumption); obtain ⟨ad107, e107, hx107_0⟩ := Kd.at_int HR1_0.out x15_1 p107 q107
         cases e107
         replace hx107_0 := (HB.out.cell (World.block_lt_of_cell? w _ hx107_0)).trans hx107_0; replace p107 := eq_true p107; replace q107 := eq_true q107; go_wp2
         go_roundg kj9
         case measure => have := HK1.out; have := HJ9.out; omega
         case rel => exact ⟨(wrap64 (x15_1 + 1)), (by first | rfl | (simp; done) | (simp [*]; done) | (simp [bne_nil_, beq_nil_]; done)), H', ⟨by have := HK1.out; have := HJ9.out; omega⟩, ⟨uB BK104.out⟩, ⟨uB BK105.out⟩, ⟨bH⟩⟩
        ·rw [if_neg c19] at H
         have c19b0 : (x6_9 == (rd l1_0 x15_1)) = false := beq_eq_false_iff_ne.mpr c19; have c19b1 : (x6_9 != (rd l1_0 x15_1)) = true := bne_iff_ne.mpr c19; obtain rfl := Option.some.inj H; have hnb22 := NB105_104.out; have hnc22 := NB104_105.out; obtain ⟨hcz23_0, hcz23_1, hfz23_0, hfz23_1⟩ := cL2 BK105; have p107 : 0 ≤ (x15_1 : Int) := of_decide_eq_true (by first | (with_reducible assumption) | assumption); have q107 : x15_1 < (l1_0.length : Int) := of_decide_eq_true (by first | (with_reducible assumption) | assumption); obtain ⟨ad107, e107, hx107_0⟩ := Kd.at_int HR1_0.out x15_1 p107 q107
         cases e107
         replace hx107_0 := (HB.out.cell (World.block_lt_of_cell? w _ hx107_0)).trans hx107_0; replace p107 := eq_true p107; replace q107 := eq_true q107; go_wp2; go_ret; exact ⟨by first | rfl | (simp [errW_none, errW_some] <;> rfl) | (simp only [← hji3]; first | rfl | (simp [errW_none, errW_some] <;> rfl)) | (simp [*, errW_none, errW_some] <;> rfl), bH⟩
       ·rw [if_neg c18] at H
        exact absurd H (by simp)
      ·rw [if_neg c17] at H
       have c17b0 : decide (x15_1 < (l1_0.length : Int)) = false := decide_eq_false c17; clear c17
       by_cases c24 : x6_9 = 0
       ·rw [if_pos c24] at H
        have c24b0 : (x6_9 == 0) = true := beq_iff_eq.mpr c24; have c24b1 : (x6_9 != 0) = false := bne_eq_false_iff_eq.mpr c24; clear c24; have H' := mk0 H; clear H; have hnb25 := NB105_104.out; have hnc25 := NB104_105.out; obtain ⟨hcz26_0, hcz26_1, hfz26_0, hfz26_1⟩ := cL2 BK105; go_wp2
        go_roundg kj9
        case measure => have := HK1.out; have := HJ9.out; omega
        case rel => exact ⟨(wrap64 (x15_1 + 1)), (by first | rfl | (simp; done) | (simp [*]; done) | (simp [bne_nil_, beq_nil_]; done)), H', ⟨by have := HK1.out; have := HJ9.out; omega⟩, ⟨uB BK104.out⟩, ⟨uB BK105.out⟩, ⟨bH⟩⟩
       ·rw [if_neg c24] at H
        have c24b0 : (x6_9 == 0) = false := beq_eq_false_iff_ne.mpr c24; have c24b1 : (x6_9 != 0) = true := bne_iff_ne.mpr c24; obtain rfl := Option.some.inj H; have hnb27 := NB105_104.out; have hnc27 := NB104_105.out; obtain ⟨hcz28_0, hcz28_1, hfz28_0, hfz28_1⟩ := cL2 BK105; go_wp2; go_ret; exact ⟨by first | rfl | (simp [errW_none, errW_some] <;> rfl) | (simp only [← hji3]; first | rfl | (simp [errW_none, errW_some] <;> rfl)) | (simp [*, errW_none, errW_some] <;> rfl), bH⟩
   ·rw [if_neg c9] at H
    have c9b0 : decide (x15_1 < ji3) = false := decide_eq_false c9; clear c9; obtain rfl := Option.some.inj H; have hnb29 := NB104_105.out; have hnc29 := NB105_104.out; obtain ⟨hcz30_0, hcz30_1, hfz30_0, hfz30_1⟩ := cL2 BK104; obtain ⟨hcz31_0, hcz31_1, hfz31_0, hfz31_1⟩ := cL2 BK105; go_wp2; go_ret; exact ⟨by first | rfl | (simp [errW_none, errW_some] <;> rfl) | (simp only [← hji3]; first | rfl | (simp [errW_none, errW_some] <;> rfl)) | (simp [*, errW_none, errW_some] <;> rfl), bH⟩

/-! ### num_Add: function 33 -/
def num_Add.f (a0 : Int) (a1 : Int) : Option (Int × Bool) := if ((decide (a0 < 0)) == (decide (a1 < 0))) = true then (if ((decide ((wrap64 (a0 + a1)) < 0)) != (decide (a0 < 0))) = true then (some (0, false)) else (some (wrap64 (a0 + a1), true))) else (some (wrap64 (a0 + a1), true))
set_option maxHeartbeats 8000000 in
set_option maxRecDepth 100000 in
theorem num_Add.calls (a0 : Int) (a1 : Int) (r1 : Int) (r2 : Bool) (w : World) (h : num_Add.f a0 a1 = some (r1, r2)) :
  Calls Tryd.prog 33 #[.int .i64 a0, .int .i64 a1] w fun e w' => e = .returned (.tuple #[.int .i64 r1, .bool r2]) ∧ Drawn0 w w' := by
 have H : (if ((decide (a0 < 0)) == (decide (a1 < 0))) = true then (if ((decide ((wrap64 (a0 + a1)) < 0)) != (decide (a0 < 0))) = true then (some (0, false)) else (some (wrap64 (a0 + a1), true))) else (some (wrap64 (a0 + a1), true))) = some (r1, r2) := h
 clear h
 by_cases c3 : ((decide (a0 < 0)) == (decide (a1 < 0))) = true
 ·rw [if_pos c3] at H
  have c3b0 : ((decide (a0 < 0)) == (decide (a1 < 0))) = true := c3; (try (have c3b1 : decide ((decide (a0 < 0)) = (decide (a1 < 0))) = true := by (revert c3; generalize ((decide (a0 < 0))) = p_; generalize ((decide (a1 < 0))) = q_; revert p_ q_; decide))); (try (have c3b2 : ((decide (a0 < 0)) == (decide (a1 < 0))) = true := by (revert c3; generalize ((decide (a0 < 0))) = p_; generalize ((decide (a1 < 0))) = q_; revert p_ q_; decide))); clear c3
  by_cases c4 : ((decide ((wrap64 (a0 + a1)) < 0)) != (decide (a0 < 0))) = true
  ·rw [if_pos c4] at H
   have c4b0 : ((decide ((wrap64 (a0 + a1)) < 0)) != (decide (a0 < 0))) = true := c4; (try (have c4b1 : decide ((decide ((wrap64 (a0 + a1)) < 0)) = (decide (a0 < 0))) = false := by (revert c4; generalize ((decide ((wrap64 (a0 + a1)) < 0))) = p_; generalize ((decide (a0 < 0))) = q_; revert p_ q_; decide))); (try (have c4b2 : ((decide ((wrap64 (a0 + a1)) < 0)) == (decide (a0 < 0))) = false := by (revert c4; generalize ((decide ((wrap64 (a0 + a1)) < 0))) = p_; generalize ((decide (a0 < 0))) = q_; revert p_ q_; decide))); (try (have c4b3 : ¬ ((decide ((wrap64 (a0 + a1)) < 0)) = (decide (a0 < 0))) := by (revert c4; generalize ((decide ((wrap64 (a0 + a1)) < 0))) = p_; generalize ((decide (a0 < 0))) = q_; revert p_ q_; decide))); clear c4; simp only [Option.some.injEq, Prod.mk.injEq] at H; obtain ⟨rfl, rfl⟩ := H; go_enter Tryd.func33, Tryd.ntmps33; go_wp2
   all_goals (try (exfalso; rename_i h_; rw [c3b2] at h_; revert h_; decide))
   all_goals (try (exfalso; rename_i h_; rw [c4b2] at h_; revert h_; decide))
   go_ret2
   exact ⟨by first | rfl | (simp; done) | (simp [*]; done) | (simp [bne_nil_, beq_nil_]; done), by repeat (first | exact Drawn0.refl _ | apply Drawn0.step)⟩
  ·rw [if_neg c4] at H
   (have c4b0 : ((decide ((wrap64 (a0 + a1)) < 0)) != (decide (a0 < 0))) = false := by simpa using c4); (try (have c4b1 : decide ((decide ((wrap64 (a0 + a1)) < 0)) = (decide (a0 < 0))) = true := by (revert c4; generalize ((decide ((wrap64 (a0 + a1)) < 0))) = p_; generalize ((decide (a0 < 0))) = q_; revert p_ q_; decide))); (try (have c4b2 : ((decide ((wrap64 (a0 + a1)) < 0)) == (decide (a0 < 0))) = true := by (revert c4; generalize ((decide ((wrap64 (a0 + a1)) < 0))) = p_; generalize ((decide (a0 < 0))) = q_; revert p_ q_; decide))); clear c4; simp only [Option.some.injEq, Prod.mk.injEq] at H; obtain ⟨rfl, rfl⟩ := H; go_enter Tryd.func33, Tryd.ntmps33; go_wp2
   all_goals (try (exfalso; rename_i h_; rw [c3b2] at h_; revert h_; decide))
   all_goals (try (exfalso; rename_i h_; rw [c4b2] at h_; revert h_; decide))
   go_ret2
   exact ⟨by first | rfl | (simp; done) | (simp [*]; done) | (simp [bne_nil_, beq_nil_]; done), by repeat (first | exact Drawn0.refl _ | apply Drawn0.step)⟩
 ·rw [if_neg c3] at H
  (have c3b0 : ((decide (a0 < 0)) == (decide (a1 < 0))) = false := by simpa using c3); (try (have c3b1 : decide ((decide (a0 < 0)) = (decide (a1 < 0))) = false := by (revert c3; generalize ((decide (a0 < 0))) = p_; generalize ((decide (a1 < 0))) = q_; revert p_ q_; decide))); (try (have c3b2 : ((decide (a0 < 0)) == (decide (a1 < 0))) = false := by (revert c3; generalize ((decide (a0 < 0))) = p_; generalize ((decide (a1 < 0))) = q_; revert p_ q_; decide))); (try (have c3b3 : ¬ ((decide (a0 < 0)) = (decide (a1 < 0))) := by (revert c3; generalize ((decide (a0 < 0))) = p_; generalize ((decide (a1 < 0))) = q_; revert p_ q_; decide))); clear c3; simp only [Option.some.injEq, Prod.mk.injEq] at H; obtain ⟨rfl, rfl⟩ := H; go_enter Tryd.func33, Tryd.ntmps33; go_wp2
  all_goals (try (exfalso; rename_i h_; rw [c3b2] at h_; revert h_; decide))
  go_ret2
  exact ⟨by first | rfl | (simp; done) | (simp [*]; done) | (simp [bne_nil_, beq_nil_]; done), by repeat (first | exact Drawn0.refl _ | apply Drawn0.step)⟩

/-! ### bits_Mul64: function 50 -/
def bits_Mul64.f (a0 : Int) (a1 : Int) : Option (Int × Int) := some (IntKind.u64.wrap ((IntKind.u64.wrap ((IntKind.u64.wrap ((a0 / 4294967296) * (a1 / 4294967296))) + ((IntKind.u64.wrap ((IntKind.u64.wrap ((a0 / 4294967296) * (Go.bits .and .u64 a1 4294967295))) + ((IntKind.u64.wrap ((Go.bits .and .u64 a0 4294967295) * (Go.bits .and .u64 a1 4294967295))) / 4294967296))) / 4294967296))) + ((IntKind.u64.wrap ((Go.bits .and .u64 (IntKind.u64.wrap ((IntKind.u64.wrap ((a0 / 4294967296) * (Go.bits .and .u64 a1 4294967295))) + ((IntKind.u64.wrap ((Go.bits .and .u64 a0 4294967295) * (Go.bits .and .u64 a1 4294967295))) / 4294967296))) 4294967295) + (IntKind.u64.wrap ((Go.bits .and .u64 a0 4294967295) * (a1 / 4294967296))))) / 4294967296)), IntKind.u64.wrap (a0 * a1))
set_option maxHeartbeats 8000000 in
set_option maxRecDepth 100000 in
theorem bits_Mul64.calls (a0 : Int) (a1 : Int) (r1 : Int) (r2 : Int) (w : World) (h : bits_Mul64.f a0 a1 = some (r1, r2)) :
  Calls Tryd.prog 50 #[.int .u64 a0, .int .u64 a1] w fun e w' => e = .returned (.tuple #[.int .u64 r1, .int .u64 r2]) ∧ Drawn0 w w' := by
 have H : (some (IntKind.u64.wrap ((IntKind.u64.wrap ((IntKind.u64.wrap ((a0 / 4294967296) * (a1 / 4294967296))) + ((IntKind.u64.wrap ((IntKind.u64.wrap ((a0 / 4294967296) * (Go.bits .and .u64 a1 4294967295))) + ((IntKind.u64.wrap ((Go.bits .and .u64 a0 4294967295) * (Go.bits .and .u64 a1 4294967295))) / 4294967296))) / 4294967296))) + ((IntKind.u64.wrap ((Go.bits .and .u64 (IntKind.u64.wrap ((IntKind.u64.wrap ((a0 / 4294967296) * (Go.bits .and .u64 a1 4294967295))) + ((IntKind.u64.wrap ((Go.bits .and .u64 a0 4294967295) * (Go.bits .and .u64 a1 4294967295))) / 4294967296))) 4294967295) + (IntKind.u64.wrap ((Go.bits .and .u64 a0 4294967295) * (a1 / 4294967296))))) / 4294967296)), IntKind.u64.wrap (a0 * a1))) = some (r1, r2) := h
 clear h
 simp only [Option.some.injEq, Prod.mk.injEq] at H
 obtain ⟨rfl, rfl⟩ := H
 go_enter Tryd.func50, Tryd.ntmps50
 go_wp2
 go_ret2
 exact ⟨by first | rfl | (simp; done) | (simp [*]; done) | (simp [bne_nil_, beq_nil_]; done), by repeat (first | exact Drawn0.refl _ | apply Drawn0.step)⟩

/-! ### num_size: function 51 -/
def num_size.f (a0 : Int) : Option (Int) := if a0 < 0 then (some (IntKind.u64.wrap (-(IntKind.u64.wrap (a0))))) else (some (IntKind.u64.wrap (a0)))
set_option maxHeartbeats 8000000 in
set_option maxRecDepth 100000 in
theorem num_size.calls (a0 : Int) (r : Int) (w : World) (h : num_size.f a0 = some r) :
  Calls Tryd.prog 51 #[.int .i64 a0] w fun e w' => e = .returned (.int .u64 r) ∧ Drawn0 w w' := by
 have H : (if a0 < 0 then (some (IntKind.u64.wrap (-(IntKind.u64.wrap (a0))))) else (some (IntKind.u64.wrap (a0)))) = some r := h
 clear h
 by_cases c2 : a0 < 0
 ·rw [if_pos c2] at H
  have c2b0 : decide (a0 < 0) = true := decide_eq_true c2; clear c2; obtain rfl := Option.some.inj H; go_enter Tryd.func51, Tryd.ntmps51; go_wp2; go_ret; exact ⟨by first | rfl | (simp; done) | (simp [*]; done) | (simp [bne_nil_, beq_nil_]; done), by repeat (first | exact Drawn0.refl _ | apply Drawn0.step)⟩
 ·rw [if_neg c2] at H
  have c2b0 : decide (a0 < 0) = false := decide_eq_false c2; clear c2; obtain rfl := Option.some.inj H; go_enter Tryd.func51, Tryd.ntmps51; go_wp2; go_ret; exact ⟨by first | rfl | (simp; done) | (simp [*]; done) | (simp [bne_nil_, beq_nil_]; done), by repeat (first | exact Drawn0.refl _ | apply Drawn0.step)⟩

end Go.Proofs.YtmnifoeodohphaaDoor.X
