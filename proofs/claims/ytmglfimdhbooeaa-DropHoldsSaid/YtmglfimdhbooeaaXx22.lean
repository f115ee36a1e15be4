-- PRINTED by print.py (a twelfth state) out of the translation. Not trusted: Lean checks it.
import Derived.Test.YtmglfimdhbooeaaXx0
import Derived.Test.YtmglfimdhbooeaaXx21
namespace Go.Proofs.Ytmglfimdhbooeaa.X
open Go.Proofs.Ytmglfimdhbooeaa.Flt Go.Proofs.Ytmglfimdhbooeaa.H Go.RowKit Go.Proofs.YtmglfimdhbooeaaW.PrintWords Go.Proofs.YtmglfimdhbooeaaW.PrintLast Go.Proofs.YtmglfimdhbooeaaW.PrintMore
attribute [local go_sem] max2_int min2_int max_two min_two max_three min_three max_four min_four   -- for this text's walks alone
set_option linter.unusedVariables false
set_option linter.unusedSimpArgs false

/-! ### furrowref20_Holds: function 16 -/
mutual
def furrowref20_Holds.l0 : Nat → List Int → Int → Int → List (S50) → List (S50) → Option (Bool)
 | 0, _, _, _, _, _ => none
 | k + 1, x1, x5, x720000, x720001, x720002 => if x5 < (x720001.length : Int) then (if 0 ≤ x5 then ((furrowref20_value.f k ((rd_T50 x720001 x5).f0) ((rd_T50 x720001 x5).f1) x1).bind fun t721 => (if t721 = 0 then (furrowref20_Holds.l0 k x1 (wrap64 (x5 + 1)) x720000 x720001 x720002) else (some false))) else (none)) else (furrowref20_Holds.l1 k x1 0 x720000 x720001 x720002)
def furrowref20_Holds.l1 : Nat → List Int → Int → Int → List (S50) → List (S50) → Option (Bool)
 | 0, _, _, _, _, _ => none
 | k + 1, x1, x6, x720000, x720001, x720002 => if x6 < (x720002.length : Int) then (if 0 ≤ x6 then ((furrowref20_value.f k ((rd_T50 x720002 x6).f0) ((rd_T50 x720002 x6).f1) x1).bind fun t723 => (if t723 < 0 then (some false) else (furrowref20_Holds.l1 k x1 (wrap64 (x6 + 1)) x720000 x720001 x720002))) else (none)) else (some true)
end
def furrowref20_Holds.f (k : Nat) (a0_0 : Int) (l0_1 : List (S50)) (l0_2 : List (S50)) (l1 : List Int) : Option (Bool) := furrowref20_Holds.l0 k l1 0 a0_0 l0_1 l0_2
theorem furrowref20_Holds.mono_l : ∀ k, (∀ y0 y1 y2 y3 y4, LeO (furrowref20_Holds.l0 k y0 y1 y2 y3 y4) (furrowref20_Holds.l0 (k + 1) y0 y1 y2 y3 y4)) ∧ (∀ y0 y1 y2 y3 y4, LeO (furrowref20_Holds.l1 k y0 y1 y2 y3 y4) (furrowref20_Holds.l1 (k + 1) y0 y1 y2 y3 y4))
 | 0 => ⟨fun _ _ _ _ _ r h => by simp [furrowref20_Holds.l0] at h, fun _ _ _ _ _ r h => by simp [furrowref20_Holds.l1] at h⟩
 | k + 1 => by
  obtain ⟨ih0, ih1⟩ := furrowref20_Holds.mono_l k; refine ⟨?_, ?_⟩
  ·intro y0 y1 y2 y3 y4
   unfold furrowref20_Holds.l0
   repeat' first
   | (with_reducible exact ih0 _ _ _ _ _)
   | (with_reducible exact ih1 _ _ _ _ _)
   | (with_reducible exact furrowref20_value.mono _ _ _ _)
   | (with_reducible exact LeO.refl _)
   | (with_reducible exact LeO.none _)
   | (with_reducible refine LeO.ite ?_ ?_)
   | (with_reducible refine LeO.bind ?_ (fun _ => ?_))
   | exact ih0 _ _ _ _ _
   | exact ih1 _ _ _ _ _
   | exact furrowref20_value.mono _ _ _ _
   | exact LeO.none _
   | refine LeO.ite ?_ ?_
   | refine LeO.bind ?_ (fun _ => ?_)
  ·intro y0 y1 y2 y3 y4
   unfold furrowref20_Holds.l1
   repeat' first
   | (with_reducible exact ih0 _ _ _ _ _)
   | (with_reducible exact ih1 _ _ _ _ _)
   | (with_reducible exact furrowref20_value.mono _ _ _ _)
   | (with_reducible exact LeO.refl _)
   | (with_reducible exact LeO.none _)
   | (with_reducible refine LeO.ite ?_ ?_)
   | (with_reducible refine LeO.bind ?_ (fun _ => ?_))
   | exact ih0 _ _ _ _ _
   | exact ih1 _ _ _ _ _
   | exact furrowref20_value.mono _ _ _ _
   | exact LeO.none _
   | refine LeO.ite ?_ ?_
   | refine LeO.bind ?_ (fun _ => ?_)
theorem furrowref20_Holds.mono : ∀ a0 a1 a2 a3 k, LeO (furrowref20_Holds.f k a0 a1 a2 a3) (furrowref20_Holds.f (k + 1) a0 a1 a2 a3) := by
 intro a0 a1 a2 a3 k
 obtain ⟨ih0, ih1⟩ := furrowref20_Holds.mono_l k
 unfold furrowref20_Holds.f
 repeat' first
   | (with_reducible exact ih0 _ _ _ _ _)
   | (with_reducible exact ih1 _ _ _ _ _)
   | (with_reducible exact furrowref20_value.mono _ _ _ _)
   | (with_reducible exact LeO.refl _)
   | (with_reducible exact LeO.none _)
   | (with_reducible refine LeO.ite ?_ ?_)
   | (with_reducible refine LeO.bind ?_ (fun _ => ?_))
   | exact ih0 _ _ _ _ _
   | exact ih1 _ _ _ _ _
   | exact furrowref20_value.mono _ _ _ _
   | exact LeO.none _
   | refine LeO.ite ?_ ?_
   | refine LeO.bind ?_ (fun _ => ?_)
set_option maxHeartbeats 8000000 in
set_option maxRecDepth 100000 in
theorem furrowref20_Holds.calls (k : Nat) (a0_0 : Int) (A0_1 : Option Addr) (c0_1 : Nat) (l0_1 : List (S50)) (A0_2 : Option Addr) (c0_2 : Nat) (l0_2 : List (S50)) (A1 : Option Addr) (c1 : Nat) (l1 : List Int) (r : Bool) (w : World) (hr0_1 : Kd.C k50 w A0_1 l0_1.length l0_1) (hc0_1 : l0_1.length ≤ c0_1) (hr0_2 : Kd.C k50 w A0_2 l0_2.length l0_2) (hc0_2 : l0_2.length ≤ c0_2) (hr1 : Kd.C (Kd.int .i64) w A1 l1.length l1) (hc1 : l1.length ≤ c1) (h : furrowref20_Holds.f k a0_0 l0_1 l0_2 l1 = some r) :
  Calls Try.prog 16 #[.agg #[.int .i64 a0_0, .slice A0_1 l0_1.length c0_1, .slice A0_2 l0_2.length c0_2], .slice A1 l1.length c1] w fun e w' => e = .returned (.bool r) ∧ Below w.heap.size w w' := by
 have hu29 := Try.underlying29
 have hu50 := Try.underlying50
 have HR0_1 := mk0 hr0_1
 have HC0_1 := mk0 hc0_1
 clear hr0_1 hc0_1
 have HR0_2 := mk0 hr0_2
 have HC0_2 := mk0 hc0_2
 clear hr0_2 hc0_2
 have HR1 := mk0 hr1
 have HC1 := mk0 hc1
 clear hr1 hc1
 have HB := mk0 (Below.refl w.heap.size w)
 have H : (furrowref20_Holds.l0 k l1 0 a0_0 l0_1 l0_2) = some r := h
 clear h
 have H' := mk0 H
 clear H
 go_enter Try.func16, Try.ntmps16
 go_wp2_with (first | ((with_reducible refine gate_dst (N := 2) rfl ?_); refine bxE 2 #[.int .i64 a0_0, .slice A0_1 l0_1.length c0_1, .slice A0_2 l0_2.length c0_2] 29 ?_; intro gb719 hg w3 hbox hb; have BK719 := mk0 (hbox); have GW719 := gE (uL HB.out) hg; have GE719 := gE (uL HB.out) hg; replace HB := hbB (uL HB.out) hb; clear hb hbox hg))
 go_loopg [5] k (fun kq v5 w' => ∃ (x5_1 : Int), v5 = .int .i64 x5_1 ∧ Aside0 (furrowref20_Holds.l0 kq l1 x5_1 a0_0 l0_1 l0_2 = some r) ∧ Aside0 (kq ≤ k) ∧ Aside0 (w'.heap[gb719]? = some (.cells #[.int .i64 a0_0, (.slice A0_1 l0_1.length c0_1), (.slice A0_2 l0_2.length c0_2)] 29 (0, 0))) ∧ Aside0 (Below w.heap.size w w'))
 case atStart => exact ⟨(0), (by first | rfl | (simp; done) | (simp [*]; done) | (simp [bne_nil_, beq_nil_]; done)), H', ⟨Nat.le_refl _⟩, ⟨uB BK719.out⟩, ⟨bH⟩⟩
 case round =>
  clear H'; (try clear c1); obtain ⟨x5_1, rfl, HA, HK1, BK719, HB⟩ := hrel
  cases gk with
  | zero => exact absurd HA.out (by simp [furrowref20_Holds.l0])
  | succ k1 =>
   have H := HA.out; clear HA; simp only [furrowref20_Holds.l0] at H
   by_cases c4 : x5_1 < (l0_1.length : Int)
   ·rw [if_pos c4] at H
    have c4b0 : decide (x5_1 < (l0_1.length : Int)) = true := decide_eq_true c4; clear c4
    by_cases c5 : 0 ≤ x5_1
    ·rw [if_pos c5] at H
     have c5b0 : decide (0 ≤ x5_1) = true := decide_eq_true c5; clear c5; replace H := Option.bind_eq_some_iff.mp H; obtain ⟨t721, A60, H⟩ := H; have A6 := mk0 A60; clear A60
     by_cases c7 : t721 = 0
     ·rw [if_pos c7] at H
      have c7b0 : (t721 == 0) = true := beq_iff_eq.mpr c7; have c7b1 : (t721 != 0) = false := bne_eq_false_iff_eq.mpr c7; clear c7; have H' := mk0 H; clear H; obtain ⟨hcz8_0, hcz8_1, hcz8_2, hfz8_0, hfz8_1, hfz8_2⟩ := cL3 BK719; have p720 : 0 ≤ (x5_1 : Int) := dY; have q720 : x5_1 < (l0_1.length : Int) := dY; obtain ⟨ad720, A720_0, c720_0, e720, hx720_0, hx720_1, hl720_0, hi720_0⟩ := at_T50 HR0_1.out x5_1 p720 q720
      cases e720
      replace hx720_0 := (HB.out.cell (World.block_lt_of_cell? w _ hx720_0)).trans hx720_0; replace hx720_1 := (HB.out.cell (World.block_lt_of_cell? w _ hx720_1)).trans hx720_1; have HR720_0 := mk0 hi720_0; have HC720_0 := mk0 hl720_0; clear hi720_0 hl720_0; replace p720 := eq_true p720; replace q720 := eq_true q720
      go_wp2_with (first | ((with_reducible refine gate_dst (N := 20) rfl ?_); refine gsM (some 20) Try.func29 #[.agg #[.slice A720_0 ((rd_T50 l0_1 x5_1).f0).length c720_0, .int .i64 ((rd_T50 l0_1 x5_1).f1)], .slice A1 l1.length c1] ?_; (with_reducible refine (furrowref20_value.calls k1 _ _ ((rd_T50 l0_1 x5_1).f0) ((rd_T50 l0_1 x5_1).f1) _ _ l1 t721 _ ?side1 ?side2 ?side3 ?side4 A6.out).mono ?_); (case side1 => exact uC (Kd.C_below HR720_0.out HB.out)); (case side2 => exact HC720_0.out); (case side3 => exact uC (Kd.C_below HR1.out HB.out)); (case side4 => exact HC1.out); rintro e w9 ⟨rfl, hb⟩; refine ⟨_, rfl, ?_⟩; replace BK719 := bB BK719 hb; replace HB := hbB bH hb; (try clear hb); ))
      go_roundg k1
      case measure => have := HK1.out; omega
      case rel => exact ⟨(wrap64 (x5_1 + 1)), (by first | rfl | (simp; done) | (simp [*]; done) | (simp [bne_nil_, beq_nil_]; done)), H', ⟨by have := HK1.out; omega⟩, ⟨uB BK719.out⟩, ⟨bH⟩⟩
     ·rw [if_neg c7] at H
      have c7b0 : (t721 == 0) = false := beq_eq_false_iff_ne.mpr c7; have c7b1 : (t721 != 0) = true := bne_iff_ne.mpr c7; obtain rfl := Option.some.inj H; obtain ⟨hcz10_0, hcz10_1, hcz10_2, hfz10_0, hfz10_1, hfz10_2⟩ := cL3 BK719; have p720 : 0 ≤ (x5_1 : Int) := dY; have q720 : x5_1 < (l0_1.length : Int) := dY; obtain ⟨ad720, A720_0, c720_0, e720, hx720_0, hx720_1, hl720_0, hi720_0⟩ := at_T50 HR0_1.out x5_1 p720 q720
      cases e720
      replace hx720_0 := (HB.out.cell (World.block_lt_of_cell? w _ hx720_0)).trans hx720_0; replace hx720_1 := (HB.out.cell (World.block_lt_of_cell? w _ hx720_1)).trans hx720_1; have HR720_0 := mk0 hi720_0; have HC720_0 := mk0 hl720_0; clear hi720_0 hl720_0; replace p720 := eq_true p720; replace q720 := eq_true q720
      go_wp2_with (first | ((with_reducible refine gate_dst (N := 20) rfl ?_); refine gsM (some 20) Try.func29 #[.agg #[.slice A720_0 ((rd_T50 l0_1 x5_1).f0).length c720_0, .int .i64 ((rd_T50 l0_1 x5_1).f1)], .slice A1 l1.length c1] ?_; (with_reducible refine (furrowref20_value.calls k1 _ _ ((rd_T50 l0_1 x5_1).f0) ((rd_T50 l0_1 x5_1).f1) _ _ l1 t721 _ ?side1 ?side2 ?side3 ?side4 A6.out).mono ?_); (case side1 => exact uC (Kd.C_below HR720_0.out HB.out)); (case side2 => exact HC720_0.out); (case side3 => exact uC (Kd.C_below HR1.out HB.out)); (case side4 => exact HC1.out); rintro e w11 ⟨rfl, hb⟩; refine ⟨_, rfl, ?_⟩; replace BK719 := bB BK719 hb; replace HB := hbB bH hb; (try clear hb); ))
      go_ret; exact ⟨rE, bH⟩
    ·rw [if_neg c5] at H
     exact absurd H (by simp)
   ·rw [if_neg c4] at H
    have c4b0 : decide (x5_1 < (l0_1.length : Int)) = false := decide_eq_false c4; clear c4; have H' := mk0 H; clear H; obtain ⟨hcz12_0, hcz12_1, hcz12_2, hfz12_0, hfz12_1, hfz12_2⟩ := cL3 BK719; go_wp2
    go_loopg [6] k1 (fun kq v6 w' => ∃ (x6_2 : Int), v6 = .int .i64 x6_2 ∧ Aside0 (furrowref20_Holds.l1 kq l1 x6_2 a0_0 l0_1 l0_2 = some r) ∧ Aside0 (kq ≤ k1) ∧ Aside0 (w'.heap[gb719]? = some (.cells #[.int .i64 a0_0, (.slice A0_1 l0_1.length c0_1), (.slice A0_2 l0_2.length c0_2)] 29 (0, 0))) ∧ Aside0 (Below w.heap.size w w'))
    case atStart => exact ⟨(0), (by first | rfl | (simp; done) | (simp [*]; done) | (simp [bne_nil_, beq_nil_]; done)), H', ⟨Nat.le_refl _⟩, ⟨uB BK719.out⟩, ⟨bH⟩⟩
    case round =>
     clear H'; (try clear c1); (try clear c4); (try clear c4b0); (try clear hcz12_0); (try clear hcz12_1); (try clear hcz12_2); (try clear hfz12_0); (try clear hfz12_1); (try clear hfz12_2); obtain ⟨x6_2, rfl, HA, HK2, BK719, HB⟩ := hrel
     cases gk with
     | zero => exact absurd HA.out (by simp [furrowref20_Holds.l1])
     | succ k2 =>
      have H := HA.out; clear HA; simp only [furrowref20_Holds.l1] at H
      by_cases c13 : x6_2 < (l0_2.length : Int)
      ·rw [if_pos c13] at H
       have c13b0 : decide (x6_2 < (l0_2.length : Int)) = true := decide_eq_true c13; clear c13
       by_cases c14 : 0 ≤ x6_2
       ·rw [if_pos c14] at H
        have c14b0 : decide (0 ≤ x6_2) = true := decide_eq_true c14; clear c14; replace H := Option.bind_eq_some_iff.mp H; obtain ⟨t723, A150, H⟩ := H; have A15 := mk0 A150; clear A150
        by_cases c16 : t723 < 0
        ·rw [if_pos c16] at H
         have c16b0 : decide (t723 < 0) = true := decide_eq_true c16; clear c16; obtain rfl := Option.some.inj H; obtain ⟨hcz17_0, hcz17_1, hcz17_2, hfz17_0, hfz17_1, hfz17_2⟩ := cL3 BK719; have p722 : 0 ≤ (x6_2 : Int) := dY; have q722 : x6_2 < (l0_2.length : Int) := dY; obtain ⟨ad722, A722_0, c722_0, e722, hx722_0, hx722_1, hl722_0, hi722_0⟩ := at_T50 HR0_2.out x6_2 p722 q722
         cases e722
         replace hx722_0 := (HB.out.cell (World.block_lt_of_cell? w _ hx722_0)).trans hx722_0; replace hx722_1 := (HB.out.cell (World.block_lt_of_cell? w _ hx722_1)).trans hx722_1; have HR722_0 := mk0 hi722_0; have HC722_0 := mk0 hl722_0; clear hi722_0 hl722_0; replace p722 := eq_true p722; replace q722 := eq_true q722
         go_wp2_with (first | ((with_reducible refine gate_dst (N := 35) rfl ?_); refine gsM (some 35) Try.func29 #[.agg #[.slice A722_0 ((rd_T50 l0_2 x6_2).f0).length c722_0, .int .i64 ((rd_T50 l0_2 x6_2).f1)], .slice A1 l1.length c1] ?_; (with_reducible refine (furrowref20_value.calls k2 _ _ ((rd_T50 l0_2 x6_2).f0) ((rd_T50 l0_2 x6_2).f1) _ _ l1 t723 _ ?side1 ?side2 ?side3 ?side4 A15.out).mono ?_); (case side1 => exact uC (Kd.C_below HR722_0.out HB.out)); (case side2 => exact HC722_0.out); (case side3 => exact uC (Kd.C_below HR1.out HB.out)); (case side4 => exact HC1.out); rintro e w18 ⟨rfl, hb⟩; refine ⟨_, rfl, ?_⟩; replace BK719 := bB BK719 hb; replace HB := hbB bH hb; (try clear hb); ))
         go_ret; exact ⟨rE, bH⟩
        ·rw [if_neg c16] at H
         have c16b0 : decide (t723 < 0) = false := decide_eq_false c16; clear c16; have H' := mk0 H; clear H; obtain ⟨hcz19_0, hcz19_1, hcz19_2, hfz19_0, hfz19_1, hfz19_2⟩ := cL3 BK719; have p722 : 0 ≤ (x6_2 : Int) := dY; have q722 : x6_2 < (l0_2.length : Int) := dY; obtain ⟨ad722, A722_0, c722_0, e722, hx722_0, hx722_1, hl722_0, hi722_0⟩ := at_T50 HR0_2.out x6_2 p722 q722
         cases e722
         replace hx722_0 := (HB.out.cell (World.block_lt_of_cell? w _ hx722_0)).trans hx722_0; replace hx722_1 := (HB.out.cell (World.block_lt_of_cell? w _ hx722_1)).trans hx722_1; have HR722_0 := mk0 hi722_0; have HC722_0 := mk0 hl722_0; clear hi722_0 hl722_0; replace p722 := eq_true p722; replace q722 := eq_true q722
         go_wp2_with (first | ((with_reducible refine gate_dst (N := 35) rfl ?_); refine gsM (some 35) Try.func29 #[.agg #[.slice A722_0 ((rd_T50 l0_2 x6_2).f0).length c722_0, .int .i64 ((rd_T50 l0_2 x6_2).f1)], .slice A1 l1.length c1] ?_; (with_reducible refine (furrowref20_value.calls k2 _ _ ((rd_T50 l0_2 x6_2).f0) ((rd_T50 l0_2 x6_2).f1) _ _ l1 t723 _ ?side1 ?side2 ?side3 ?side4 A15.out).mono ?_); (case side1 => exact uC (Kd.C_below HR722_0.out HB.out)); (case side2 => exact HC722_0.out); (case side3 => exact uC (Kd.C_below HR1.out HB.out)); (case side4 => exact HC1.out); rintro e w20 ⟨rfl, hb⟩; refine ⟨_, rfl, ?_⟩; replace BK719 := bB BK719 hb; replace HB := hbB bH hb; (try clear hb); ))
         go_roundg k2
         case measure => have := HK1.out; have := HK2.out; omega
         case rel => exact ⟨(wrap64 (x6_2 + 1)), (by first | rfl | (simp; done) | (simp [*]; done) | (simp [bne_nil_, beq_nil_]; done)), H', ⟨by have := HK1.out; have := HK2.out; omega⟩, ⟨uB BK719.out⟩, ⟨bH⟩⟩
       ·rw [if_neg c14] at H
        exact absurd H (by simp)
      ·rw [if_neg c13] at H
       have c13b0 : decide (x6_2 < (l0_2.length : Int)) = false := decide_eq_false c13; clear c13; obtain rfl := Option.some.inj H; obtain ⟨hcz21_0, hcz21_1, hcz21_2, hfz21_0, hfz21_1, hfz21_2⟩ := cL3 BK719; go_wp2; go_ret; exact ⟨rE, bH⟩

end Go.Proofs.Ytmglfimdhbooeaa.X
