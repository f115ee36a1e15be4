-- PRINTED by print.py (a twelfth state) out of the translation. Not trusted: Lean checks it.
import Derived.Test.YtmglfimdhbooeaaXx0
namespace Go.Proofs.Ytmglfimdhbooeaa.X
open Go.Proofs.Ytmglfimdhbooeaa.Flt Go.Proofs.Ytmglfimdhbooeaa.H Go.RowKit Go.Proofs.YtmglfimdhbooeaaW.PrintWords Go.Proofs.YtmglfimdhbooeaaW.PrintLast Go.Proofs.YtmglfimdhbooeaaW.PrintMore
attribute [local go_sem] max2_int min2_int max_two min_two max_three min_three max_four min_four   -- for this text's walks alone
set_option linter.unusedVariables false
set_option linter.unusedSimpArgs false

/-! ### furrowlaw15_Few: function 30 -/
mutual
def furrowlaw15_Few.j0 : Nat → Bool → Int → List (S45) → List (S45) → Option (Bool)
 | 0, _, _, _, _ => none
 | k + 1, x14, x359000, x359001, x359002 => if x14 = true then (some false) else (furrowlaw15_Few.l0 k 0 x359000 x359001 x359002)
def furrowlaw15_Few.l0 : Nat → Int → Int → List (S45) → List (S45) → Option (Bool)
 | 0, _, _, _, _ => none
 | k + 1, x3, x359000, x359001, x359002 => if x3 < (x359001.length : Int) then (if 0 ≤ x3 then (if (((rd_T45 x359001 x3).f0).length : Int) > 20 then (some false) else (furrowlaw15_Few.l0 k (wrap64 (x3 + 1)) x359000 x359001 x359002)) else (none)) else (furrowlaw15_Few.l1 k 0 x359000 x359001 x359002)
def furrowlaw15_Few.l1 : Nat → Int → Int → List (S45) → List (S45) → Option (Bool)
 | 0, _, _, _, _ => none
 | k + 1, x4, x359000, x359001, x359002 => if x4 < (x359002.length : Int) then (if 0 ≤ x4 then (if (((rd_T45 x359002 x4).f0).length : Int) > 20 then (some false) else (furrowlaw15_Few.l1 k (wrap64 (x4 + 1)) x359000 x359001 x359002)) else (none)) else (some true)
end
def furrowlaw15_Few.f (k : Nat) (a0_0 : Int) (l0_1 : List (S45)) (l0_2 : List (S45)) : Option (Bool) := if (l0_1.length : Int) > 70 then (furrowlaw15_Few.j0 k true a0_0 l0_1 l0_2) else (furrowlaw15_Few.j0 k (decide ((l0_2.length : Int) > 70)) a0_0 l0_1 l0_2)
theorem furrowlaw15_Few.mono_l : ∀ k, (∀ y0 y1 y2 y3, LeO (furrowlaw15_Few.j0 k y0 y1 y2 y3) (furrowlaw15_Few.j0 (k + 1) y0 y1 y2 y3)) ∧ (∀ y0 y1 y2 y3, LeO (furrowlaw15_Few.l0 k y0 y1 y2 y3) (furrowlaw15_Few.l0 (k + 1) y0 y1 y2 y3)) ∧ (∀ y0 y1 y2 y3, LeO (furrowlaw15_Few.l1 k y0 y1 y2 y3) (furrowlaw15_Few.l1 (k + 1) y0 y1 y2 y3))
 | 0 => ⟨fun _ _ _ _ r h => by simp [furrowlaw15_Few.j0] at h, fun _ _ _ _ r h => by simp [furrowlaw15_Few.l0] at h, fun _ _ _ _ r h => by simp [furrowlaw15_Few.l1] at h⟩
 | k + 1 => by
  obtain ⟨ih0, ih1, ih2⟩ := furrowlaw15_Few.mono_l k; refine ⟨?_, ?_, ?_⟩
  ·intro y0 y1 y2 y3
   unfold furrowlaw15_Few.j0
   repeat' first
   | (with_reducible exact ih0 _ _ _ _)
   | (with_reducible exact ih1 _ _ _ _)
   | (with_reducible exact ih2 _ _ _ _)
   | (with_reducible exact LeO.refl _)
   | (with_reducible exact LeO.none _)
   | (with_reducible refine LeO.ite ?_ ?_)
   | (with_reducible refine LeO.bind ?_ (fun _ => ?_))
   | exact ih0 _ _ _ _
   | exact ih1 _ _ _ _
   | exact ih2 _ _ _ _
   | exact LeO.none _
   | refine LeO.ite ?_ ?_
   | refine LeO.bind ?_ (fun _ => ?_)
  ·intro y0 y1 y2 y3
   unfold furrowlaw15_Few.l0
   repeat' first
   | (with_reducible exact ih0 _ _ _ _)
   | (with_reducible exact ih1 _ _ _ _)
   | (with_reducible exact ih2 _ _ _ _)
   | (with_reducible exact LeO.refl _)
   | (with_reducible exact LeO.none _)
   | (with_reducible refine LeO.ite ?_ ?_)
   | (with_reducible refine LeO.bind ?_ (fun _ => ?_))
   | exact ih0 _ _ _ _
   | exact ih1 _ _ _ _
   | exact ih2 _ _ _ _
   | exact LeO.none _
   | refine LeO.ite ?_ ?_
   | refine LeO.bind ?_ (fun _ => ?_)
  ·intro y0 y1 y2 y3
   unfold furrowlaw15_Few.l1
   repeat' first
   | (with_reducible exact ih0 _ _ _ _)
   | (with_reducible exact ih1 _ _ _ _)
   | (with_reducible exact ih2 _ _ _ _)
   | (with_reducible exact LeO.refl _)
   | (with_reducible exact LeO.none _)
   | (with_reducible refine LeO.ite ?_ ?_)
   | (with_reducible refine LeO.bind ?_ (fun _ => ?_))
   | exact ih0 _ _ _ _
   | exact ih1 _ _ _ _
   | exact ih2 _ _ _ _
   | exact LeO.none _
   | refine LeO.ite ?_ ?_
   | refine LeO.bind ?_ (fun _ => ?_)
theorem furrowlaw15_Few.mono : ∀ a0 a1 a2 k, LeO (furrowlaw15_Few.f k a0 a1 a2) (furrowlaw15_Few.f (k + 1) a0 a1 a2) := by
 intro a0 a1 a2 k
 obtain ⟨ih0, ih1, ih2⟩ := furrowlaw15_Few.mono_l k
 unfold furrowlaw15_Few.f
 repeat' first
   | (with_reducible exact ih0 _ _ _ _)
   | (with_reducible exact ih1 _ _ _ _)
   | (with_reducible exact ih2 _ _ _ _)
   | (with_reducible exact LeO.refl _)
   | (with_reducible exact LeO.none _)
   | (with_reducible refine LeO.ite ?_ ?_)
   | (with_reducible refine LeO.bind ?_ (fun _ => ?_))
   | exact ih0 _ _ _ _
   | exact ih1 _ _ _ _
   | exact ih2 _ _ _ _
   | exact LeO.none _
   | refine LeO.ite ?_ ?_
   | refine LeO.bind ?_ (fun _ => ?_)
set_option maxHeartbeats 8000000 in
set_option maxRecDepth 100000 in
theorem furrowlaw15_Few.calls (k : Nat) (a0_0 : Int) (A0_1 : Option Addr) (c0_1 : Nat) (l0_1 : List (S45)) (A0_2 : Option Addr) (c0_2 : Nat) (l0_2 : List (S45)) (r : Bool) (w : World) (hr0_1 : Kd.C k45 w A0_1 l0_1.length l0_1) (hc0_1 : l0_1.length ≤ c0_1) (hr0_2 : Kd.C k45 w A0_2 l0_2.length l0_2) (hc0_2 : l0_2.length ≤ c0_2) (h : furrowlaw15_Few.f k a0_0 l0_1 l0_2 = some r) :
  Calls Try.prog 30 #[.agg #[.int .i64 a0_0, .slice A0_1 l0_1.length c0_1, .slice A0_2 l0_2.length c0_2]] w fun e w' => e = .returned (.bool r) ∧ Below w.heap.size w w' := by
 have hu24 := Try.underlying24
 have HR0_1 := mk0 hr0_1
 have HC0_1 := mk0 hc0_1
 clear hr0_1 hc0_1
 have HR0_2 := mk0 hr0_2
 have HC0_2 := mk0 hc0_2
 clear hr0_2 hc0_2
 have HB := mk0 (Below.refl w.heap.size w)
 have H : (if (l0_1.length : Int) > 70 then (furrowlaw15_Few.j0 k true a0_0 l0_1 l0_2) else (furrowlaw15_Few.j0 k (decide ((l0_2.length : Int) > 70)) a0_0 l0_1 l0_2)) = some r := h
 clear h
 have HC2 := mk0 H
 clear H
 go_enter Try.func30, Try.ntmps30
 go_upto_region 1 with (first | ((with_reducible refine gate_dst (N := 1) rfl ?_); (try (refine gate_guard (by rfl) ?_; dsimp only)); refine bxE 1 #[.int .i64 a0_0, .slice A0_1 l0_1.length c0_1, .slice A0_2 l0_2.length c0_2] 24 ?_; intro gb358 hg w3 hbox hb; have BK358 := mk0 (hbox); have GW358 := gE (uL HB.out) hg; have GE358 := gE (uL HB.out) hg; replace HB := hbB (uL HB.out) hb; clear hb hbox hg))
 (try simp only [Act.put, List.setIfInBounds_toArray, List.set_cons_zero, List.set_cons_succ])
 go_cut [14] (fun v14 wc => ∃ (kq : Nat) (x14_1 : Bool), v14 = .bool x14_1 ∧ Aside0 (furrowlaw15_Few.j0 kq x14_1 a0_0 l0_1 l0_2 = some r) ∧ Aside0 (kq ≤ k) ∧ Aside0 (wc.heap[gb358]? = some (.cells #[.int .i64 a0_0, (.slice A0_1 l0_1.length c0_1), (.slice A0_2 l0_2.length c0_2)] 24 (0, 0))) ∧ Aside0 (Below w.heap.size w wc))
 case first =>
  have H := HC2.out; clear HC2
  by_cases c4 : (l0_1.length : Int) > 70
  ·rw [if_pos c4] at H
   have c4b0 : decide (70 < (l0_1.length : Int)) = true := decide_eq_true c4; have c4b1 : decide (70 < l0_1.length) = true := decide_eq_true (by omega); clear c4; (first | rw [c4b0] | (simp only [i64_w, i32_w]; rw [c4b0]) | skip); have H' := mk0 H; clear H; obtain ⟨hcz5_0, hcz5_1, hcz5_2, hfz5_0, hfz5_1, hfz5_2⟩ := cL3 BK358; go_wp2
   go_meet
   case rel => exact ⟨_, (true), (by first | rfl | (simp; done) | (simp [*]; done) | (simp [bne_nil_, beq_nil_]; done)), H', ⟨by first | omega | exact Nat.le_refl _⟩, ⟨uB BK358.out⟩, ⟨bH⟩⟩
  ·rw [if_neg c4] at H
   have c4b0 : decide (70 < (l0_1.length : Int)) = false := decide_eq_false c4; have c4b1 : decide (70 < l0_1.length) = false := decide_eq_false (by omega); clear c4; (first | rw [c4b0] | (simp only [i64_w, i32_w]; rw [c4b0]) | skip); have H' := mk0 H; clear H; obtain ⟨hcz6_0, hcz6_1, hcz6_2, hfz6_0, hfz6_1, hfz6_2⟩ := cL3 BK358; go_wp2
   go_meet
   case rel => exact ⟨_, (decide ((l0_2.length : Int) > 70)), (by first | rfl | (simp; done) | (simp [*]; done) | (simp [bne_nil_, beq_nil_]; done)), H', ⟨by first | omega | exact Nat.le_refl _⟩, ⟨uB BK358.out⟩, ⟨bH⟩⟩
 case rest =>
  clear HC2; obtain ⟨kq, x14_1, rfl, HA, HJ1, BK358, HB⟩ := hcut
  cases kq with
  | zero => exact absurd HA.out (by simp [furrowlaw15_Few.j0])
  | succ kj1 =>
   have H := HA.out; clear HA; simp only [furrowlaw15_Few.j0] at H
   by_cases c7 : x14_1 = true
   ·subst c7
    (have H1 : (some false) = some r := by rw [if_pos rfl] at H; exact H); clear H; have H := H1; clear H1; obtain rfl := Option.some.inj H; go_wp2; go_ret; exact ⟨rE, bH⟩
   ·replace c7 := Bool.eq_false_iff.mpr c7
    subst c7; (have H1 : (furrowlaw15_Few.l0 kj1 0 a0_0 l0_1 l0_2) = some r := by rw [if_neg (show ¬ (false = true) by decide)] at H; exact H); clear H; have H := H1; clear H1; have H' := mk0 H; clear H; go_wp2
    go_loopg [3] kj1 (fun kq v3 w' => ∃ (x3_2 : Int), v3 = .int .i64 x3_2 ∧ Aside0 (furrowlaw15_Few.l0 kq x3_2 a0_0 l0_1 l0_2 = some r) ∧ Aside0 (kq ≤ kj1) ∧ Aside0 (w'.heap[gb358]? = some (.cells #[.int .i64 a0_0, (.slice A0_1 l0_1.length c0_1), (.slice A0_2 l0_2.length c0_2)] 24 (0, 0))) ∧ Aside0 (Below w.heap.size w w'))
    case atStart => exact ⟨(0), (by first | rfl | (simp; done) | (simp [*]; done) | (simp [bne_nil_, beq_nil_]; done)), H', ⟨Nat.le_refl _⟩, ⟨uB BK358.out⟩, ⟨bH⟩⟩
    case round =>
     clear H'; (try clear c7); obtain ⟨x3_2, rfl, HA, HK2, BK358, HB⟩ := hrel
     cases gk with
     | zero => exact absurd HA.out (by simp [furrowlaw15_Few.l0])
     | succ k2 =>
      have H := HA.out; clear HA; simp only [furrowlaw15_Few.l0] at H
      by_cases c8 : x3_2 < (l0_1.length : Int)
      ·rw [if_pos c8] at H
       have c8b0 : decide (x3_2 < (l0_1.length : Int)) = true := decide_eq_true c8; clear c8
       by_cases c9 : 0 ≤ x3_2
       ·rw [if_pos c9] at H
        have c9b0 : decide (0 ≤ x3_2) = true := decide_eq_true c9; clear c9
        by_cases c10 : (((rd_T45 l0_1 x3_2).f0).length : Int) > 20
        ·rw [if_pos c10] at H
         have c10b0 : decide (20 < (((rd_T45 l0_1 x3_2).f0).length : Int)) = true := decide_eq_true c10; have c10b1 : decide (20 < ((rd_T45 l0_1 x3_2).f0).length) = true := decide_eq_true (by omega); clear c10; obtain rfl := Option.some.inj H; obtain ⟨hcz11_0, hcz11_1, hcz11_2, hfz11_0, hfz11_1, hfz11_2⟩ := cL3 BK358; have p359 : 0 ≤ (x3_2 : Int) := dY; have q359 : x3_2 < (l0_1.length : Int) := dY; obtain ⟨ad359, A359_0, c359_0, e359, hx359_0, hx359_1, hl359_0, hi359_0⟩ := at_T45 HR0_1.out x3_2 p359 q359
         cases e359
         replace hx359_0 := (HB.out.cell (World.block_lt_of_cell? w _ hx359_0)).trans hx359_0; replace hx359_1 := (HB.out.cell (World.block_lt_of_cell? w _ hx359_1)).trans hx359_1; have HR359_0 := mk0 hi359_0; have HC359_0 := mk0 hl359_0; clear hi359_0 hl359_0; replace p359 := eq_true p359; replace q359 := eq_true q359; go_wp2; go_ret; exact ⟨rE, bH⟩
        ·rw [if_neg c10] at H
         have c10b0 : decide (20 < (((rd_T45 l0_1 x3_2).f0).length : Int)) = false := decide_eq_false c10; have c10b1 : decide (20 < ((rd_T45 l0_1 x3_2).f0).length) = false := decide_eq_false (by omega); clear c10; have H' := mk0 H; clear H; obtain ⟨hcz12_0, hcz12_1, hcz12_2, hfz12_0, hfz12_1, hfz12_2⟩ := cL3 BK358; have p359 : 0 ≤ (x3_2 : Int) := dY; have q359 : x3_2 < (l0_1.length : Int) := dY; obtain ⟨ad359, A359_0, c359_0, e359, hx359_0, hx359_1, hl359_0, hi359_0⟩ := at_T45 HR0_1.out x3_2 p359 q359
         cases e359
         replace hx359_0 := (HB.out.cell (World.block_lt_of_cell? w _ hx359_0)).trans hx359_0; replace hx359_1 := (HB.out.cell (World.block_lt_of_cell? w _ hx359_1)).trans hx359_1; have HR359_0 := mk0 hi359_0; have HC359_0 := mk0 hl359_0; clear hi359_0 hl359_0; replace p359 := eq_true p359; replace q359 := eq_true q359; go_wp2
         go_roundg k2
         case measure => have := HJ1.out; have := HK2.out; omega
         case rel => exact ⟨(wrap64 (x3_2 + 1)), (by first | rfl | (simp; done) | (simp [*]; done) | (simp [bne_nil_, beq_nil_]; done)), H', ⟨by have := HJ1.out; have := HK2.out; omega⟩, ⟨uB BK358.out⟩, ⟨bH⟩⟩
       ·rw [if_neg c9] at H
        exact absurd H (by simp)
      ·rw [if_neg c8] at H
       have c8b0 : decide (x3_2 < (l0_1.length : Int)) = false := decide_eq_false c8; clear c8; have H' := mk0 H; clear H; obtain ⟨hcz13_0, hcz13_1, hcz13_2, hfz13_0, hfz13_1, hfz13_2⟩ := cL3 BK358; go_wp2
       go_loopg [4] k2 (fun kq v4 w' => ∃ (x4_3 : Int), v4 = .int .i64 x4_3 ∧ Aside0 (furrowlaw15_Few.l1 kq x4_3 a0_0 l0_1 l0_2 = some r) ∧ Aside0 (kq ≤ k2) ∧ Aside0 (w'.heap[gb358]? = some (.cells #[.int .i64 a0_0, (.slice A0_1 l0_1.length c0_1), (.slice A0_2 l0_2.length c0_2)] 24 (0, 0))) ∧ Aside0 (Below w.heap.size w w'))
       case atStart => exact ⟨(0), (by first | rfl | (simp; done) | (simp [*]; done) | (simp [bne_nil_, beq_nil_]; done)), H', ⟨Nat.le_refl _⟩, ⟨uB BK358.out⟩, ⟨bH⟩⟩
       case round =>
        clear H'; (try clear c7); (try clear c8); (try clear c8b0); (try clear hcz13_0); (try clear hcz13_1); (try clear hcz13_2); (try clear hfz13_0); (try clear hfz13_1); (try clear hfz13_2); obtain ⟨x4_3, rfl, HA, HK3, BK358, HB⟩ := hrel
        cases gk with
        | zero => exact absurd HA.out (by simp [furrowlaw15_Few.l1])
        | succ k3 =>
         have H := HA.out; clear HA; simp only [furrowlaw15_Few.l1] at H
         by_cases c14 : x4_3 < (l0_2.length : Int)
         ·rw [if_pos c14] at H
          have c14b0 : decide (x4_3 < (l0_2.length : Int)) = true := decide_eq_true c14; clear c14
          by_cases c15 : 0 ≤ x4_3
          ·rw [if_pos c15] at H
           have c15b0 : decide (0 ≤ x4_3) = true := decide_eq_true c15; clear c15
           by_cases c16 : (((rd_T45 l0_2 x4_3).f0).length : Int) > 20
           ·rw [if_pos c16] at H
            have c16b0 : decide (20 < (((rd_T45 l0_2 x4_3).f0).length : Int)) = true := decide_eq_true c16; have c16b1 : decide (20 < ((rd_T45 l0_2 x4_3).f0).length) = true := decide_eq_true (by omega); clear c16; obtain rfl := Option.some.inj H; obtain ⟨hcz17_0, hcz17_1, hcz17_2, hfz17_0, hfz17_1, hfz17_2⟩ := cL3 BK358; have p360 : 0 ≤ (x4_3 : Int) := dY; have q360 : x4_3 < (l0_2.length : Int) := dY; obtain ⟨ad360, A360_0, c360_0, e360, hx360_0, hx360_1, hl360_0, hi360_0⟩ := at_T45 HR0_2.out x4_3 p360 q360
            cases e360
            replace hx360_0 := (HB.out.cell (World.block_lt_of_cell? w _ hx360_0)).trans hx360_0; replace hx360_1 := (HB.out.cell (World.block_lt_of_cell? w _ hx360_1)).trans hx360_1; have HR360_0 := mk0 hi360_0; have HC360_0 := mk0 hl360_0; clear hi360_0 hl360_0; replace p360 := eq_true p360; replace q360 := eq_true q360; go_wp2; go_ret; exact ⟨rE, bH⟩
           ·rw [if_neg c16] at H
            have c16b0 : decide (20 < (((rd_T45 l0_2 x4_3).f0).length : Int)) = false := decide_eq_false c16; have c16b1 : decide (20 < ((rd_T45 l0_2 x4_3).f0).length) = false := decide_eq_false (by omega); clear c16; have H' := mk0 H; clear H; obtain ⟨hcz18_0, hcz18_1, hcz18_2, hfz18_0, hfz18_1, hfz18_2⟩ := cL3 BK358; have p360 : 0 ≤ (x4_3 : Int) := dY; have q360 : x4_3 < (l0_2.length : Int) := dY; obtain ⟨ad360, A360_0, c360_0, e360, hx360_0, hx360_1, hl360_0, hi360_0⟩ := at_T45 HR0_2.out x4_3 p360 q360
            cases e360
            replace hx360_0 := (HB.out.cell (World.block_lt_of_cell? w _ hx360_0)).trans hx360_0; replace hx360_1 := (HB.out.cell (World.block_lt_of_cell? w _ hx360_1)).trans hx360_1; have HR360_0 := mk0 hi360_0; have HC360_0 := mk0 hl360_0; clear hi360_0 hl360_0; replace p360 := eq_true p360; replace q360 := eq_true q360; go_wp2
            go_roundg k3
            case measure => have := HJ1.out; have := HK2.out; have := HK3.out; omega
            case rel => exact ⟨(wrap64 (x4_3 + 1)), (by first | rfl | (simp; done) | (simp [*]; done) | (simp [bne_nil_, beq_nil_]; done)), H', ⟨by have := HJ1.out; have := HK2.out; have := HK3.out; omega⟩, ⟨uB BK358.out⟩, ⟨bH⟩⟩
          ·rw [if_neg c15] at H
           exact absurd H (by simp)
         ·rw [if_neg c14] at H
          have c14b0 : decide (x4_3 < (l0_2.length : Int)) = false := decide_eq_false c14; clear c14; obtain rfl := Option.some.inj H; obtain ⟨hcz19_0, hcz19_1, hcz19_2, hfz19_0, hfz19_1, hfz19_2⟩ := cL3 BK358; go_wp2; go_ret; exact ⟨rE, bH⟩

/-! ### furrowref4_At: function 50 -/
def furrowref4_At.f (a0 : ByteArray) (a1 : Int) (a2 : Int) : Option ((List (S105)) × Int) := some ((([(⟨a0, a1⟩ : S105)] : List (S105))), a2)
set_option maxHeartbeats 8000000 in
set_option maxRecDepth 100000 in
theorem furrowref4_At.calls (a0 : ByteArray) (a1 : Int) (a2 : Int) (r1 : List (S105)) (r2 : Int) (w : World) (h : furrowref4_At.f a0 a1 a2 = some (r1, r2)) :
  Calls Try.prog 50 #[.string a0, .int .i64 a1, .int .i64 a2] w fun e w' => ∃ v0_ : Value, e = .returned (.agg #[v0_, .int .i64 r2]) ∧ Kd.R k105 105 w' w.heap.size (fun _ => True) v0_ r1 ∧ Below w.heap.size w w' := by
 have hu63 := Try.underlying63
 have hu105 := Try.underlying105
 have HB := mk0 (Below.refl w.heap.size w)
 have H : (some ((([(⟨a0, a1⟩ : S105)] : List (S105))), a2)) = some (r1, r2) := h
 clear h
 obtain ⟨y362, hy362⟩ : ∃ y_ : List (S105), y_ = (([(⟨a0, a1⟩ : S105)] : List (S105))) := ⟨_, rfl⟩
 replace H : (some (y362, a2)) = some (r1, r2) := by first | (rw [hy362]; with_reducible exact H) | (have H2_ := (Option.bind_some _ _).symm.trans H; rw [hy362]; with_reducible exact H2_) | (have H2_ := (Option.bind_some _ _).symm.trans H; with_reducible exact H2_) | with_reducible exact H | (rw [hy362]; exact H) | exact H
 have Ny362 := mk0 hy362
 clear hy362
 simp only [Option.some.injEq, Prod.mk.injEq] at H
 obtain ⟨rfl, rfl⟩ := H
 go_enter Try.func50, Try.ntmps50
 go_wp2_with (first | ((with_reducible refine gate_dst (N := 6) rfl ?_); refine bxE 6 #[.slice none 0 0, .int .i64 0] 63 ?_; intro gb361 hg w4 hbox hb; have BK361 := mk0 (hbox); have GW361 := gE (uL HB.out) hg; have GE361 := gE (uL HB.out) hg; replace HB := hbB (uL HB.out) hb; clear hb hbox hg) | ((with_reducible refine gate_dst (N := 10) rfl ?_); refine Kd.R_lit k105 _ 105 ?hg (N := 10) ?hd (xs := ([(⟨a0, a1⟩ : S105)] : List (S105))) (inner := [.string a0, .int .i64 a1]) (ok := fun _ => True) (okp := fun _ => True) ?hr ?hp (fun _ hk => hk) trivial (Below.refl _ _) (Nat.le_refl _) (by simp) ?_; (case hd => rfl); (case hg => rfl); (case hr => first | (go_simp; done) | (go_simp; rfl)); (case hp => exact (Reps.c2 (show Kd.M k105 _ _ _ (⟨a0, a1⟩ : S105) [.string a0, .int .i64 a1] from (k105_mkM _ _ _ (⟨a0, a1⟩ : S105) )) (Reps.none _ _))); intro v363 w5 ho6 hb hg_ hnew_; clear hg_ hnew_; (first | rw [← Ny362.out] at ho6 | (simp only [Int.reduceToNat] at ho6; rw [← Ny362.out] at ho6)); have HO364 := mk0 (Kd.R_lower ho6 (below_size bH)); replace BK361 := bB BK361 hb; replace HB := hbB bH hb; clear hb ho6; obtain ⟨Ao7, co7, eo7⟩ := Kd.R_slice HO364.out; subst eo7; obtain ⟨hcz8_0, hcz8_1, hfz8_0, hfz8_1⟩ := cL2 BK361))
 refine bodyPost_ret (results_cell_row rfl _ _ gb361 63 #[.slice Ao7 y362.length co7, .int .i64 a2] (0, 0) _ rfl (by (repeat refine lay ?_); refine blk_put (cs := #[.slice Ao7 y362.length co7, .int .i64 0]) ?_ 1 _ rfl; (repeat refine lay ?_); refine blk_put (cs := #[.slice none 0 0, .int .i64 0]) ?_ 0 _ rfl; (repeat refine lay ?_); exact BK361.out) Try.underlying63 rfl (by kernel_rfl)) rfl ?_
 exact ⟨_, rE, uR (Kd.R_mono (Kd.R_far (p := ⟨gb361, 1, none⟩) (Kd.R_far (p := ⟨gb361, 0, none⟩) (Kd.R_types HO364.out BK361.out (by decide)) (fun _ hk => hk.2) (.slice Ao7 y362.length co7)) (fun _ hk => hk.2) (.int .i64 a2)) (fun _ hk => trivial)), bH⟩

end Go.Proofs.Ytmglfimdhbooeaa.X
