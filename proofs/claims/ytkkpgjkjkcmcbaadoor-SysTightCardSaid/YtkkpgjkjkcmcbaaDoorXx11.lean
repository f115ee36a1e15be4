-- PRINTED by print.py (a twelfth state) out of the translation. Not trusted: Lean checks it.
import Derived.Test.YtkkpgjkjkcmcbaaDoorXx0
import Derived.Test.YtkkpgjkjkcmcbaaDoorXx7
import Derived.Test.YtkkpgjkjkcmcbaaDoorXx9
namespace Go.Proofs.YtkkpgjkjkcmcbaaDoor.X
open Go.Proofs.YtkkpgjkjkcmcbaaDoor.Flt Go.Proofs.YtkkpgjkjkcmcbaaDoor.H Go.RowKit Go.Proofs.YtkkpgjkjkcmcbaaDoorW.PrintWords Go.Proofs.YtkkpgjkjkcmcbaaDoorW.PrintLast Go.Proofs.YtkkpgjkjkcmcbaaDoorW.PrintMore
attribute [local go_sem] max2_int min2_int max_two min_two max_three min_three max_four min_four   -- for this text's walks alone
set_option linter.unusedVariables false
set_option linter.unusedSimpArgs false

/-! ### furrowlaw15_Few: function 7 -/
mutual
def furrowlaw15_Few.j0 : Nat → Bool → Int → List (S59) → List (S59) → Option (Bool)
 | 0, _, _, _, _ => none
 | k + 1, x14, x426000, x426001, x426002 => if x14 = true then (some false) else (furrowlaw15_Few.l0 k 0 x426000 x426001 x426002)
def furrowlaw15_Few.l0 : Nat → Int → Int → List (S59) → List (S59) → Option (Bool)
 | 0, _, _, _, _ => none
 | k + 1, x3, x426000, x426001, x426002 => if x3 < (x426001.length : Int) then (if 0 ≤ x3 then (if (((rd_T59 x426001 x3).f0).length : Int) > 20 then (some false) else (furrowlaw15_Few.l0 k (wrap64 (x3 + 1)) x426000 x426001 x426002)) else (none)) else (furrowlaw15_Few.l1 k 0 x426000 x426001 x426002)
def furrowlaw15_Few.l1 : Nat → Int → Int → List (S59) → List (S59) → Option (Bool)
 | 0, _, _, _, _ => none
 | k + 1, x4, x426000, x426001, x426002 => if x4 < (x426002.length : Int) then (if 0 ≤ x4 then (if (((rd_T59 x426002 x4).f0).length : Int) > 20 then (some false) else (furrowlaw15_Few.l1 k (wrap64 (x4 + 1)) x426000 x426001 x426002)) else (none)) else (some true)
end
def furrowlaw15_Few.f (k : Nat) (a0_0 : Int) (l0_1 : List (S59)) (l0_2 : List (S59)) : Option (Bool) := if (l0_1.length : Int) > 70 then (furrowlaw15_Few.j0 k true a0_0 l0_1 l0_2) else (furrowlaw15_Few.j0 k (decide ((l0_2.length : Int) > 70)) a0_0 l0_1 l0_2)
theorem furrowlaw15_Few.mono_l : ∀ k, (∀ y0 y1 y2 y3, LeO (furrowlaw15_Few.j0 k y0 y1 y2 y3) (furrowlaw15_Few.j0 (k + 1) y0 y1 y2 y3)) ∧ (∀ y0 y1 y2 y3, LeO (furrowlaw15_Few.l0 k y0 y1 y2 y3) (furrowlaw15_Few.l0 (k + 1) y0 y1 y2 y3)) ∧ (∀ y0 y1 y2 y3, LeO (furrowlaw15_Few.l1 k y0 y1 y2 y3) (furrowlaw15_Few.l1 (k + 1) y0 y1 y2 y3))
 | 0 => ⟨fun _ _ _ _ r h => by simp [furrowlaw15_Few.j0] at h, fun _ _ _ _ r h => by simp [furrowlaw15_Few.l0] at h, fun _ _ _ _ r h => by simp [furrowlaw15_Few.l1] at h⟩
 | k + 1 => by
  obtain ⟨ih0, ih1, ih2⟩ := furrowlaw15_Few.mono_l k
  refine ⟨?_, ?_, ?_⟩
  ·intro y0 y1 y2 y3
   unfold furrowlaw15_Few.j0
   repeat' first
   | (with_reducible exact ih0 _ _ _ _)
   | (with_reducible exact ih1 _ _ _ _)
   | (with_reducible exact ih2 _ _ _ _)
   | (with_reducible exact LeO.refl _)
   | (with_reducible exact LeO.none _)
   | (with_reducible refine LeO.ite ?_ ?_)
   | (with_reducible refine LeO.bind ?_ (fun _ => ?_))
   | exact ih0 _ _ _ _
   | exact ih1 _ _ _ _
   | exact ih2 _ _ _ _
   | exact LeO.none _
   | refine LeO.ite ?_ ?_
   | refine LeO.bind ?_ (fun _ => ?_)
  ·intro y0 y1 y2 y3
   unfold furrowlaw15_Few.l0
   repeat' first
   | (with_reducible exact ih0 _ _ _ _)
   | (with_reducible exact ih1 _ _ _ _)
   | (with_reducible exact ih2 _ _ _ _)
   | (with_reducible exact LeO.refl _)
   | (with_reducible exact LeO.none _)
   | (with_reducible refine LeO.ite ?_ ?_)
   | (with_reducible refine LeO.bind ?_ (fun _ => ?_))
   | exact ih0 _ _ _ _
   | exact ih1 _ _ _ _
   | exact ih2 _ _ _ _
   | exact LeO.none _
   | refine LeO.ite ?_ ?_
   | refine LeO.bind ?_ (fun _ => ?_)
  ·intro y0 y1 y2 y3
   unfold furrowlaw15_Few.l1
   repeat' first
   | (with_reducible exact ih0 _ _ _ _)
   | (with_reducible exact ih1 _ _ _ _)
   | (with_reducible exact ih2 _ _ _ _)
   | (with_reducible exact LeO.refl _)
   | (with_reducible exact LeO.none _)
   | (with_reducible refine LeO.ite ?_ ?_)
   | (with_reducible refine LeO.bind ?_ (fun _ => ?_))
   | exact ih0 _ _ _ _
   | exact ih1 _ _ _ _
   | exact ih2 _ _ _ _
   | exact LeO.none _
   | refine LeO.ite ?_ ?_
   | refine LeO.bind ?_ (fun _ => ?_)
theorem furrowlaw15_Few.mono : ∀ a0 a1 a2 k, LeO (furrowlaw15_Few.f k a0 a1 a2) (furrowlaw15_Few.f (k + 1) a0 a1 a2) := by
 intro a0 a1 a2 k
 obtain ⟨ih0, ih1, ih2⟩ := furrowlaw15_Few.mono_l k
 unfold furrowlaw15_Few.f
 repeat' first
   | (with_reducible exact ih0 _ _ _ _)
   | (with_reducible exact ih1 _ _ _ _)
   | (with_reducible exact ih2 _ _ _ _)
   | (with_reducible exact LeO.refl _)
   | (with_reducible exact LeO.none _)
   | (with_reducible refine LeO.ite ?_ ?_)
   | (with_reducible refine LeO.bind ?_ (fun _ => ?_))
   | exact ih0 _ _ _ _
   | exact ih1 _ _ _ _
   | exact ih2 _ _ _ _
   | exact LeO.none _
   | refine LeO.ite ?_ ?_
   | refine LeO.bind ?_ (fun _ => ?_)
set_option maxHeartbeats 8000000 in
set_option maxRecDepth 100000 in
theorem furrowlaw15_Few.calls (k : Nat) (a0_0 : Int) (A0_1 : Option Addr) (c0_1 : Nat) (l0_1 : List (S59)) (A0_2 : Option Addr) (c0_2 : Nat) (l0_2 : List (S59)) (r : Bool) (w : World) (hr0_1 : Kd.C k59 w A0_1 l0_1.length l0_1) (hc0_1 : l0_1.length ≤ c0_1) (hr0_2 : Kd.C k59 w A0_2 l0_2.length l0_2) (hc0_2 : l0_2.length ≤ c0_2) (h : furrowlaw15_Few.f k a0_0 l0_1 l0_2 = some r) :
  Calls Tryd.prog 7 #[.agg #[.int .i64 a0_0, .slice A0_1 l0_1.length c0_1, .slice A0_2 l0_2.length c0_2]] w fun e w' => e = .returned (.bool r) ∧ Below w.heap.size w w' := by
 have hu24 := Tryd.underlying24
 have HR0_1 := mk0 hr0_1
 have HC0_1 := mk0 hc0_1
 clear hr0_1 hc0_1
 have HR0_2 := mk0 hr0_2
 have HC0_2 := mk0 hc0_2
 clear hr0_2 hc0_2
 have HB := mk0 (Below.refl w.heap.size w)
 have H : (if (l0_1.length : Int) > 70 then (furrowlaw15_Few.j0 k true a0_0 l0_1 l0_2) else (furrowlaw15_Few.j0 k (decide ((l0_2.length : Int) > 70)) a0_0 l0_1 l0_2)) = some r := h
 clear h
 have HC2 := mk0 H
 clear H
 go_enter Tryd.func7, Tryd.ntmps7
 go_upto_region 1 with (first | ((with_reducible refine gate_dst (N := 1) rfl ?_); (try (refine gate_guard (by rfl) ?_; dsimp only)); refine bxE 1 #[.int .i64 a0_0, .slice A0_1 l0_1.length c0_1, .slice A0_2 l0_2.length c0_2] 24 ?_; intro gb425 hg w3 hbox hb; have BK425 := mk0 (hbox); have GW425 := mk0 ((by rw [hg]; exact (below_size (uL HB.out)) : w.heap.size ≤ gb425)); have GE425 := mk0 ((by rw [hg]; exact (below_size (uL HB.out)) : w.heap.size ≤ gb425)); replace HB := hbB (uL HB.out) hb; clear hb hbox hg))
 (try simp only [Act.put, List.setIfInBounds_toArray, List.set_cons_zero, List.set_cons_succ])
 go_cut [14] (fun v14 wc => ∃ (kq : Nat) (x14_1 : Bool), v14 = .bool x14_1 ∧ Aside0 (furrowlaw15_Few.j0 kq x14_1 a0_0 l0_1 l0_2 = some r) ∧ Aside0 (kq ≤ k) ∧ Aside0 (wc.heap[gb425]? = some (.cells #[.int .i64 a0_0, (.slice A0_1 l0_1.length c0_1), (.slice A0_2 l0_2.length c0_2)] 24 (0, 0))) ∧ Aside0 (Below w.heap.size w wc))
 case first =>
  have H := HC2.out
  clear HC2
  by_cases c4 : (l0_1.length : Int) > 70
  ·rw [if_pos c4] at H
   have c4b0 : decide (70 < (l0_1.length : Int)) = true := decide_eq_true c4
   have c4b1 : decide (70 < l0_1.length) = true := decide_eq_true (by omega)
   clear c4
   (first | rw [c4b0] | (simp only [i64_w, i32_w]; rw [c4b0]) | skip)
   have H' := mk0 H
   clear H
   obtain ⟨hcz5_0, hcz5_1, hcz5_2, hfz5_0, hfz5_1, hfz5_2⟩ := cL3 BK425
   go_wp2
   go_meet
   case rel => exact ⟨_, (true), (by first | rfl | (simp; done) | (simp [*]; done) | (simp [bne_nil_, beq_nil_]; done)), H', ⟨by first | omega | exact Nat.le_refl _⟩, ⟨uB BK425.out⟩, ⟨bH⟩⟩
  ·rw [if_neg c4] at H
   have c4b0 : decide (70 < (l0_1.length : Int)) = false := decide_eq_false c4
   have c4b1 : decide (70 < l0_1.length) = false := decide_eq_false (by omega)
   clear c4
   (first | rw [c4b0] | (simp only [i64_w, i32_w]; rw [c4b0]) | skip)
   have H' := mk0 H
   clear H
   obtain ⟨hcz6_0, hcz6_1, hcz6_2, hfz6_0, hfz6_1, hfz6_2⟩ := cL3 BK425
   go_wp2
   go_meet
   case rel => exact ⟨_, (decide ((l0_2.length : Int) > 70)), (by first | rfl | (simp; done) | (simp [*]; done) | (simp [bne_nil_, beq_nil_]; done)), H', ⟨by first | omega | exact Nat.le_refl _⟩, ⟨uB BK425.out⟩, ⟨bH⟩⟩
 case rest =>
  clear HC2
  try clear p2
  try clear c4
  try clear c4b0
  try clear c4b1
  try clear hcz5_0
  try clear hcz5_1
  try clear hcz5_2
  try clear hcz6_0
  try clear hcz6_1
  try clear hcz6_2
  try clear hfz5_0
  try clear hfz5_1
  try clear hfz5_2
  try clear hfz6_0
  try clear hfz6_1
  try clear hfz6_2
  obtain ⟨kq, x14_1, rfl, HA, HJ1, BK425, HB⟩ := hcut
  cases kq with
  | zero => exact absurd HA.out (by simp [furrowlaw15_Few.j0])
  | succ kj1 =>
   have H := HA.out
   clear HA
   simp only [furrowlaw15_Few.j0] at H
   by_cases c7 : x14_1 = true
   ·subst c7
    have H1 : (some false) = some r := by rw [if_pos rfl] at H; exact H
    clear H
    have H := H1
    clear H1
    obtain rfl := Option.some.inj H
    go_wp2
    go_ret
    exact ⟨rE, bH⟩
   ·replace c7 := Bool.eq_false_iff.mpr c7
    subst c7
    have H1 : (furrowlaw15_Few.l0 kj1 0 a0_0 l0_1 l0_2) = some r := by rw [if_neg (show ¬ (false = true) by decide)] at H; exact H
    clear H
    have H := H1
    clear H1
    have H' := mk0 H
    clear H
    go_wp2
    go_loopg [3] kj1 (fun kq v3 w' => ∃ (x3_2 : Int), v3 = .int .i64 x3_2 ∧ Aside0 (furrowlaw15_Few.l0 kq x3_2 a0_0 l0_1 l0_2 = some r) ∧ Aside0 (kq ≤ kj1) ∧ Aside0 (w'.heap[gb425]? = some (.cells #[.int .i64 a0_0, (.slice A0_1 l0_1.length c0_1), (.slice A0_2 l0_2.length c0_2)] 24 (0, 0))) ∧ Aside0 (Below w.heap.size w w'))
    case atStart => exact ⟨(0), (by first | rfl | (simp; done) | (simp [*]; done) | (simp [bne_nil_, beq_nil_]; done)), H', ⟨Nat.le_refl _⟩, ⟨uB BK425.out⟩, ⟨bH⟩⟩
    case round =>
     clear H'
     try clear p2
     try clear c4
     try clear c4b0
     try clear c4b1
     try clear c7
     try clear hcz5_0
     try clear hcz5_1
     try clear hcz5_2
     try clear hcz6_0
     try clear hcz6_1
     try clear hcz6_2
     try clear hfz5_0
     try clear hfz5_1
     try clear hfz5_2
     try clear hfz6_0
     try clear hfz6_1
     try clear hfz6_2
     try clear p2
     obtain ⟨x3_2, rfl, HA, HK2, BK425, HB⟩ := hrel
     cases gk with
     | zero => exact absurd HA.out (by simp [furrowlaw15_Few.l0])
     | succ k2 =>
      have H := HA.out
      clear HA
      simp only [furrowlaw15_Few.l0] at H
      by_cases c8 : x3_2 < (l0_1.length : Int)
      ·rw [if_pos c8] at H
       have c8b0 : decide (x3_2 < (l0_1.length : Int)) = true := decide_eq_true c8
       clear c8
       by_cases c9 : 0 ≤ x3_2
       ·rw [if_pos c9] at H
        have c9b0 : decide (0 ≤ x3_2) = true := decide_eq_true c9
        clear c9
        by_cases c10 : (((rd_T59 l0_1 x3_2).f0).length : Int) > 20
        ·rw [if_pos c10] at H
         have c10b0 : decide (20 < (((rd_T59 l0_1 x3_2).f0).length : Int)) = true := decide_eq_true c10
         have c10b1 : decide (20 < ((rd_T59 l0_1 x3_2).f0).length) = true := decide_eq_true (by omega)
         clear c10
         obtain rfl := Option.some.inj H
         obtain ⟨hcz11_0, hcz11_1, hcz11_2, hfz11_0, hfz11_1, hfz11_2⟩ := cL3 BK425
         have p426 : 0 ≤ (x3_2 : Int) := of_decide_eq_true (by first | (with_reducible assumption) | assumption)
         have q426 : x3_2 < (l0_1.length : Int) := of_decide_eq_true (by first | (with_reducible assumption) | assumption)
         obtain ⟨ad426, A426_0, c426_0, e426, hx426_0, hx426_1, hl426_0, hi426_0⟩ := at_T59 HR0_1.out x3_2 p426 q426
         cases e426
         replace hx426_0 := (HB.out.cell (World.block_lt_of_cell? w _ hx426_0)).trans hx426_0
         replace hx426_1 := (HB.out.cell (World.block_lt_of_cell? w _ hx426_1)).trans hx426_1
         have HR426_0 := mk0 hi426_0
         have HC426_0 := mk0 hl426_0
         clear hi426_0 hl426_0
         replace p426 := eq_true p426
         replace q426 := eq_true q426
         go_wp2
         go_ret
         exact ⟨rE, bH⟩
        ·rw [if_neg c10] at H
         have c10b0 : decide (20 < (((rd_T59 l0_1 x3_2).f0).length : Int)) = false := decide_eq_false c10
         have c10b1 : decide (20 < ((rd_T59 l0_1 x3_2).f0).length) = false := decide_eq_false (by omega)
         clear c10
         have H' := mk0 H
         clear H
         obtain ⟨hcz12_0, hcz12_1, hcz12_2, hfz12_0, hfz12_1, hfz12_2⟩ := cL3 BK425
         have p426 : 0 ≤ (x3_2 : Int) := of_decide_eq_true (by first | (with_reducible assumption) | assumption)
         have q426 : x3_2 < (l0_1.length : Int) := of_decide_eq_true (by first | (with_reducible assumption) | assumption)
         obtain ⟨ad426, A426_0, c426_0, e426, hx426_0, hx426_1, hl426_0, hi426_0⟩ := at_T59 HR0_1.out x3_2 p426 q426
         cases e426
         replace hx426_0 := (HB.out.cell (World.block_lt_of_cell? w _ hx426_0)).trans hx426_0
         replace hx426_1 := (HB.out.cell (World.block_lt_of_cell? w _ hx426_1)).trans hx426_1
         have HR426_0 := mk0 hi426_0
         have HC426_0 := mk0 hl426_0
         clear hi426_0 hl426_0
         replace p426 := eq_true p426
         replace q426 := eq_true q426
         go_wp2
         go_roundg k2
         case measure => have := HJ1.out; have := HK2.out; omega
         case rel => exact ⟨(wrap64 (x3_2 + 1)), (by first | rfl | (simp; done) | (simp [*]; done) | (simp [bne_nil_, beq_nil_]; done)), H', ⟨by have := HJ1.out; have := HK2.out; omega⟩, ⟨uB BK425.out⟩, ⟨bH⟩⟩
       ·rw [if_neg c9] at H
        exact absurd H (by simp)
      ·rw [if_neg c8] at H
       have c8b0 : decide (x3_2 < (l0_1.length : Int)) = false := decide_eq_false c8
       clear c8
       have H' := mk0 H
       clear H
       obtain ⟨hcz13_0, hcz13_1, hcz13_2, hfz13_0, hfz13_1, hfz13_2⟩ := cL3 BK425
       go_wp2
       go_loopg [4] k2 (fun kq v4 w' => ∃ (x4_3 : Int), v4 = .int .i64 x4_3 ∧ Aside0 (furrowlaw15_Few.l1 kq x4_3 a0_0 l0_1 l0_2 = some r) ∧ Aside0 (kq ≤ k2) ∧ Aside0 (w'.heap[gb425]? = some (.cells #[.int .i64 a0_0, (.slice A0_1 l0_1.length c0_1), (.slice A0_2 l0_2.length c0_2)] 24 (0, 0))) ∧ Aside0 (Below w.heap.size w w'))
       case atStart => exact ⟨(0), (by first | rfl | (simp; done) | (simp [*]; done) | (simp [bne_nil_, beq_nil_]; done)), H', ⟨Nat.le_refl _⟩, ⟨uB BK425.out⟩, ⟨bH⟩⟩
       case round =>
        clear H'
        try clear c1
        try clear p2
        try clear c4
        try clear c4b0
        try clear c4b1
        try clear p4
        try clear q4
        try clear hx4
        try clear p6
        try clear c7
        try clear c8
        try clear c8b0
        try clear c9
        try clear c9b0
        try clear c10
        try clear c10b0
        try clear c10b1
        try clear hcz11_0
        try clear hcz11_1
        try clear hcz11_2
        try clear hcz12_0
        try clear hcz12_1
        try clear hcz12_2
        try clear hcz13_0
        try clear hcz13_1
        try clear hcz13_2
        try clear hcz5_0
        try clear hcz5_1
        try clear hcz5_2
        try clear hcz6_0
        try clear hcz6_1
        try clear hcz6_2
        try clear hfz11_0
        try clear hfz11_1
        try clear hfz11_2
        try clear hfz12_0
        try clear hfz12_1
        try clear hfz12_2
        try clear hfz13_0
        try clear hfz13_1
        try clear hfz13_2
        try clear hfz5_0
        try clear hfz5_1
        try clear hfz5_2
        try clear hfz6_0
        try clear hfz6_1
        try clear hfz6_2
        try clear hx426_0
        try clear hx426_1
        try clear p2
        try clear p426
        try clear q426
        obtain ⟨x4_3, rfl, HA, HK3, BK425, HB⟩ := hrel
        cases gk with
        | zero => exact absurd HA.out (by simp [furrowlaw15_Few.l1])
        | succ k3 =>
         have H := HA.out
         clear HA
         simp only [furrowlaw15_Few.l1] at H
         by_cases c14 : x4_3 < (l0_2.length : Int)
         ·rw [if_pos c14] at H
          have c14b0 : decide (x4_3 < (l0_2.length : Int)) = true := decide_eq_true c14
          clear c14
          by_cases c15 : 0 ≤ x4_3
          ·rw [if_pos c15] at H
           have c15b0 : decide (0 ≤ x4_3) = true := decide_eq_true c15
           clear c15
           by_cases c16 : (((rd_T59 l0_2 x4_3).f0).length : Int) > 20
           ·rw [if_pos c16] at H
            have c16b0 : decide (20 < (((rd_T59 l0_2 x4_3).f0).length : Int)) = true := decide_eq_true c16
            have c16b1 : decide (20 < ((rd_T59 l0_2 x4_3).f0).length) = true := decide_eq_true (by omega)
            clear c16
            obtain rfl := Option.some.inj H
            obtain ⟨hcz17_0, hcz17_1, hcz17_2, hfz17_0, hfz17_1, hfz17_2⟩ := cL3 BK425
            have p427 : 0 ≤ (x4_3 : Int) := of_decide_eq_true (by first | (with_reducible assumption) | assumption)
            have q427 : x4_3 < (l0_2.length : Int) := of_decide_eq_true (by first | (with_reducible assumption) | assumption)
            obtain ⟨ad427, A427_0, c427_0, e427, hx427_0, hx427_1, hl427_0, hi427_0⟩ := at_T59 HR0_2.out x4_3 p427 q427
            cases e427
            replace hx427_0 := (HB.out.cell (World.block_lt_of_cell? w _ hx427_0)).trans hx427_0
            replace hx427_1 := (HB.out.cell (World.block_lt_of_cell? w _ hx427_1)).trans hx427_1
            have HR427_0 := mk0 hi427_0
            have HC427_0 := mk0 hl427_0
            clear hi427_0 hl427_0
            replace p427 := eq_true p427
            replace q427 := eq_true q427
            go_wp2
            go_ret
            exact ⟨rE, bH⟩
           ·rw [if_neg c16] at H
            have c16b0 : decide (20 < (((rd_T59 l0_2 x4_3).f0).length : Int)) = false := decide_eq_false c16
            have c16b1 : decide (20 < ((rd_T59 l0_2 x4_3).f0).length) = false := decide_eq_false (by omega)
            clear c16
            have H' := mk0 H
            clear H
            obtain ⟨hcz18_0, hcz18_1, hcz18_2, hfz18_0, hfz18_1, hfz18_2⟩ := cL3 BK425
            have p427 : 0 ≤ (x4_3 : Int) := of_decide_eq_true (by first | (with_reducible assumption) | assumption)
            have q427 : x4_3 < (l0_2.length : Int) := of_decide_eq_true (by first | (with_reducible assumption) | assumption)
            obtain ⟨ad427, A427_0, c427_0, e427, hx427_0, hx427_1, hl427_0, hi427_0⟩ := at_T59 HR0_2.out x4_3 p427 q427
            cases e427
            replace hx427_0 := (HB.out.cell (World.block_lt_of_cell? w _ hx427_0)).trans hx427_0
            replace hx427_1 := (HB.out.cell (World.block_lt_of_cell? w _ hx427_1)).trans hx427_1
            have HR427_0 := mk0 hi427_0
            have HC427_0 := mk0 hl427_0
            clear hi427_0 hl427_0
            replace p427 := eq_true p427
            replace q427 := eq_true q427
            go_wp2
            go_roundg k3
            case measure => have := HJ1.out; have := HK2.out; have := HK3.out; omega
            case rel => exact ⟨(wrap64 (x4_3 + 1)), (by first | rfl | (simp; done) | (simp [*]; done) | (simp [bne_nil_, beq_nil_]; done)), H', ⟨by have := HJ1.out; have := HK2.out; have := HK3.out; omega⟩, ⟨uB BK425.out⟩, ⟨bH⟩⟩
          ·rw [if_neg c15] at H
           exact absurd H (by simp)
         ·rw [if_neg c14] at H
          have c14b0 : decide (x4_3 < (l0_2.length : Int)) = false := decide_eq_false c14
          clear c14
          obtain rfl := Option.some.inj H
          obtain ⟨hcz19_0, hcz19_1, hcz19_2, hfz19_0, hfz19_1, hfz19_2⟩ := cL3 BK425
          go_wp2
          go_ret
          exact ⟨rE, bH⟩

/-! ### furrowlaw15_Good: function 19 -/
def furrowlaw15_Good.f (k : Nat) (a0_0 : Int) (l0_1 : List (S59)) (l0_2 : List (S59)) : Option (Bool) := (furrowlaw15_Few.f k a0_0 l0_1 l0_2).bind fun t429 => (if t429 = true then ((furrowlaw15_Of.f k a0_0 l0_1 l0_2).bind fun bt430 => ((furrowref20_Check.f k bt430.1 bt430.2.1 bt430.2.2).bind fun bt437 => (some (bt437.2 == 0)))) else (some false))
theorem furrowlaw15_Good.mono : ∀ a0 a1 a2 k, LeO (furrowlaw15_Good.f k a0 a1 a2) (furrowlaw15_Good.f (k + 1) a0 a1 a2) := by
 intro a0 a1 a2 k
 unfold furrowlaw15_Good.f
 repeat' first
   | (with_reducible exact furrowlaw15_Few.mono _ _ _ _)
   | (with_reducible exact furrowlaw15_Of.mono _ _ _ _)
   | (with_reducible exact furrowref20_Check.mono _ _ _ _)
   | (with_reducible exact LeO.refl _)
   | (with_reducible exact LeO.none _)
   | (with_reducible refine LeO.ite ?_ ?_)
   | (with_reducible refine LeO.bind ?_ (fun _ => ?_))
   | exact furrowlaw15_Few.mono _ _ _ _
   | exact furrowlaw15_Of.mono _ _ _ _
   | exact furrowref20_Check.mono _ _ _ _
   | exact LeO.none _
   | refine LeO.ite ?_ ?_
   | refine LeO.bind ?_ (fun _ => ?_)
theorem field30_1_ (a0 a1 : Value) (w : World) : Sem.run Tryd.prog (Instr.field 30 (Value.agg #[a0, a1]) 1) w = Result.ok a1 w := by kernel_rfl
attribute [local go_sem] field30_1_
set_option maxHeartbeats 8000000 in
set_option maxRecDepth 100000 in
theorem furrowlaw15_Good.calls (k : Nat) (a0_0 : Int) (A0_1 : Option Addr) (c0_1 : Nat) (l0_1 : List (S59)) (A0_2 : Option Addr) (c0_2 : Nat) (l0_2 : List (S59)) (r : Bool) (w : World) (hr0_1 : Kd.C k59 w A0_1 l0_1.length l0_1) (hc0_1 : l0_1.length ≤ c0_1) (hr0_2 : Kd.C k59 w A0_2 l0_2.length l0_2) (hc0_2 : l0_2.length ≤ c0_2) (h : furrowlaw15_Good.f k a0_0 l0_1 l0_2 = some r) :
  Calls Tryd.prog 19 #[.agg #[.int .i64 a0_0, .slice A0_1 l0_1.length c0_1, .slice A0_2 l0_2.length c0_2]] w fun e w' => e = .returned (.bool r) ∧ Below w.heap.size w w' := by
 have hu24 := Tryd.underlying24
 have HR0_1 := mk0 hr0_1
 have HC0_1 := mk0 hc0_1
 clear hr0_1 hc0_1
 have HR0_2 := mk0 hr0_2
 have HC0_2 := mk0 hc0_2
 clear hr0_2 hc0_2
 have HB := mk0 (Below.refl w.heap.size w)
 have H : ((furrowlaw15_Few.f k a0_0 l0_1 l0_2).bind fun t429 => (if t429 = true then ((furrowlaw15_Of.f k a0_0 l0_1 l0_2).bind fun bt430 => ((furrowref20_Check.f k bt430.1 bt430.2.1 bt430.2.2).bind fun bt437 => (some (bt437.2 == 0)))) else (some false))) = some r := h
 clear h
 replace H := Option.bind_eq_some_iff.mp H
 obtain ⟨t429, A20, H⟩ := H
 have A2 := mk0 A20
 clear A20
 by_cases c3 : t429 = true
 ·subst c3
  have H1 : ((furrowlaw15_Of.f k a0_0 l0_1 l0_2).bind fun bt430 => ((furrowref20_Check.f k bt430.1 bt430.2.1 bt430.2.2).bind fun bt437 => (some (bt437.2 == 0)))) = some r := by rw [if_pos rfl] at H; exact H
  clear H
  have H := H1
  clear H1
  replace H := Option.bind_eq_some_iff.mp H
  obtain ⟨⟨t430, t431, t434⟩, A40, H⟩ := H
  dsimp only at H
  have A4 := mk0 A40
  clear A40
  replace H := Option.bind_eq_some_iff.mp H
  obtain ⟨⟨t437, t440⟩, A50, H⟩ := H
  dsimp only at H
  have A5 := mk0 A50
  clear A50
  obtain rfl := Option.some.inj H
  have hu30 := Tryd.underlying30
  go_enter Tryd.func19, Tryd.ntmps19
  go_wp2_with (first | ((with_reducible refine gate_dst (N := 1) rfl ?_); refine bxE 1 #[.int .i64 a0_0, .slice A0_1 l0_1.length c0_1, .slice A0_2 l0_2.length c0_2] 24 ?_; intro gb428 hg w6 hbox hb; have BK428 := mk0 (hbox); have GW428 := mk0 ((by rw [hg]; exact (below_size (uL HB.out)) : w.heap.size ≤ gb428)); have GE428 := mk0 ((by rw [hg]; exact (below_size (uL HB.out)) : w.heap.size ≤ gb428)); replace HB := hbB (uL HB.out) hb; clear hb hbox hg; obtain ⟨hcz7_0, hcz7_1, hcz7_2, hfz7_0, hfz7_1, hfz7_2⟩ := cL3 BK428) | ((with_reducible refine gate_dst (N := 4) rfl ?_); refine gsM (some 4) Tryd.func7 #[.agg #[.int .i64 a0_0, .slice A0_1 l0_1.length c0_1, .slice A0_2 l0_2.length c0_2]] ?_; (with_reducible refine (furrowlaw15_Few.calls k a0_0 _ _ l0_1 _ _ l0_2 true _ ?side1 ?side2 ?side3 ?side4 A2.out).mono ?_); (case side1 => exact uC (Kd.C_below HR0_1.out HB.out)); (case side2 => exact HC0_1.out); (case side3 => exact uC (Kd.C_below HR0_2.out HB.out)); (case side4 => exact HC0_2.out); rintro e w8 ⟨rfl, hb⟩; refine ⟨_, rfl, ?_⟩; replace BK428 := bB BK428 hb; replace HB := hbB bH hb; (try clear hb); (try clear hb2); (try clear hk); (try clear hi); obtain ⟨hcz9_0, hcz9_1, hcz9_2, hfz9_0, hfz9_1, hfz9_2⟩ := cL3 BK428) | (go_at_call 9; (with_reducible refine (furrowlaw15_Of.calls k a0_0 (fun k_ => k_ < w.heap.size) _ _ l0_1 (fun k_ => k_ < w.heap.size) _ _ l0_2 t430 t431 t434 _ ?side1 ?side2 A4.out).mono ?_); (case side1 => exact Kd.V_mk HC0_1.out (Kd.F_below (Kd.C_F k59_heap HR0_1.out) bH)); (case side2 => exact Kd.V_mk HC0_2.out (Kd.F_below (Kd.C_F k59_heap HR0_2.out) bH)); rintro e w10 ⟨v432, v435, rfl, ho0, ho1, hb⟩; have HO433 := mk0 (Kd.N_lower (Kd.N_mono (ok' := fun k_ => some k_ ≠ (v435 : Value).ownBlock ∧ k_ ≠ gb428) ho0 (fun k_ hk_ => ⟨hk_.2, Or.elim hk_.1 (fun hs_ => Or.elim hs_ (fun hs_ => fun e_ => Nat.not_le.2 hs_ (by rw [e_]; exact GW428.out)) (fun hs_ => fun e_ => Nat.not_le.2 hs_ (by rw [e_]; exact GW428.out))) (fun hn_ => (Kd.freshB (g := gb428) (o := .cells #[.int .i64 a0_0, .slice A0_1 l0_1.length c0_1, .slice A0_2 l0_2.length c0_2] 24 (0, 0)) (uB BK428.out) k_ hn_))⟩)) (below_size bH)); have HO436 := mk0 (Kd.N_lower (Kd.N_mono (ok' := fun k_ => some k_ ≠ (v432 : Value).ownBlock ∧ k_ ≠ gb428) ho1 (fun k_ hk_ => ⟨hk_.2, Or.elim hk_.1 (fun hs_ => Or.elim hs_ (fun hs_ => fun e_ => Nat.not_le.2 hs_ (by rw [e_]; exact GW428.out)) (fun hs_ => fun e_ => Nat.not_le.2 hs_ (by rw [e_]; exact GW428.out))) (fun hn_ => (Kd.freshB (g := gb428) (o := .cells #[.int .i64 a0_0, .slice A0_1 l0_1.length c0_1, .slice A0_2 l0_2.length c0_2] 24 (0, 0)) (uB BK428.out) k_ hn_))⟩)) (below_size bH)); replace BK428 := bB BK428 hb; replace HB := hbB bH hb; (try clear hb); (try clear hb2); (try clear hk); (try clear hi); (try clear ho0); (try clear ho1); obtain ⟨Ao11, co11, eo11⟩ := Kd.N_slice HO433.out; subst eo11; obtain ⟨Ao12, co12, eo12⟩ := Kd.N_slice HO436.out; subst eo12) | (go_at_call 8; (with_reducible refine (furrowref20_Check.calls k t430 _ _ t431 _ _ t434 t437 t440 _ ?side1 ?side2 ?side3 ?side4 A5.out).mono ?_); (case side1 => exact uC ((Kd.N_reads' HO433.out).2.2)); (case side2 => exact (Kd.N_reads' HO433.out).2.1); (case side3 => exact uC ((Kd.N_reads' HO436.out).2.2)); (case side4 => exact (Kd.N_reads' HO436.out).2.1); rintro e w13 ⟨v438, rfl, ho0, hb⟩; replace HO433 := mk0 (Kd.N_elder' (uN HO433.out) (Kd.R_base ho0) hb); replace HO436 := mk0 (Kd.N_elder' (uN HO436.out) (Kd.R_base ho0) hb); have HO439 := mk0 (Kd.R_lower ho0 (below_size bH)); replace BK428 := bB BK428 hb; replace HB := hbB bH hb; (try clear hb); (try clear hb2); (try clear hk); (try clear hi); (try clear ho0)))
  go_ret
  exact ⟨rE, bH⟩
 ·replace c3 := Bool.eq_false_iff.mpr c3
  subst c3
  have H1 : (some false) = some r := by rw [if_neg (show ¬ (false = true) by decide)] at H; exact H
  clear H
  have H := H1
  clear H1
  obtain rfl := Option.some.inj H
  have hu30 := Tryd.underlying30
  go_enter Tryd.func19, Tryd.ntmps19
  go_wp2_with (first | ((with_reducible refine gate_dst (N := 1) rfl ?_); refine bxE 1 #[.int .i64 a0_0, .slice A0_1 l0_1.length c0_1, .slice A0_2 l0_2.length c0_2] 24 ?_; intro gb428 hg w14 hbox hb; have BK428 := mk0 (hbox); have GW428 := mk0 ((by rw [hg]; exact (below_size (uL HB.out)) : w.heap.size ≤ gb428)); have GE428 := mk0 ((by rw [hg]; exact (below_size (uL HB.out)) : w.heap.size ≤ gb428)); replace HB := hbB (uL HB.out) hb; clear hb hbox hg; obtain ⟨hcz15_0, hcz15_1, hcz15_2, hfz15_0, hfz15_1, hfz15_2⟩ := cL3 BK428) | ((with_reducible refine gate_dst (N := 4) rfl ?_); refine gsM (some 4) Tryd.func7 #[.agg #[.int .i64 a0_0, .slice A0_1 l0_1.length c0_1, .slice A0_2 l0_2.length c0_2]] ?_; (with_reducible refine (furrowlaw15_Few.calls k a0_0 _ _ l0_1 _ _ l0_2 false _ ?side1 ?side2 ?side3 ?side4 A2.out).mono ?_); (case side1 => exact uC (Kd.C_below HR0_1.out HB.out)); (case side2 => exact HC0_1.out); (case side3 => exact uC (Kd.C_below HR0_2.out HB.out)); (case side4 => exact HC0_2.out); rintro e w16 ⟨rfl, hb⟩; refine ⟨_, rfl, ?_⟩; replace BK428 := bB BK428 hb; replace HB := hbB bH hb; (try clear hb); (try clear hb2); (try clear hk); (try clear hi)))
  go_ret
  exact ⟨rE, bH⟩

end Go.Proofs.YtkkpgjkjkcmcbaaDoor.X
