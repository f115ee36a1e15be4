-- PRINTED by print.py (a twelfth state) out of the translation. Not trusted: Lean checks it.
import Derived.Test.YtkkpgjkjkcmcbaaDoorXx0
namespace Go.Proofs.YtkkpgjkjkcmcbaaDoor.X
open Go.Proofs.YtkkpgjkjkcmcbaaDoor.Flt Go.Proofs.YtkkpgjkjkcmcbaaDoor.H Go.RowKit Go.Proofs.YtkkpgjkjkcmcbaaDoorW.PrintWords Go.Proofs.YtkkpgjkjkcmcbaaDoorW.PrintLast Go.Proofs.YtkkpgjkjkcmcbaaDoorW.PrintMore
attribute [local go_sem] max2_int min2_int max_two min_two max_three min_three max_four min_four   -- for this text's walks alone
set_option linter.unusedVariables false
set_option linter.unusedSimpArgs false

-- NOT PRINTED: function 5 (furrowlaw15_SysBox)

/-! ### furrowref20_value: function 47 -/
def furrowref20_value.l0 : Nat → List Int → Int → Int → List Int → Int → Option (Int)
 | 0, _, _, _, _, _ => none
 | k + 1, x1, x5, x6, x418000, x418001 => if x6 < (x1.length : Int) then (if x6 < (x418000.length : Int) then (if 0 ≤ x6 then (furrowref20_value.l0 k x1 (wrap64 (x5 + (wrap64 ((rd x418000 x6) * (rd x1 x6))))) (wrap64 (x6 + 1)) x418000 x418001) else (none)) else (some x5)) else (some x5)
def furrowref20_value.f (k : Nat) (l0_0 : List Int) (a0_1 : Int) (l1 : List Int) : Option (Int) := furrowref20_value.l0 k l1 a0_1 0 l0_0 a0_1
theorem furrowref20_value.mono_l : ∀ k, (∀ y0 y1 y2 y3 y4, LeO (furrowref20_value.l0 k y0 y1 y2 y3 y4) (furrowref20_value.l0 (k + 1) y0 y1 y2 y3 y4))
 | 0 => fun _ _ _ _ _ r h => by simp [furrowref20_value.l0] at h
 | k + 1 => by
  have ih0 := furrowref20_value.mono_l k
  ·intro y0 y1 y2 y3 y4
   unfold furrowref20_value.l0
   repeat' first
   | (with_reducible exact ih0 _ _ _ _ _)
   | (with_reducible exact LeO.refl _)
   | (with_reducible exact LeO.none _)
   | (with_reducible refine LeO.ite ?_ ?_)
   | (with_reducible refine LeO.bind ?_ (fun _ => ?_))
   | exact ih0 _ _ _ _ _
   | exact LeO.none _
   | refine LeO.ite ?_ ?_
   | refine LeO.bind ?_ (fun _ => ?_)
theorem furrowref20_value.mono : ∀ a0 a1 a2 k, LeO (furrowref20_value.f k a0 a1 a2) (furrowref20_value.f (k + 1) a0 a1 a2) := by
 intro a0 a1 a2 k
 have ih0 := furrowref20_value.mono_l k
 unfold furrowref20_value.f
 repeat' first
   | (with_reducible exact ih0 _ _ _ _ _)
   | (with_reducible exact LeO.refl _)
   | (with_reducible exact LeO.none _)
   | (with_reducible refine LeO.ite ?_ ?_)
   | (with_reducible refine LeO.bind ?_ (fun _ => ?_))
   | exact ih0 _ _ _ _ _
   | exact LeO.none _
   | refine LeO.ite ?_ ?_
   | refine LeO.bind ?_ (fun _ => ?_)
set_option maxHeartbeats 8000000 in
set_option maxRecDepth 100000 in
theorem furrowref20_value.calls (k : Nat) (A0_0 : Option Addr) (c0_0 : Nat) (l0_0 : List Int) (a0_1 : Int) (A1 : Option Addr) (c1 : Nat) (l1 : List Int) (r : Int) (w : World) (hr0_0 : Kd.C (Kd.int .i64) w A0_0 l0_0.length l0_0) (hc0_0 : l0_0.length ≤ c0_0) (hr1 : Kd.C (Kd.int .i64) w A1 l1.length l1) (hc1 : l1.length ≤ c1) (h : furrowref20_value.f k l0_0 a0_1 l1 = some r) :
  Calls Tryd.prog 47 #[.agg #[.slice A0_0 l0_0.length c0_0, .int .i64 a0_1], .slice A1 l1.length c1] w fun e w' => e = .returned (.int .i64 r) ∧ Below w.heap.size w w' := by
 have hu65 := Tryd.underlying65
 have HR0_0 := mk0 hr0_0
 have HC0_0 := mk0 hc0_0
 clear hr0_0 hc0_0
 have HR1 := mk0 hr1
 have HC1 := mk0 hc1
 clear hr1 hc1
 have HB := mk0 (Below.refl w.heap.size w)
 have H : (furrowref20_value.l0 k l1 a0_1 0 l0_0 a0_1) = some r := h
 clear h
 have H' := mk0 H
 clear H
 go_enter Tryd.func47, Tryd.ntmps47
 go_wp2_with (first | ((with_reducible refine gate_dst (N := 2) rfl ?_); (try (refine gate_guard (by rfl) ?_; dsimp only)); refine bxE 2 #[.slice A0_0 l0_0.length c0_0, .int .i64 a0_1] 65 ?_; intro gb417 hg w3 hbox hb; have BK417 := mk0 (hbox); have GW417 := mk0 ((by rw [hg]; exact (below_size (uL HB.out)) : w.heap.size ≤ gb417)); have GE417 := mk0 ((by rw [hg]; exact (below_size (uL HB.out)) : w.heap.size ≤ gb417)); replace HB := hbB (uL HB.out) hb; clear hb hbox hg; obtain ⟨hcz4_0, hcz4_1, hfz4_0, hfz4_1⟩ := cL2 BK417))
 repeat (go_quiet (first | ((with_reducible refine gate_dst (N := 2) rfl ?_); (try (refine gate_guard (by rfl) ?_; dsimp only)); refine bxE 2 #[.slice A0_0 l0_0.length c0_0, .int .i64 a0_1] 65 ?_; intro gb417 hg w3 hbox hb; have BK417 := mk0 (hbox); have GW417 := mk0 ((by rw [hg]; exact (below_size (uL HB.out)) : w.heap.size ≤ gb417)); have GE417 := mk0 ((by rw [hg]; exact (below_size (uL HB.out)) : w.heap.size ≤ gb417)); replace HB := hbB (uL HB.out) hb; clear hb hbox hg; obtain ⟨hcz4_0, hcz4_1, hfz4_0, hfz4_1⟩ := cL2 BK417)); try go_wp2_with (first | ((with_reducible refine gate_dst (N := 2) rfl ?_); (try (refine gate_guard (by rfl) ?_; dsimp only)); refine bxE 2 #[.slice A0_0 l0_0.length c0_0, .int .i64 a0_1] 65 ?_; intro gb417 hg w3 hbox hb; have BK417 := mk0 (hbox); have GW417 := mk0 ((by rw [hg]; exact (below_size (uL HB.out)) : w.heap.size ≤ gb417)); have GE417 := mk0 ((by rw [hg]; exact (below_size (uL HB.out)) : w.heap.size ≤ gb417)); replace HB := hbB (uL HB.out) hb; clear hb hbox hg; obtain ⟨hcz4_0, hcz4_1, hfz4_0, hfz4_1⟩ := cL2 BK417)))
 go_loopg [5, 6] k (fun kq v5 v6 w' => ∃ (x5_1 : Int) (x6_1 : Int), v5 = .int .i64 x5_1 ∧ v6 = .int .i64 x6_1 ∧ Aside0 (furrowref20_value.l0 kq l1 x5_1 x6_1 l0_0 a0_1 = some r) ∧ Aside0 (kq ≤ k) ∧ Aside0 (w'.heap[gb417]? = some (.cells #[(.slice A0_0 l0_0.length c0_0), .int .i64 a0_1] 65 (0, 0))) ∧ Aside0 (Below w.heap.size w w'))
 case atStart => exact ⟨(a0_1), (0), (by first | rfl | (simp; done) | (simp [*]; done) | (simp [bne_nil_, beq_nil_]; done)), (by first | rfl | (simp; done) | (simp [*]; done) | (simp [bne_nil_, beq_nil_]; done)), H', ⟨Nat.le_refl _⟩, ⟨uB BK417.out⟩, ⟨bH⟩⟩
 case round =>
  clear H'
  try clear c1
  try clear p2
  try clear c4
  try clear hcz4_0
  try clear hcz4_1
  try clear hfz4_0
  try clear hfz4_1
  obtain ⟨x5_1, x6_1, rfl, rfl, HA, HK1, BK417, HB⟩ := hrel
  cases gk with
  | zero => exact absurd HA.out (by simp [furrowref20_value.l0])
  | succ k1 =>
   have H := HA.out
   clear HA
   simp only [furrowref20_value.l0] at H
   by_cases c5 : x6_1 < (l1.length : Int)
   ·rw [if_pos c5] at H
    have c5b0 : decide (x6_1 < (l1.length : Int)) = true := decide_eq_true c5
    clear c5
    by_cases c6 : x6_1 < (l0_0.length : Int)
    ·rw [if_pos c6] at H
     have c6b0 : decide (x6_1 < (l0_0.length : Int)) = true := decide_eq_true c6
     clear c6
     by_cases c7 : 0 ≤ x6_1
     ·rw [if_pos c7] at H
      have c7b0 : decide (0 ≤ x6_1) = true := decide_eq_true c7
      clear c7
      have H' := mk0 H
      clear H
      obtain ⟨hcz8_0, hcz8_1, hfz8_0, hfz8_1⟩ := cL2 BK417
      have p418 : 0 ≤ (x6_1 : Int) := of_decide_eq_true (by first | (with_reducible assumption) | assumption)
      have q418 : x6_1 < (l0_0.length : Int) := of_decide_eq_true (by first | (with_reducible assumption) | assumption)
      obtain ⟨ad418, e418, hx418_0⟩ := Kd.at_int HR0_0.out x6_1 p418 q418
      cases e418
      replace hx418_0 := (HB.out.cell (World.block_lt_of_cell? w _ hx418_0)).trans hx418_0
      replace p418 := eq_true p418
      replace q418 := eq_true q418
      have p419 : 0 ≤ (x6_1 : Int) := of_decide_eq_true (by first | (with_reducible assumption) | assumption)
      have q419 : x6_1 < (l1.length : Int) := of_decide_eq_true (by first | (with_reducible assumption) | assumption)
      obtain ⟨ad419, e419, hx419_0⟩ := Kd.at_int HR1.out x6_1 p419 q419
      cases e419
      replace hx419_0 := (HB.out.cell (World.block_lt_of_cell? w _ hx419_0)).trans hx419_0
      replace p419 := eq_true p419
      replace q419 := eq_true q419
      go_wp2
      repeat (go_quiet (fail); try go_wp2)
      go_roundg k1
      case measure => have := HK1.out; omega
      case rel => exact ⟨(wrap64 (x5_1 + (wrap64 ((rd l0_0 x6_1) * (rd l1 x6_1))))), (wrap64 (x6_1 + 1)), (by first | rfl | (simp; done) | (simp [*]; done) | (simp [bne_nil_, beq_nil_]; done)), (by first | rfl | (simp; done) | (simp [*]; done) | (simp [bne_nil_, beq_nil_]; done)), H', ⟨by have := HK1.out; omega⟩, ⟨uB BK417.out⟩, ⟨bH⟩⟩
     ·rw [if_neg c7] at H
      exact absurd H (by simp)
    ·rw [if_neg c6] at H
     have c6b0 : decide (x6_1 < (l0_0.length : Int)) = false := decide_eq_false c6
     clear c6
     obtain rfl := Option.some.inj H
     obtain ⟨hcz9_0, hcz9_1, hfz9_0, hfz9_1⟩ := cL2 BK417
     go_wp2
     repeat (go_quiet (fail); try go_wp2)
     go_ret
     exact ⟨rE, bH⟩
   ·rw [if_neg c5] at H
    have c5b0 : decide (x6_1 < (l1.length : Int)) = false := decide_eq_false c5
    clear c5
    obtain rfl := Option.some.inj H
    go_wp2
    repeat (go_quiet (fail); try go_wp2)
    go_ret
    exact ⟨rE, bH⟩

/-! ### furrowref20_Holds: function 18 -/
mutual
def furrowref20_Holds.l0 : Nat → List Int → Int → Int → List (S65) → List (S65) → Option (Bool)
 | 0, _, _, _, _, _ => none
 | k + 1, x1, x5, x421000, x421001, x421002 => if x5 < (x421001.length : Int) then (if 0 ≤ x5 then ((furrowref20_value.f k ((rd_T65 x421001 x5).f0) ((rd_T65 x421001 x5).f1) x1).bind fun t422 => (if t422 = 0 then (furrowref20_Holds.l0 k x1 (wrap64 (x5 + 1)) x421000 x421001 x421002) else (some false))) else (none)) else (furrowref20_Holds.l1 k x1 0 x421000 x421001 x421002)
def furrowref20_Holds.l1 : Nat → List Int → Int → Int → List (S65) → List (S65) → Option (Bool)
 | 0, _, _, _, _, _ => none
 | k + 1, x1, x6, x421000, x421001, x421002 => if x6 < (x421002.length : Int) then (if 0 ≤ x6 then ((furrowref20_value.f k ((rd_T65 x421002 x6).f0) ((rd_T65 x421002 x6).f1) x1).bind fun t424 => (if t424 < 0 then (some false) else (furrowref20_Holds.l1 k x1 (wrap64 (x6 + 1)) x421000 x421001 x421002))) else (none)) else (some true)
end
def furrowref20_Holds.f (k : Nat) (a0_0 : Int) (l0_1 : List (S65)) (l0_2 : List (S65)) (l1 : List Int) : Option (Bool) := furrowref20_Holds.l0 k l1 0 a0_0 l0_1 l0_2
theorem furrowref20_Holds.mono_l : ∀ k, (∀ y0 y1 y2 y3 y4, LeO (furrowref20_Holds.l0 k y0 y1 y2 y3 y4) (furrowref20_Holds.l0 (k + 1) y0 y1 y2 y3 y4)) ∧ (∀ y0 y1 y2 y3 y4, LeO (furrowref20_Holds.l1 k y0 y1 y2 y3 y4) (furrowref20_Holds.l1 (k + 1) y0 y1 y2 y3 y4))
 | 0 => ⟨fun _ _ _ _ _ r h => by simp [furrowref20_Holds.l0] at h, fun _ _ _ _ _ r h => by simp [furrowref20_Holds.l1] at h⟩
 | k + 1 => by
  obtain ⟨ih0, ih1⟩ := furrowref20_Holds.mono_l k
  refine ⟨?_, ?_⟩
  ·intro y0 y1 y2 y3 y4
   unfold furrowref20_Holds.l0
   repeat' first
   | (with_reducible exact ih0 _ _ _ _ _)
   | (with_reducible exact ih1 _ _ _ _ _)
   | (with_reducible exact furrowref20_value.mono _ _ _ _)
   | (with_reducible exact LeO.refl _)
   | (with_reducible exact LeO.none _)
   | (with_reducible refine LeO.ite ?_ ?_)
   | (with_reducible refine LeO.bind ?_ (fun _ => ?_))
   | exact ih0 _ _ _ _ _
   | exact ih1 _ _ _ _ _
   | exact furrowref20_value.mono _ _ _ _
   | exact LeO.none _
   | refine LeO.ite ?_ ?_
   | refine LeO.bind ?_ (fun _ => ?_)
  ·intro y0 y1 y2 y3 y4
   unfold furrowref20_Holds.l1
   repeat' first
   | (with_reducible exact ih0 _ _ _ _ _)
   | (with_reducible exact ih1 _ _ _ _ _)
   | (with_reducible exact furrowref20_value.mono _ _ _ _)
   | (with_reducible exact LeO.refl _)
   | (with_reducible exact LeO.none _)
   | (with_reducible refine LeO.ite ?_ ?_)
   | (with_reducible refine LeO.bind ?_ (fun _ => ?_))
   | exact ih0 _ _ _ _ _
   | exact ih1 _ _ _ _ _
   | exact furrowref20_value.mono _ _ _ _
   | exact LeO.none _
   | refine LeO.ite ?_ ?_
   | refine LeO.bind ?_ (fun _ => ?_)
theorem furrowref20_Holds.mono : ∀ a0 a1 a2 a3 k, LeO (furrowref20_Holds.f k a0 a1 a2 a3) (furrowref20_Holds.f (k + 1) a0 a1 a2 a3) := by
 intro a0 a1 a2 a3 k
 obtain ⟨ih0, ih1⟩ := furrowref20_Holds.mono_l k
 unfold furrowref20_Holds.f
 repeat' first
   | (with_reducible exact ih0 _ _ _ _ _)
   | (with_reducible exact ih1 _ _ _ _ _)
   | (with_reducible exact furrowref20_value.mono _ _ _ _)
   | (with_reducible exact LeO.refl _)
   | (with_reducible exact LeO.none _)
   | (with_reducible refine LeO.ite ?_ ?_)
   | (with_reducible refine LeO.bind ?_ (fun _ => ?_))
   | exact ih0 _ _ _ _ _
   | exact ih1 _ _ _ _ _
   | exact furrowref20_value.mono _ _ _ _
   | exact LeO.none _
   | refine LeO.ite ?_ ?_
   | refine LeO.bind ?_ (fun _ => ?_)
set_option maxHeartbeats 8000000 in
set_option maxRecDepth 100000 in
theorem furrowref20_Holds.calls (k : Nat) (a0_0 : Int) (A0_1 : Option Addr) (c0_1 : Nat) (l0_1 : List (S65)) (A0_2 : Option Addr) (c0_2 : Nat) (l0_2 : List (S65)) (A1 : Option Addr) (c1 : Nat) (l1 : List Int) (r : Bool) (w : World) (hr0_1 : Kd.C k65 w A0_1 l0_1.length l0_1) (hc0_1 : l0_1.length ≤ c0_1) (hr0_2 : Kd.C k65 w A0_2 l0_2.length l0_2) (hc0_2 : l0_2.length ≤ c0_2) (hr1 : Kd.C (Kd.int .i64) w A1 l1.length l1) (hc1 : l1.length ≤ c1) (h : furrowref20_Holds.f k a0_0 l0_1 l0_2 l1 = some r) :
  Calls Tryd.prog 18 #[.agg #[.int .i64 a0_0, .slice A0_1 l0_1.length c0_1, .slice A0_2 l0_2.length c0_2], .slice A1 l1.length c1] w fun e w' => e = .returned (.bool r) ∧ Below w.heap.size w w' := by
 have hu34 := Tryd.underlying34
 have hu65 := Tryd.underlying65
 have HR0_1 := mk0 hr0_1
 have HC0_1 := mk0 hc0_1
 clear hr0_1 hc0_1
 have HR0_2 := mk0 hr0_2
 have HC0_2 := mk0 hc0_2
 clear hr0_2 hc0_2
 have HR1 := mk0 hr1
 have HC1 := mk0 hc1
 clear hr1 hc1
 have HB := mk0 (Below.refl w.heap.size w)
 have H : (furrowref20_Holds.l0 k l1 0 a0_0 l0_1 l0_2) = some r := h
 clear h
 have H' := mk0 H
 clear H
 go_enter Tryd.func18, Tryd.ntmps18
 go_wp2_with (first | ((with_reducible refine gate_dst (N := 2) rfl ?_); refine bxE 2 #[.int .i64 a0_0, .slice A0_1 l0_1.length c0_1, .slice A0_2 l0_2.length c0_2] 34 ?_; intro gb420 hg w3 hbox hb; have BK420 := mk0 (hbox); have GW420 := mk0 ((by rw [hg]; exact (below_size (uL HB.out)) : w.heap.size ≤ gb420)); have GE420 := mk0 ((by rw [hg]; exact (below_size (uL HB.out)) : w.heap.size ≤ gb420)); replace HB := hbB (uL HB.out) hb; clear hb hbox hg))
 go_loopg [5] k (fun kq v5 w' => ∃ (x5_1 : Int), v5 = .int .i64 x5_1 ∧ Aside0 (furrowref20_Holds.l0 kq l1 x5_1 a0_0 l0_1 l0_2 = some r) ∧ Aside0 (kq ≤ k) ∧ Aside0 (w'.heap[gb420]? = some (.cells #[.int .i64 a0_0, (.slice A0_1 l0_1.length c0_1), (.slice A0_2 l0_2.length c0_2)] 34 (0, 0))) ∧ Aside0 (Below w.heap.size w w'))
 case atStart => exact ⟨(0), (by first | rfl | (simp; done) | (simp [*]; done) | (simp [bne_nil_, beq_nil_]; done)), H', ⟨Nat.le_refl _⟩, ⟨uB BK420.out⟩, ⟨bH⟩⟩
 case round =>
  clear H'
  try clear c1
  try clear p2
  obtain ⟨x5_1, rfl, HA, HK1, BK420, HB⟩ := hrel
  cases gk with
  | zero => exact absurd HA.out (by simp [furrowref20_Holds.l0])
  | succ k1 =>
   have H := HA.out
   clear HA
   simp only [furrowref20_Holds.l0] at H
   by_cases c4 : x5_1 < (l0_1.length : Int)
   ·rw [if_pos c4] at H
    have c4b0 : decide (x5_1 < (l0_1.length : Int)) = true := decide_eq_true c4
    clear c4
    by_cases c5 : 0 ≤ x5_1
    ·rw [if_pos c5] at H
     have c5b0 : decide (0 ≤ x5_1) = true := decide_eq_true c5
     clear c5
     replace H := Option.bind_eq_some_iff.mp H
     obtain ⟨t422, A60, H⟩ := H
     have A6 := mk0 A60
     clear A60
     by_cases c7 : t422 = 0
     ·rw [if_pos c7] at H
      have c7b0 : (t422 == 0) = true := beq_iff_eq.mpr c7
      have c7b1 : (t422 != 0) = false := bne_eq_false_iff_eq.mpr c7
      clear c7
      have H' := mk0 H
      clear H
      obtain ⟨hcz8_0, hcz8_1, hcz8_2, hfz8_0, hfz8_1, hfz8_2⟩ := cL3 BK420
      have p421 : 0 ≤ (x5_1 : Int) := of_decide_eq_true (by first | (with_reducible assumption) | assumption)
      have q421 : x5_1 < (l0_1.length : Int) := of_decide_eq_true (by first | (with_reducible assumption) | assumption)
      obtain ⟨ad421, A421_0, c421_0, e421, hx421_0, hx421_1, hl421_0, hi421_0⟩ := at_T65 HR0_1.out x5_1 p421 q421
      cases e421
      replace hx421_0 := (HB.out.cell (World.block_lt_of_cell? w _ hx421_0)).trans hx421_0
      replace hx421_1 := (HB.out.cell (World.block_lt_of_cell? w _ hx421_1)).trans hx421_1
      have HR421_0 := mk0 hi421_0
      have HC421_0 := mk0 hl421_0
      clear hi421_0 hl421_0
      replace p421 := eq_true p421
      replace q421 := eq_true q421
      go_wp2_with (first | ((with_reducible refine gate_dst (N := 20) rfl ?_); refine gsM (some 20) Tryd.func47 #[.agg #[.slice A421_0 ((rd_T65 l0_1 x5_1).f0).length c421_0, .int .i64 ((rd_T65 l0_1 x5_1).f1)], .slice A1 l1.length c1] ?_; (with_reducible refine (furrowref20_value.calls k1 _ _ ((rd_T65 l0_1 x5_1).f0) ((rd_T65 l0_1 x5_1).f1) _ _ l1 t422 _ ?side1 ?side2 ?side3 ?side4 A6.out).mono ?_); (case side1 => exact uC (Kd.C_below HR421_0.out HB.out)); (case side2 => exact HC421_0.out); (case side3 => exact uC (Kd.C_below HR1.out HB.out)); (case side4 => exact HC1.out); rintro e w9 ⟨rfl, hb⟩; refine ⟨_, rfl, ?_⟩; replace BK420 := bB BK420 hb; replace HB := hbB bH hb; (try clear hb); (try clear hb2); (try clear hk); (try clear hi)))
      go_roundg k1
      case measure => have := HK1.out; omega
      case rel => exact ⟨(wrap64 (x5_1 + 1)), (by first | rfl | (simp; done) | (simp [*]; done) | (simp [bne_nil_, beq_nil_]; done)), H', ⟨by have := HK1.out; omega⟩, ⟨uB BK420.out⟩, ⟨bH⟩⟩
     ·rw [if_neg c7] at H
      have c7b0 : (t422 == 0) = false := beq_eq_false_iff_ne.mpr c7
      have c7b1 : (t422 != 0) = true := bne_iff_ne.mpr c7
      obtain rfl := Option.some.inj H
      obtain ⟨hcz10_0, hcz10_1, hcz10_2, hfz10_0, hfz10_1, hfz10_2⟩ := cL3 BK420
      have p421 : 0 ≤ (x5_1 : Int) := of_decide_eq_true (by first | (with_reducible assumption) | assumption)
      have q421 : x5_1 < (l0_1.length : Int) := of_decide_eq_true (by first | (with_reducible assumption) | assumption)
      obtain ⟨ad421, A421_0, c421_0, e421, hx421_0, hx421_1, hl421_0, hi421_0⟩ := at_T65 HR0_1.out x5_1 p421 q421
      cases e421
      replace hx421_0 := (HB.out.cell (World.block_lt_of_cell? w _ hx421_0)).trans hx421_0
      replace hx421_1 := (HB.out.cell (World.block_lt_of_cell? w _ hx421_1)).trans hx421_1
      have HR421_0 := mk0 hi421_0
      have HC421_0 := mk0 hl421_0
      clear hi421_0 hl421_0
      replace p421 := eq_true p421
      replace q421 := eq_true q421
      go_wp2_with (first | ((with_reducible refine gate_dst (N := 20) rfl ?_); refine gsM (some 20) Tryd.func47 #[.agg #[.slice A421_0 ((rd_T65 l0_1 x5_1).f0).length c421_0, .int .i64 ((rd_T65 l0_1 x5_1).f1)], .slice A1 l1.length c1] ?_; (with_reducible refine (furrowref20_value.calls k1 _ _ ((rd_T65 l0_1 x5_1).f0) ((rd_T65 l0_1 x5_1).f1) _ _ l1 t422 _ ?side1 ?side2 ?side3 ?side4 A6.out).mono ?_); (case side1 => exact uC (Kd.C_below HR421_0.out HB.out)); (case side2 => exact HC421_0.out); (case side3 => exact uC (Kd.C_below HR1.out HB.out)); (case side4 => exact HC1.out); rintro e w11 ⟨rfl, hb⟩; refine ⟨_, rfl, ?_⟩; replace BK420 := bB BK420 hb; replace HB := hbB bH hb; (try clear hb); (try clear hb2); (try clear hk); (try clear hi)))
      go_ret
      exact ⟨rE, bH⟩
    ·rw [if_neg c5] at H
     exact absurd H (by simp)
   ·rw [if_neg c4] at H
    have c4b0 : decide (x5_1 < (l0_1.length : Int)) = false := decide_eq_false c4
    clear c4
    have H' := mk0 H
    clear H
    obtain ⟨hcz12_0, hcz12_1, hcz12_2, hfz12_0, hfz12_1, hfz12_2⟩ := cL3 BK420
    go_wp2
    go_loopg [6] k1 (fun kq v6 w' => ∃ (x6_2 : Int), v6 = .int .i64 x6_2 ∧ Aside0 (furrowref20_Holds.l1 kq l1 x6_2 a0_0 l0_1 l0_2 = some r) ∧ Aside0 (kq ≤ k1) ∧ Aside0 (w'.heap[gb420]? = some (.cells #[.int .i64 a0_0, (.slice A0_1 l0_1.length c0_1), (.slice A0_2 l0_2.length c0_2)] 34 (0, 0))) ∧ Aside0 (Below w.heap.size w w'))
    case atStart => exact ⟨(0), (by first | rfl | (simp; done) | (simp [*]; done) | (simp [bne_nil_, beq_nil_]; done)), H', ⟨Nat.le_refl _⟩, ⟨uB BK420.out⟩, ⟨bH⟩⟩
    case round =>
     clear H'
     try clear c1
     try clear p2
     try clear c4
     try clear c4b0
     try clear p4
     try clear q4
     try clear hx4
     try clear c5
     try clear c5b0
     try clear p6
     try clear c7
     try clear c7b0
     try clear c7b1
     try clear hcz10_0
     try clear hcz10_1
     try clear hcz10_2
     try clear hcz12_0
     try clear hcz12_1
     try clear hcz12_2
     try clear hcz8_0
     try clear hcz8_1
     try clear hcz8_2
     try clear hfz10_0
     try clear hfz10_1
     try clear hfz10_2
     try clear hfz12_0
     try clear hfz12_1
     try clear hfz12_2
     try clear hfz8_0
     try clear hfz8_1
     try clear hfz8_2
     try clear hx421_0
     try clear hx421_1
     try clear p2
     try clear p421
     try clear q421
     obtain ⟨x6_2, rfl, HA, HK2, BK420, HB⟩ := hrel
     cases gk with
     | zero => exact absurd HA.out (by simp [furrowref20_Holds.l1])
     | succ k2 =>
      have H := HA.out
      clear HA
      simp only [furrowref20_Holds.l1] at H
      by_cases c13 : x6_2 < (l0_2.length : Int)
      ·rw [if_pos c13] at H
       have c13b0 : decide (x6_2 < (l0_2.length : Int)) = true := decide_eq_true c13
       clear c13
       by_cases c14 : 0 ≤ x6_2
       ·rw [if_pos c14] at H
        have c14b0 : decide (0 ≤ x6_2) = true := decide_eq_true c14
        clear c14
        replace H := Option.bind_eq_some_iff.mp H
        obtain ⟨t424, A150, H⟩ := H
        have A15 := mk0 A150
        clear A150
        by_cases c16 : t424 < 0
        ·rw [if_pos c16] at H
         have c16b0 : decide (t424 < 0) = true := decide_eq_true c16
         clear c16
         obtain rfl := Option.some.inj H
         obtain ⟨hcz17_0, hcz17_1, hcz17_2, hfz17_0, hfz17_1, hfz17_2⟩ := cL3 BK420
         have p423 : 0 ≤ (x6_2 : Int) := of_decide_eq_true (by first | (with_reducible assumption) | assumption)
         have q423 : x6_2 < (l0_2.length : Int) := of_decide_eq_true (by first | (with_reducible assumption) | assumption)
         obtain ⟨ad423, A423_0, c423_0, e423, hx423_0, hx423_1, hl423_0, hi423_0⟩ := at_T65 HR0_2.out x6_2 p423 q423
         cases e423
         replace hx423_0 := (HB.out.cell (World.block_lt_of_cell? w _ hx423_0)).trans hx423_0
         replace hx423_1 := (HB.out.cell (World.block_lt_of_cell? w _ hx423_1)).trans hx423_1
         have HR423_0 := mk0 hi423_0
         have HC423_0 := mk0 hl423_0
         clear hi423_0 hl423_0
         replace p423 := eq_true p423
         replace q423 := eq_true q423
         go_wp2_with (first | ((with_reducible refine gate_dst (N := 35) rfl ?_); refine gsM (some 35) Tryd.func47 #[.agg #[.slice A423_0 ((rd_T65 l0_2 x6_2).f0).length c423_0, .int .i64 ((rd_T65 l0_2 x6_2).f1)], .slice A1 l1.length c1] ?_; (with_reducible refine (furrowref20_value.calls k2 _ _ ((rd_T65 l0_2 x6_2).f0) ((rd_T65 l0_2 x6_2).f1) _ _ l1 t424 _ ?side1 ?side2 ?side3 ?side4 A15.out).mono ?_); (case side1 => exact uC (Kd.C_below HR423_0.out HB.out)); (case side2 => exact HC423_0.out); (case side3 => exact uC (Kd.C_below HR1.out HB.out)); (case side4 => exact HC1.out); rintro e w18 ⟨rfl, hb⟩; refine ⟨_, rfl, ?_⟩; replace BK420 := bB BK420 hb; replace HB := hbB bH hb; (try clear hb); (try clear hb2); (try clear hk); (try clear hi)))
         go_ret
         exact ⟨rE, bH⟩
        ·rw [if_neg c16] at H
         have c16b0 : decide (t424 < 0) = false := decide_eq_false c16
         clear c16
         have H' := mk0 H
         clear H
         obtain ⟨hcz19_0, hcz19_1, hcz19_2, hfz19_0, hfz19_1, hfz19_2⟩ := cL3 BK420
         have p423 : 0 ≤ (x6_2 : Int) := of_decide_eq_true (by first | (with_reducible assumption) | assumption)
         have q423 : x6_2 < (l0_2.length : Int) := of_decide_eq_true (by first | (with_reducible assumption) | assumption)
         obtain ⟨ad423, A423_0, c423_0, e423, hx423_0, hx423_1, hl423_0, hi423_0⟩ := at_T65 HR0_2.out x6_2 p423 q423
         cases e423
         replace hx423_0 := (HB.out.cell (World.block_lt_of_cell? w _ hx423_0)).trans hx423_0
         replace hx423_1 := (HB.out.cell (World.block_lt_of_cell? w _ hx423_1)).trans hx423_1
         have HR423_0 := mk0 hi423_0
         have HC423_0 := mk0 hl423_0
         clear hi423_0 hl423_0
         replace p423 := eq_true p423
         replace q423 := eq_true q423
         go_wp2_with (first | ((with_reducible refine gate_dst (N := 35) rfl ?_); refine gsM (some 35) Tryd.func47 #[.agg #[.slice A423_0 ((rd_T65 l0_2 x6_2).f0).length c423_0, .int .i64 ((rd_T65 l0_2 x6_2).f1)], .slice A1 l1.length c1] ?_; (with_reducible refine (furrowref20_value.calls k2 _ _ ((rd_T65 l0_2 x6_2).f0) ((rd_T65 l0_2 x6_2).f1) _ _ l1 t424 _ ?side1 ?side2 ?side3 ?side4 A15.out).mono ?_); (case side1 => exact uC (Kd.C_below HR423_0.out HB.out)); (case side2 => exact HC423_0.out); (case side3 => exact uC (Kd.C_below HR1.out HB.out)); (case side4 => exact HC1.out); rintro e w20 ⟨rfl, hb⟩; refine ⟨_, rfl, ?_⟩; replace BK420 := bB BK420 hb; replace HB := hbB bH hb; (try clear hb); (try clear hb2); (try clear hk); (try clear hi)))
         go_roundg k2
         case measure => have := HK1.out; have := HK2.out; omega
         case rel => exact ⟨(wrap64 (x6_2 + 1)), (by first | rfl | (simp; done) | (simp [*]; done) | (simp [bne_nil_, beq_nil_]; done)), H', ⟨by have := HK1.out; have := HK2.out; omega⟩, ⟨uB BK420.out⟩, ⟨bH⟩⟩
       ·rw [if_neg c14] at H
        exact absurd H (by simp)
      ·rw [if_neg c13] at H
       have c13b0 : decide (x6_2 < (l0_2.length : Int)) = false := decide_eq_false c13
       clear c13
       obtain rfl := Option.some.inj H
       obtain ⟨hcz21_0, hcz21_1, hcz21_2, hfz21_0, hfz21_1, hfz21_2⟩ := cL3 BK420
       go_wp2
       go_ret
       exact ⟨rE, bH⟩

end Go.Proofs.YtkkpgjkjkcmcbaaDoor.X
