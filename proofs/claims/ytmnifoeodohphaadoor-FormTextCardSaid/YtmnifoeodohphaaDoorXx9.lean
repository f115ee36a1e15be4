-- PRINTED by print.py (a twelfth state) out of the translation. Not trusted: Lean checks it.
import Derived.Test.YtmnifoeodohphaaDoorXx0
import Derived.Test.YtmnifoeodohphaaDoorXx8
namespace Go.Proofs.YtmnifoeodohphaaDoor.X
open Go.Proofs.YtmnifoeodohphaaDoor.Flt Go.Proofs.YtmnifoeodohphaaDoor.H Go.RowKit Go.Proofs.YtmnifoeodohphaaDoorW.PrintWords Go.Proofs.YtmnifoeodohphaaDoorW.PrintLast Go.Proofs.YtmnifoeodohphaaDoorW.PrintMore
attribute [local go_sem] max2_int min2_int max_two min_two max_three min_three max_four min_four   -- for this text's walks alone
set_option linter.unusedVariables false
set_option linter.unusedSimpArgs false

/-! ### furrowref14_Text: function 28 -/
mutual
def furrowref14_Text.l0 : Nat → List ByteArray → ByteArray → Int → List Int → Int → Option (ByteArray)
 | 0, _, _, _, _, _ => none
 | k + 1, x1, x5, x6, x532000, x532001 => if x6 < (x532000.length : Int) then (if 0 ≤ x6 then (if (rd x532000 x6) = 0 then (furrowref14_Text.l0 k x1 x5 (wrap64 (x6 + 1)) x532000 x532001) else ((furrowref4_Decimal.f k x6).bind fun t533 => (if 1 + t533.size ≤ 9223372036854775807 then (if x6 < (x1.length : Int) then (furrowref14_Text.j1 k x1 x5 x6 ((⟨#[120]⟩ : ByteArray) ++ t533) ((rdOf ByteArray.empty x1 x6).toList != ([] : List UInt8)) x532000 x532001) else (furrowref14_Text.j1 k x1 x5 x6 ((⟨#[120]⟩ : ByteArray) ++ t533) false x532000 x532001)) else (none)))) else (none)) else (if x532001 = 0 then (furrowref14_Text.j4 k x5 (x5.toList == ([] : List UInt8)) x532000 x532001) else (furrowref14_Text.j4 k x5 true x532000 x532001))
def furrowref14_Text.j1 : Nat → List ByteArray → ByteArray → Int → ByteArray → Bool → List Int → Int → Option (ByteArray)
 | 0, _, _, _, _, _, _, _ => none
 | k + 1, x1, x5, x6, x7, x34, x532000, x532001 => if x34 = true then (if 0 ≤ x6 then (if x6 < (x1.length : Int) then (furrowref14_Text.j2 k x1 x5 x6 (rdOf ByteArray.empty x1 x6) x532000 x532001) else (none)) else (none)) else (furrowref14_Text.j2 k x1 x5 x6 x7 x532000 x532001)
def furrowref14_Text.j2 : Nat → List ByteArray → ByteArray → Int → ByteArray → List Int → Int → Option (ByteArray)
 | 0, _, _, _, _, _, _ => none
 | k + 1, x1, x5, x6, x7, x532000, x532001 => if 0 ≤ x6 then (if x6 < (x532000.length : Int) then (if (rd x532000 x6) = 1 then (furrowref14_Text.j3 k x1 x5 x6 x7 false x532000 x532001) else (furrowref14_Text.j3 k x1 x5 x6 x7 ((rd x532000 x6) != (-1)) x532000 x532001)) else (none)) else (none)
def furrowref14_Text.j3 : Nat → List ByteArray → ByteArray → Int → ByteArray → Bool → List Int → Int → Option (ByteArray)
 | 0, _, _, _, _, _, _, _ => none
 | k + 1, x1, x5, x6, x7, x52, x532000, x532001 => if x52 = true then (if 0 ≤ x6 then (if x6 < (x532000.length : Int) then ((furrowref14_size.f k (rd x532000 x6)).bind fun t539 => (if t539.size + 1 ≤ 9223372036854775807 then (if (t539 ++ (⟨#[42]⟩ : ByteArray)).size + x7.size ≤ 9223372036854775807 then ((furrowref14_put.f k x5 (decide ((rd x532000 x6) < 0)) ((t539 ++ (⟨#[42]⟩ : ByteArray)) ++ x7)).bind fun t541 => (furrowref14_Text.l0 k x1 t541 (wrap64 (x6 + 1)) x532000 x532001)) else (none)) else (none))) else (none)) else (none)) else (if 0 ≤ x6 then (if x6 < (x532000.length : Int) then ((furrowref14_put.f k x5 (decide ((rd x532000 x6) < 0)) x7).bind fun t543 => (furrowref14_Text.l0 k x1 t543 (wrap64 (x6 + 1)) x532000 x532001)) else (none)) else (none))
def furrowref14_Text.j4 : Nat → ByteArray → Bool → List Int → Int → Option (ByteArray)
 | 0, _, _, _, _ => none
 | k + 1, x5, x77, x532000, x532001 => if x77 = true then ((furrowref14_size.f k x532001).bind fun t544 => ((furrowref14_put.f k x5 (decide (x532001 < 0)) t544).bind fun t545 => (some t545))) else (some x5)
end
def furrowref14_Text.f (k : Nat) (l0_0 : List Int) (a0_1 : Int) (l1 : List ByteArray) : Option (ByteArray) := furrowref14_Text.l0 k l1 (⟨#[]⟩ : ByteArray) 0 l0_0 a0_1
theorem furrowref14_Text.mono_l : ∀ k, (∀ y0 y1 y2 y3 y4, LeO (furrowref14_Text.l0 k y0 y1 y2 y3 y4) (furrowref14_Text.l0 (k + 1) y0 y1 y2 y3 y4)) ∧ (∀ y0 y1 y2 y3 y4 y5 y6, LeO (furrowref14_Text.j1 k y0 y1 y2 y3 y4 y5 y6) (furrowref14_Text.j1 (k + 1) y0 y1 y2 y3 y4 y5 y6)) ∧ (∀ y0 y1 y2 y3 y4 y5, LeO (furrowref14_Text.j2 k y0 y1 y2 y3 y4 y5) (furrowref14_Text.j2 (k + 1) y0 y1 y2 y3 y4 y5)) ∧ (∀ y0 y1 y2 y3 y4 y5 y6, LeO (furrowref14_Text.j3 k y0 y1 y2 y3 y4 y5 y6) (furrowref14_Text.j3 (k + 1) y0 y1 y2 y3 y4 y5 y6)) ∧ (∀ y0 y1 y2 y3, LeO (furrowref14_Text.j4 k y0 y1 y2 y3) (furrowref14_Text.j4 (k + 1) y0 y1 y2 y3))
 | 0 => ⟨fun _ _ _ _ _ r h => by simp [furrowref14_Text.l0] at h, fun _ _ _ _ _ _ _ r h => by simp [furrowref14_Text.j1] at h, fun _ _ _ _ _ _ r h => by simp [furrowref14_Text.j2] at h, fun _ _ _ _ _ _ _ r h => by simp [furrowref14_Text.j3] at h, fun _ _ _ _ r h => by simp [furrowref14_Text.j4] at h⟩
 | k + 1 => by
  obtain ⟨ih0, ih1, ih2, ih3, ih4⟩ := furrowref14_Text.mono_l k
  refine ⟨?_, ?_, ?_, ?_, ?_⟩
  ·intro y0 y1 y2 y3 y4
   unfold furrowref14_Text.l0
   repeat' first
   | (with_reducible exact ih0 _ _ _ _ _)
   | (with_reducible exact ih1 _ _ _ _ _ _ _)
   | (with_reducible exact ih2 _ _ _ _ _ _)
   | (with_reducible exact ih3 _ _ _ _ _ _ _)
   | (with_reducible exact ih4 _ _ _ _)
   | (with_reducible exact furrowref14_put.mono _ _ _ _)
   | (with_reducible exact furrowref14_size.mono _ _)
   | (with_reducible exact furrowref4_Decimal.mono _ _)
   | (with_reducible exact LeO.refl _)
   | (with_reducible exact LeO.none _)
   | (with_reducible refine LeO.ite ?_ ?_)
   | (with_reducible refine LeO.bind ?_ (fun _ => ?_))
   | exact ih0 _ _ _ _ _
   | exact ih1 _ _ _ _ _ _ _
   | exact ih2 _ _ _ _ _ _
   | exact ih3 _ _ _ _ _ _ _
   | exact ih4 _ _ _ _
   | exact furrowref14_put.mono _ _ _ _
   | exact furrowref14_size.mono _ _
   | exact furrowref4_Decimal.mono _ _
   | exact LeO.none _
   | refine LeO.ite ?_ ?_
   | refine LeO.bind ?_ (fun _ => ?_)
  ·intro y0 y1 y2 y3 y4 y5 y6
   unfold furrowref14_Text.j1
   repeat' first
   | (with_reducible exact ih0 _ _ _ _ _)
   | (with_reducible exact ih1 _ _ _ _ _ _ _)
   | (with_reducible exact ih2 _ _ _ _ _ _)
   | (with_reducible exact ih3 _ _ _ _ _ _ _)
   | (with_reducible exact ih4 _ _ _ _)
   | (with_reducible exact furrowref14_put.mono _ _ _ _)
   | (with_reducible exact furrowref14_size.mono _ _)
   | (with_reducible exact furrowref4_Decimal.mono _ _)
   | (with_reducible exact LeO.refl _)
   | (with_reducible exact LeO.none _)
   | (with_reducible refine LeO.ite ?_ ?_)
   | (with_reducible refine LeO.bind ?_ (fun _ => ?_))
   | exact ih0 _ _ _ _ _
   | exact ih1 _ _ _ _ _ _ _
   | exact ih2 _ _ _ _ _ _
   | exact ih3 _ _ _ _ _ _ _
   | exact ih4 _ _ _ _
   | exact furrowref14_put.mono _ _ _ _
   | exact furrowref14_size.mono _ _
   | exact furrowref4_Decimal.mono _ _
   | exact LeO.none _
   | refine LeO.ite ?_ ?_
   | refine LeO.bind ?_ (fun _ => ?_)
  ·intro y0 y1 y2 y3 y4 y5
   unfold furrowref14_Text.j2
   repeat' first
   | (with_reducible exact ih0 _ _ _ _ _)
   | (with_reducible exact ih1 _ _ _ _ _ _ _)
   | (with_reducible exact ih2 _ _ _ _ _ _)
   | (with_reducible exact ih3 _ _ _ _ _ _ _)
   | (with_reducible exact ih4 _ _ _ _)
   | (with_reducible exact furrowref14_put.mono _ _ _ _)
   | (with_reducible exact furrowref14_size.mono _ _)
   | (with_reducible exact furrowref4_Decimal.mono _ _)
   | (with_reducible exact LeO.refl _)
   | (with_reducible exact LeO.none _)
   | (with_reducible refine LeO.ite ?_ ?_)
   | (with_reducible refine LeO.bind ?_ (fun _ => ?_))
   | exact ih0 _ _ _ _ _
   | exact ih1 _ _ _ _ _ _ _
   | exact ih2 _ _ _ _ _ _
   | exact ih3 _ _ _ _ _ _ _
   | exact ih4 _ _ _ _
   | exact furrowref14_put.mono _ _ _ _
   | exact furrowref14_size.mono _ _
   | exact furrowref4_Decimal.mono _ _
   | exact LeO.none _
   | refine LeO.ite ?_ ?_
   | refine LeO.bind ?_ (fun _ => ?_)
  ·intro y0 y1 y2 y3 y4 y5 y6
   unfold furrowref14_Text.j3
   repeat' first
   | (with_reducible exact ih0 _ _ _ _ _)
   | (with_reducible exact ih1 _ _ _ _ _ _ _)
   | (with_reducible exact ih2 _ _ _ _ _ _)
   | (with_reducible exact ih3 _ _ _ _ _ _ _)
   | (with_reducible exact ih4 _ _ _ _)
   | (with_reducible exact furrowref14_put.mono _ _ _ _)
   | (with_reducible exact furrowref14_size.mono _ _)
   | (with_reducible exact furrowref4_Decimal.mono _ _)
   | (with_reducible exact LeO.refl _)
   | (with_reducible exact LeO.none _)
   | (with_reducible refine LeO.ite ?_ ?_)
   | (with_reducible refine LeO.bind ?_ (fun _ => ?_))
   | exact ih0 _ _ _ _ _
   | exact ih1 _ _ _ _ _ _ _
   | exact ih2 _ _ _ _ _ _
   | exact ih3 _ _ _ _ _ _ _
   | exact ih4 _ _ _ _
   | exact furrowref14_put.mono _ _ _ _
   | exact furrowref14_size.mono _ _
   | exact furrowref4_Decimal.mono _ _
   | exact LeO.none _
   | refine LeO.ite ?_ ?_
   | refine LeO.bind ?_ (fun _ => ?_)
  ·intro y0 y1 y2 y3
   unfold furrowref14_Text.j4
   repeat' first
   | (with_reducible exact ih0 _ _ _ _ _)
   | (with_reducible exact ih1 _ _ _ _ _ _ _)
   | (with_reducible exact ih2 _ _ _ _ _ _)
   | (with_reducible exact ih3 _ _ _ _ _ _ _)
   | (with_reducible exact ih4 _ _ _ _)
   | (with_reducible exact furrowref14_put.mono _ _ _ _)
   | (with_reducible exact furrowref14_size.mono _ _)
   | (with_reducible exact furrowref4_Decimal.mono _ _)
   | (with_reducible exact LeO.refl _)
   | (with_reducible exact LeO.none _)
   | (with_reducible refine LeO.ite ?_ ?_)
   | (with_reducible refine LeO.bind ?_ (fun _ => ?_))
   | exact ih0 _ _ _ _ _
   | exact ih1 _ _ _ _ _ _ _
   | exact ih2 _ _ _ _ _ _
   | exact ih3 _ _ _ _ _ _ _
   | exact ih4 _ _ _ _
   | exact furrowref14_put.mono _ _ _ _
   | exact furrowref14_size.mono _ _
   | exact furrowref4_Decimal.mono _ _
   | exact LeO.none _
   | refine LeO.ite ?_ ?_
   | refine LeO.bind ?_ (fun _ => ?_)
theorem furrowref14_Text.mono : ∀ a0 a1 a2 k, LeO (furrowref14_Text.f k a0 a1 a2) (furrowref14_Text.f (k + 1) a0 a1 a2) := by
 intro a0 a1 a2 k
 obtain ⟨ih0, ih1, ih2, ih3, ih4⟩ := furrowref14_Text.mono_l k
 unfold furrowref14_Text.f
 repeat' first
   | (with_reducible exact ih0 _ _ _ _ _)
   | (with_reducible exact ih1 _ _ _ _ _ _ _)
   | (with_reducible exact ih2 _ _ _ _ _ _)
   | (with_reducible exact ih3 _ _ _ _ _ _ _)
   | (with_reducible exact ih4 _ _ _ _)
   | (with_reducible exact furrowref14_put.mono _ _ _ _)
   | (with_reducible exact furrowref14_size.mono _ _)
   | (with_reducible exact furrowref4_Decimal.mono _ _)
   | (with_reducible exact LeO.refl _)
   | (with_reducible exact LeO.none _)
   | (with_reducible refine LeO.ite ?_ ?_)
   | (with_reducible refine LeO.bind ?_ (fun _ => ?_))
   | exact ih0 _ _ _ _ _
   | exact ih1 _ _ _ _ _ _ _
   | exact ih2 _ _ _ _ _ _
   | exact ih3 _ _ _ _ _ _ _
   | exact ih4 _ _ _ _
   | exact furrowref14_put.mono _ _ _ _
   | exact furrowref14_size.mono _ _
   | exact furrowref4_Decimal.mono _ _
   | exact LeO.none _
   | refine LeO.ite ?_ ?_
   | refine LeO.bind ?_ (fun _ => ?_)
def furrowref14_Text.T13 : Bool × List (List Nat × List Nat) := (true, [([], []), ([], []), ([1], [1]), ([2], [2]), ([], []), ([4], [4]), ([5], [5]), ([0, 3, 6, 6], [0, 3, 6]), ([7, 7, 0, 1, 2, 3, 4, 5, 6, 7], [0, 7])])
def furrowref14_Text.B13 : List Nat := [0, 0, 2, 6, 0, 16, 48, 127, 255]
theorem furrowref14_Text.tab13 : rtab .any (opsOf Tryd.f28 13) = furrowref14_Text.T13 := by kernel_rfl
theorem furrowref14_Text.bits13 : waitsOk furrowref14_Text.T13.2 furrowref14_Text.B13 = true := by kernel_rfl
set_option maxHeartbeats 8000000 in
set_option maxRecDepth 100000 in
theorem furrowref14_Text.calls (k : Nat) (A0_0 : Option Addr) (c0_0 : Nat) (l0_0 : List Int) (a0_1 : Int) (A1 : Option Addr) (c1 : Nat) (l1 : List ByteArray) (r : ByteArray) (w : World) (hr0_0 : Kd.C (Kd.int .i64) w A0_0 l0_0.length l0_0) (hc0_0 : l0_0.length ≤ c0_0) (hr1 : Kd.C Kd.string w A1 l1.length l1) (hc1 : l1.length ≤ c1) (h : furrowref14_Text.f k l0_0 a0_1 l1 = some r) :
  Calls Tryd.prog 28 #[.agg #[.slice A0_0 l0_0.length c0_0, .int .i64 a0_1], .slice A1 l1.length c1] w fun e w' => e = .returned (.string r) ∧ Below w.heap.size w w' := by
 have hu31 := Tryd.underlying31
 have HR0_0 := mk0 hr0_0
 have HC0_0 := mk0 hc0_0
 clear hr0_0 hc0_0
 have HR1 := mk0 hr1
 have HC1 := mk0 hc1
 clear hr1 hc1
 have HB := mk0 (Below.refl w.heap.size w)
 have H : (furrowref14_Text.l0 k l1 (⟨#[]⟩ : ByteArray) 0 l0_0 a0_1) = some r := h
 clear h
 have H' := mk0 H
 clear H
 go_enter Tryd.func28, Tryd.ntmps28
 go_wp2_with (first | ((with_reducible refine gate_dst (N := 2) rfl ?_); refine box_event ?hg (N := 2) ?hd (cs := #[.slice A0_0 l0_0.length c0_0, .int .i64 a0_1]) (t := 31) ?hr ?_; (case hd => rfl); (case hg => rfl); (case hr => first | (go_simp; done) | (go_simp; rfl)); intro gb531 hg w3 hbox hb; have n0_ := mk0 (below_step (uL HB.out) hb); have n1_ := mk0 (hbox); have n2_ := mk0 ((by rw [hg]; exact (below_size (uL HB.out)) : w.heap.size ≤ gb531)); have n3_ := mk0 ((by rw [hg]; exact (below_size (uL HB.out)) : w.heap.size ≤ gb531)); clear HB; have HB := n0_; have BK531 := n1_; have GW531 := n2_; have GE531 := n3_; clear n0_ n1_ n2_ n3_; clear hb hbox hg))
 go_loopg [5, 6] k (fun kq v5 v6 w' => ∃ (x5_1 : ByteArray) (x6_1 : Int), v5 = .string x5_1 ∧ v6 = .int .i64 x6_1 ∧ Aside0 (furrowref14_Text.l0 kq l1 x5_1 x6_1 l0_0 a0_1 = some r) ∧ Aside0 (kq ≤ k) ∧ Aside0 (w'.heap[gb531]? = some (.cells #[(.slice A0_0 l0_0.length c0_0), .int .i64 a0_1] 31 (0, 0))) ∧ Aside0 (Below w.heap.size w w'))
 case atStart => exact ⟨((⟨#[]⟩ : ByteArray)), (0), (by first | rfl | (simp; done) | (simp [*]; done) | (simp [bne_nil_, beq_nil_]; done)), (by first | rfl | (simp; done) | (simp [*]; done) | (simp [bne_nil_, beq_nil_]; done)), H', ⟨Nat.le_refl _⟩, ⟨uB BK531.out⟩, ⟨by repeat (first | (with_reducible first | exact HB.out | apply bA | apply bN | apply bD | refine bS ?_ (by assumption)) | exact HB.out)⟩⟩
 case round =>
  clear H'
  try clear c1
  try clear c2
  try clear p2
  obtain ⟨x5_1, x6_1, rfl, rfl, HA, HK1, BK531, HB⟩ := hrel
  cases gk with
  | zero => exact absurd HA.out (by simp [furrowref14_Text.l0])
  | succ k1 =>
   have H := HA.out
   clear HA
   simp only [furrowref14_Text.l0] at H
   by_cases c4 : x6_1 < (l0_0.length : Int)
   ·rw [if_pos c4] at H
    have c4b0 : decide (x6_1 < (l0_0.length : Int)) = true := decide_eq_true c4
    clear c4
    by_cases c5 : 0 ≤ x6_1
    ·rw [if_pos c5] at H
     have c5b0 : decide (0 ≤ x6_1) = true := decide_eq_true c5
     clear c5
     by_cases c6 : (rd l0_0 x6_1) = 0
     ·rw [if_pos c6] at H
      have c6b0 : ((rd l0_0 x6_1) == 0) = true := beq_iff_eq.mpr c6
      have c6b1 : ((rd l0_0 x6_1) != 0) = false := bne_eq_false_iff_eq.mpr c6
      clear c6
      have H' := mk0 H
      clear H
      have hcz7_0 : wr.cell? ⟨gb531, 0, none⟩ = some (.slice A0_0 l0_0.length c0_0) := (blk_cell BK531.out 0).trans rfl
      have hcz7_1 : wr.cell? ⟨gb531, 1, none⟩ = some (.int .i64 a0_1) := (blk_cell BK531.out 1).trans rfl
      have hfz7_0 := blk_frozen BK531.out 0
      have hfz7_1 := blk_frozen BK531.out 1
      have p532 : 0 ≤ (x6_1 : Int) := of_decide_eq_true (by first | (with_reducible assumption) | assumption)
      have q532 : x6_1 < (l0_0.length : Int) := of_decide_eq_true (by first | (with_reducible assumption) | assumption)
      obtain ⟨ad532, e532, hx532_0⟩ := Kd.at_int HR0_0.out x6_1 p532 q532
      cases e532
      replace hx532_0 := (HB.out.cell (World.block_lt_of_cell? w _ hx532_0)).trans hx532_0
      replace p532 := eq_true p532
      replace q532 := eq_true q532
      go_wp2
      go_roundg k1
      case measure => have := HK1.out; omega
      case rel => exact ⟨(x5_1), (wrap64 (x6_1 + 1)), (by first | rfl | (simp; done) | (simp [*]; done) | (simp [bne_nil_, beq_nil_]; done)), (by first | rfl | (simp; done) | (simp [*]; done) | (simp [bne_nil_, beq_nil_]; done)), H', ⟨by have := HK1.out; omega⟩, ⟨uB BK531.out⟩, ⟨by repeat (first | (with_reducible first | exact HB.out | apply bA | apply bN | apply bD | refine bS ?_ (by assumption)) | exact HB.out)⟩⟩
     ·rw [if_neg c6] at H
      have c6b0 : ((rd l0_0 x6_1) == 0) = false := beq_eq_false_iff_ne.mpr c6
      have c6b1 : ((rd l0_0 x6_1) != 0) = true := bne_iff_ne.mpr c6
      replace H := Option.bind_eq_some_iff.mp H
      obtain ⟨t533, A80, H⟩ := H
      replace H : (if 1 + t533.size ≤ 9223372036854775807 then (if x6_1 < (l1.length : Int) then (furrowref14_Text.j1 k1 l1 x5_1 x6_1 ((⟨#[120]⟩ : ByteArray) ++ t533) ((rdOf ByteArray.empty l1 x6_1).toList != ([] : List UInt8)) l0_0 a0_1) else (furrowref14_Text.j1 k1 l1 x5_1 x6_1 ((⟨#[120]⟩ : ByteArray) ++ t533) false l0_0 a0_1)) else (none)) = some r := H
      have A8 := mk0 A80
      clear A80
      by_cases c9 : 1 + t533.size ≤ 9223372036854775807
      ·rw [if_pos c9] at H
       have c9b0 := eq_true c9
       have c9b1 : decide (1 + t533.size ≤ 9223372036854775807) = true := decide_eq_true c9
       try have c9b2 : (9223372036854775807 < 1 + t533.size) = False := eq_false (Nat.not_lt.2 c9)
       have HC10 := mk0 H
       clear H
       have hcz11_0 : wr.cell? ⟨gb531, 0, none⟩ = some (.slice A0_0 l0_0.length c0_0) := (blk_cell BK531.out 0).trans rfl
       have hcz11_1 : wr.cell? ⟨gb531, 1, none⟩ = some (.int .i64 a0_1) := (blk_cell BK531.out 1).trans rfl
       have hfz11_0 := blk_frozen BK531.out 0
       have hfz11_1 := blk_frozen BK531.out 1
       have p532 : 0 ≤ (x6_1 : Int) := of_decide_eq_true (by first | (with_reducible assumption) | assumption)
       have q532 : x6_1 < (l0_0.length : Int) := of_decide_eq_true (by first | (with_reducible assumption) | assumption)
       obtain ⟨ad532, e532, hx532_0⟩ := Kd.at_int HR0_0.out x6_1 p532 q532
       cases e532
       replace hx532_0 := (HB.out.cell (World.block_lt_of_cell? w _ hx532_0)).trans hx532_0
       replace p532 := eq_true p532
       replace q532 := eq_true q532
       go_upto_region 7 with (first | ((with_reducible refine gate_callee (f := 47) rfl ?_); refine goesL_ (some 22) rfl rfl Tryd.func47 (by kernel_rfl) rfl #[.int .i64 x6_1] rfl (by (try simp only [List.map_toArray, List.map_cons, List.map_nil]); first | done | rfl | (simp only [List.length_drop, List.length_take]; rfl)) ?_; (with_reducible refine (furrowref4_Decimal.calls k1 x6_1 t533 _ A8.out).mono ?_); rintro e w12 ⟨rfl, hb⟩; refine ⟨_, rfl, ?_⟩; have n0_ := mk0 (blk_below (g := gb531) (o := .cells #[.slice (some ad532) l0_0.length c0_0, .int .i64 a0_1] 31 (0, 0)) (uB BK531.out) hb); have n1_ := mk0 (below_step (by repeat (first | (with_reducible first | exact HB.out | apply bA | apply bN | apply bD | refine bS ?_ (by assumption)) | exact HB.out)) hb); clear BK531; clear HB; have BK531 := n0_; have HB := n1_; clear n0_ n1_; (try clear hb); (try clear hb2); (try clear hk); (try clear hi)))
       (try simp only [Act.put, List.setIfInBounds_toArray, List.set_cons_zero, List.set_cons_succ])
       go_cut [34] (fun v34 wc => ∃ (kq : Nat) (x34_9 : Bool), v34 = .bool x34_9 ∧ Aside0 (furrowref14_Text.j1 kq l1 x5_1 x6_1 ((⟨#[120]⟩ : ByteArray) ++ t533) x34_9 l0_0 a0_1 = some r) ∧ Aside0 (kq ≤ k1) ∧ Aside0 (wc.heap[gb531]? = some (.cells #[(.slice (some ad532) l0_0.length c0_0), .int .i64 a0_1] 31 (0, 0))) ∧ Aside0 (Below w.heap.size w wc))
       case first =>
        have H := HC10.out
        clear HC10
        by_cases c13 : x6_1 < (l1.length : Int)
        ·rw [if_pos c13] at H
         have c13b0 : decide (x6_1 < (l1.length : Int)) = true := decide_eq_true c13
         clear c13
         (first | rw [c13b0] | (simp only [i64_w, i32_w]; rw [c13b0]) | skip)
         have H' := mk0 H
         clear H
         have p534 : 0 ≤ (x6_1 : Int) := of_decide_eq_true (by first | (with_reducible assumption) | assumption)
         have q534 : x6_1 < (l1.length : Int) := of_decide_eq_true (by first | (with_reducible assumption) | assumption)
         obtain ⟨ad534, e534, hx534_0⟩ := Kd.at_string HR1.out x6_1 p534 q534
         cases e534
         replace hx534_0 := (HB.out.cell (World.block_lt_of_cell? w _ hx534_0)).trans hx534_0
         replace p534 := eq_true p534
         replace q534 := eq_true q534
         go_wp2
         go_meet
         case rel => exact ⟨_, (((rdOf ByteArray.empty l1 x6_1).toList != ([] : List UInt8))), (by first | rfl | (simp; done) | (simp [*]; done) | (simp [bne_nil_, beq_nil_]; done)), H', ⟨by have := HK1.out; first | omega | exact Nat.le_refl _⟩, ⟨uB BK531.out⟩, ⟨by repeat (first | (with_reducible first | exact HB.out | apply bA | apply bN | apply bD | refine bS ?_ (by assumption)) | exact HB.out)⟩⟩
        ·rw [if_neg c13] at H
         have c13b0 : decide (x6_1 < (l1.length : Int)) = false := decide_eq_false c13
         clear c13
         (first | rw [c13b0] | (simp only [i64_w, i32_w]; rw [c13b0]) | skip)
         have H' := mk0 H
         clear H
         go_wp2
         go_meet
         case rel => exact ⟨_, (false), (by first | rfl | (simp; done) | (simp [*]; done) | (simp [bne_nil_, beq_nil_]; done)), H', ⟨by have := HK1.out; first | omega | exact Nat.le_refl _⟩, ⟨uB BK531.out⟩, ⟨by repeat (first | (with_reducible first | exact HB.out | apply bA | apply bN | apply bD | refine bS ?_ (by assumption)) | exact HB.out)⟩⟩
       case rest =>
        clear HC10
        try clear c1
        try clear c2
        try clear p2
        try clear c4
        try clear c4b0
        try clear c5
        try clear c5b0
        try clear p5
        try clear q5
        try clear hx5
        try clear c6
        try clear c6b0
        try clear c6b1
        try clear p6
        try clear c9
        try clear c9b0
        try clear c9b1
        try clear c9b2
        try clear c13
        try clear c13b0
        try clear hcz11_0
        try clear hcz11_1
        try clear hcz7_0
        try clear hcz7_1
        try clear hfz11_0
        try clear hfz11_1
        try clear hfz7_0
        try clear hfz7_1
        try clear hx532_0
        try clear hx534_0
        try clear p2
        try clear p532
        try clear p534
        try clear q532
        try clear q534
        obtain ⟨kq, x34_9, rfl, HA, HJ9, BK531, HB⟩ := hcut
        cases kq with
        | zero => exact absurd HA.out (by simp [furrowref14_Text.j1])
        | succ kj9 =>
         have H := HA.out
         clear HA
         simp only [furrowref14_Text.j1] at H
         have HC14 := mk0 H
         clear H
         go_upto_if 34 with (fail)
         go_cut [7] (fun v7 wc => ∃ (kq : Nat) (x7_13 : ByteArray), v7 = .string x7_13 ∧ Aside0 (furrowref14_Text.j2 kq l1 x5_1 x6_1 x7_13 l0_0 a0_1 = some r) ∧ Aside0 (kq ≤ kj9) ∧ Aside0 (wc.heap[gb531]? = some (.cells #[(.slice (some ad532) l0_0.length c0_0), .int .i64 a0_1] 31 (0, 0))) ∧ Aside0 (Below w.heap.size w wc))
         case first =>
          have H := HC14.out
          clear HC14
          by_cases c15 : x34_9 = true
          ·subst c15
           have H1 : (if 0 ≤ x6_1 then (if x6_1 < (l1.length : Int) then (furrowref14_Text.j2 kj9 l1 x5_1 x6_1 (rdOf ByteArray.empty l1 x6_1) l0_0 a0_1) else (none)) else (none)) = some r := by rw [if_pos rfl] at H; exact H
           clear H
           have H := H1
           clear H1
           by_cases c16 : 0 ≤ x6_1
           ·rw [if_pos c16] at H
            have c16b0 : decide (0 ≤ x6_1) = true := decide_eq_true c16
            clear c16
            (first | rw [c16b0] | (simp only [i64_w, i32_w]; rw [c16b0]) | skip)
            by_cases c17 : x6_1 < (l1.length : Int)
            ·rw [if_pos c17] at H
             have c17b0 : decide (x6_1 < (l1.length : Int)) = true := decide_eq_true c17
             clear c17
             have H' := mk0 H
             clear H
             have p535 : 0 ≤ (x6_1 : Int) := of_decide_eq_true (by first | (with_reducible assumption) | assumption)
             have q535 : x6_1 < (l1.length : Int) := of_decide_eq_true (by first | (with_reducible assumption) | assumption)
             obtain ⟨ad535, e535, hx535_0⟩ := Kd.at_string HR1.out x6_1 p535 q535
             cases e535
             replace hx535_0 := (HB.out.cell (World.block_lt_of_cell? w _ hx535_0)).trans hx535_0
             replace p535 := eq_true p535
             replace q535 := eq_true q535
             go_wp2
             go_meet
             case rel => exact ⟨_, (rdOf ByteArray.empty l1 x6_1), (by first | rfl | (simp; done) | (simp [*]; done) | (simp [bne_nil_, beq_nil_]; done)), H', ⟨by have := HK1.out; have := HJ9.out; first | omega | exact Nat.le_refl _⟩, ⟨uB BK531.out⟩, ⟨by repeat (first | (with_reducible first | exact HB.out | apply bA | apply bN | apply bD | refine bS ?_ (by assumption)) | exact HB.out)⟩⟩
            ·rw [if_neg c17] at H
             exact absurd H (by simp)
           ·rw [if_neg c16] at H
            exact absurd H (by simp)
          ·replace c15 := Bool.eq_false_iff.mpr c15
           subst c15
           have H1 : (furrowref14_Text.j2 kj9 l1 x5_1 x6_1 ((⟨#[120]⟩ : ByteArray) ++ t533) l0_0 a0_1) = some r := by rw [if_neg (show ¬ (false = true) by decide)] at H; exact H
           clear H
           have H := H1
           clear H1
           have H' := mk0 H
           clear H
           go_wp2
           go_meet
           case rel => exact ⟨_, (((⟨#[120]⟩ : ByteArray) ++ t533)), (by first | rfl | (simp; done) | (simp [*]; done) | (simp [bne_nil_, beq_nil_]; done)), H', ⟨by have := HK1.out; have := HJ9.out; first | omega | exact Nat.le_refl _⟩, ⟨uB BK531.out⟩, ⟨by repeat (first | (with_reducible first | exact HB.out | apply bA | apply bN | apply bD | refine bS ?_ (by assumption)) | exact HB.out)⟩⟩
         case rest =>
          clear HC14
          try clear c1
          try clear c2
          try clear p2
          try clear c4
          try clear c4b0
          try clear c5
          try clear c5b0
          try clear p5
          try clear q5
          try clear hx5
          try clear c6
          try clear c6b0
          try clear c6b1
          try clear p6
          try clear c9
          try clear c9b0
          try clear c9b1
          try clear c9b2
          try clear c13
          try clear c13b0
          try clear c15
          try clear c16
          try clear c16b0
          try clear c17
          try clear c17b0
          try clear hcz11_0
          try clear hcz11_1
          try clear hcz7_0
          try clear hcz7_1
          try clear hfz11_0
          try clear hfz11_1
          try clear hfz7_0
          try clear hfz7_1
          try clear hx532_0
          try clear hx534_0
          try clear hx535_0
          try clear p2
          try clear p5
          try clear p532
          try clear p534
          try clear p535
          try clear p6
          try clear q5
          try clear q532
          try clear q534
          try clear q535
          obtain ⟨kq, x7_13, rfl, HA, HJ13, BK531, HB⟩ := hcut
          cases kq with
          | zero => exact absurd HA.out (by simp [furrowref14_Text.j2])
          | succ kj13 =>
           have H := HA.out
           clear HA
           simp only [furrowref14_Text.j2] at H
           have HC18 := mk0 H
           clear H
           go_upto_region 9 with (fail)
           go_cut [52] (fun v52 wc => ∃ (kq : Nat) (x52_17 : Bool), v52 = .bool x52_17 ∧ Aside0 (furrowref14_Text.j3 kq l1 x5_1 x6_1 x7_13 x52_17 l0_0 a0_1 = some r) ∧ Aside0 (kq ≤ kj13) ∧ Aside0 (wc.heap[gb531]? = some (.cells #[(.slice (some ad532) l0_0.length c0_0), .int .i64 a0_1] 31 (0, 0))) ∧ Aside0 (Below w.heap.size w wc))
           case first =>
            have H := HC18.out
            clear HC18
            by_cases c19 : 0 ≤ x6_1
            ·rw [if_pos c19] at H
             have c19b0 : decide (0 ≤ x6_1) = true := decide_eq_true c19
             clear c19
             (first | rw [c19b0] | (simp only [i64_w, i32_w]; rw [c19b0]) | skip)
             by_cases c20 : x6_1 < (l0_0.length : Int)
             ·rw [if_pos c20] at H
              have c20b0 : decide (x6_1 < (l0_0.length : Int)) = true := decide_eq_true c20
              clear c20
              by_cases c21 : (rd l0_0 x6_1) = 1
              ·rw [if_pos c21] at H
               have c21b0 : ((rd l0_0 x6_1) == 1) = true := beq_iff_eq.mpr c21
               have c21b1 : ((rd l0_0 x6_1) != 1) = false := bne_eq_false_iff_eq.mpr c21
               clear c21
               have H' := mk0 H
               clear H
               have hcz22_0 : wc.cell? ⟨gb531, 0, none⟩ = some (.slice (some ad532) l0_0.length c0_0) := (blk_cell BK531.out 0).trans rfl
               have hcz22_1 : wc.cell? ⟨gb531, 1, none⟩ = some (.int .i64 a0_1) := (blk_cell BK531.out 1).trans rfl
               have hfz22_0 := blk_frozen BK531.out 0
               have hfz22_1 := blk_frozen BK531.out 1
               have p536 : 0 ≤ (x6_1 : Int) := of_decide_eq_true (by first | (with_reducible assumption) | assumption)
               have q536 : x6_1 < (l0_0.length : Int) := of_decide_eq_true (by first | (with_reducible assumption) | assumption)
               obtain ⟨ad536, e536, hx536_0⟩ := Kd.at_int HR0_0.out x6_1 p536 q536
               obtain rfl : ad532 = ad536 := (by injection e536)
               replace hx536_0 := (HB.out.cell (World.block_lt_of_cell? w _ hx536_0)).trans hx536_0
               replace p536 := eq_true p536
               replace q536 := eq_true q536
               go_wp2
               go_meet
               case rel => exact ⟨_, (false), (by first | rfl | (simp; done) | (simp [*]; done) | (simp [bne_nil_, beq_nil_]; done)), H', ⟨by have := HK1.out; have := HJ9.out; have := HJ13.out; first | omega | exact Nat.le_refl _⟩, ⟨uB BK531.out⟩, ⟨by repeat (first | (with_reducible first | exact HB.out | apply bA | apply bN | apply bD | refine bS ?_ (by assumption)) | exact HB.out)⟩⟩
              ·rw [if_neg c21] at H
               have c21b0 : ((rd l0_0 x6_1) == 1) = false := beq_eq_false_iff_ne.mpr c21
               have c21b1 : ((rd l0_0 x6_1) != 1) = true := bne_iff_ne.mpr c21
               have H' := mk0 H
               clear H
               have hcz23_0 : wc.cell? ⟨gb531, 0, none⟩ = some (.slice (some ad532) l0_0.length c0_0) := (blk_cell BK531.out 0).trans rfl
               have hcz23_1 : wc.cell? ⟨gb531, 1, none⟩ = some (.int .i64 a0_1) := (blk_cell BK531.out 1).trans rfl
               have hfz23_0 := blk_frozen BK531.out 0
               have hfz23_1 := blk_frozen BK531.out 1
               have p536 : 0 ≤ (x6_1 : Int) := of_decide_eq_true (by first | (with_reducible assumption) | assumption)
               have q536 : x6_1 < (l0_0.length : Int) := of_decide_eq_true (by first | (with_reducible assumption) | assumption)
               obtain ⟨ad536, e536, hx536_0⟩ := Kd.at_int HR0_0.out x6_1 p536 q536
               obtain rfl : ad532 = ad536 := (by injection e536)
               replace hx536_0 := (HB.out.cell (World.block_lt_of_cell? w _ hx536_0)).trans hx536_0
               replace p536 := eq_true p536
               replace q536 := eq_true q536
               have p537 : 0 ≤ (x6_1 : Int) := of_decide_eq_true (by first | (with_reducible assumption) | assumption)
               have q537 : x6_1 < (l0_0.length : Int) := of_decide_eq_true (by first | (with_reducible assumption) | assumption)
               obtain ⟨ad537, e537, hx537_0⟩ := Kd.at_int HR0_0.out x6_1 p537 q537
               obtain rfl : ad532 = ad537 := (by injection e537)
               replace hx537_0 := (HB.out.cell (World.block_lt_of_cell? w _ hx537_0)).trans hx537_0
               replace p537 := eq_true p537
               replace q537 := eq_true q537
               go_wp2
               go_meet
               case rel => exact ⟨_, (((rd l0_0 x6_1) != (-1))), (by first | rfl | (simp; done) | (simp [*]; done) | (simp [bne_nil_, beq_nil_]; done)), H', ⟨by have := HK1.out; have := HJ9.out; have := HJ13.out; first | omega | exact Nat.le_refl _⟩, ⟨uB BK531.out⟩, ⟨by repeat (first | (with_reducible first | exact HB.out | apply bA | apply bN | apply bD | refine bS ?_ (by assumption)) | exact HB.out)⟩⟩
             ·rw [if_neg c20] at H
              exact absurd H (by simp)
            ·rw [if_neg c19] at H
             exact absurd H (by simp)
           case rest =>
            clear HC18
            try clear c1
            try clear c2
            try clear p2
            try clear c4
            try clear c4b0
            try clear c5
            try clear c5b0
            try clear p5
            try clear q5
            try clear hx5
            try clear c6
            try clear c6b0
            try clear c6b1
            try clear p6
            try clear c9
            try clear c9b0
            try clear c9b1
            try clear c9b2
            try clear c13
            try clear c13b0
            try clear c15
            try clear c16
            try clear c16b0
            try clear c17
            try clear c17b0
            try clear c19
            try clear c19b0
            try clear c20
            try clear c20b0
            try clear c21
            try clear c21b0
            try clear c21b1
            try clear hcz11_0
            try clear hcz11_1
            try clear hcz22_0
            try clear hcz22_1
            try clear hcz23_0
            try clear hcz23_1
            try clear hcz7_0
            try clear hcz7_1
            try clear hfz11_0
            try clear hfz11_1
            try clear hfz22_0
            try clear hfz22_1
            try clear hfz23_0
            try clear hfz23_1
            try clear hfz7_0
            try clear hfz7_1
            try clear hx532_0
            try clear hx534_0
            try clear hx535_0
            try clear hx536_0
            try clear hx537_0
            try clear p2
            try clear p5
            try clear p532
            try clear p534
            try clear p535
            try clear p536
            try clear p537
            try clear p6
            try clear q5
            try clear q532
            try clear q534
            try clear q535
            try clear q536
            try clear q537
            obtain ⟨kq, x52_17, rfl, HA, HJ17, BK531, HB⟩ := hcut
            cases kq with
            | zero => exact absurd HA.out (by simp [furrowref14_Text.j3])
            | succ kj17 =>
             have H := HA.out
             clear HA
             simp only [furrowref14_Text.j3] at H
             by_cases c24 : x52_17 = true
             ·subst c24
              have H1 : (if 0 ≤ x6_1 then (if x6_1 < (l0_0.length : Int) then ((furrowref14_size.f kj17 (rd l0_0 x6_1)).bind fun t539 => (if t539.size + 1 ≤ 9223372036854775807 then (if (t539 ++ (⟨#[42]⟩ : ByteArray)).size + x7_13.size ≤ 9223372036854775807 then ((furrowref14_put.f kj17 x5_1 (decide ((rd l0_0 x6_1) < 0)) ((t539 ++ (⟨#[42]⟩ : ByteArray)) ++ x7_13)).bind fun t541 => (furrowref14_Text.l0 kj17 l1 t541 (wrap64 (x6_1 + 1)) l0_0 a0_1)) else (none)) else (none))) else (none)) else (none)) = some r := by rw [if_pos rfl] at H; exact H
              clear H
              have H := H1
              clear H1
              by_cases c25 : 0 ≤ x6_1
              ·rw [if_pos c25] at H
               have c25b0 : decide (0 ≤ x6_1) = true := decide_eq_true c25
               clear c25
               by_cases c26 : x6_1 < (l0_0.length : Int)
               ·rw [if_pos c26] at H
                have c26b0 : decide (x6_1 < (l0_0.length : Int)) = true := decide_eq_true c26
                clear c26
                replace H := Option.bind_eq_some_iff.mp H
                obtain ⟨t539, A270, H⟩ := H
                replace H : (if t539.size + 1 ≤ 9223372036854775807 then (if (t539 ++ (⟨#[42]⟩ : ByteArray)).size + x7_13.size ≤ 9223372036854775807 then ((furrowref14_put.f kj17 x5_1 (decide ((rd l0_0 x6_1) < 0)) ((t539 ++ (⟨#[42]⟩ : ByteArray)) ++ x7_13)).bind fun t541 => (furrowref14_Text.l0 kj17 l1 t541 (wrap64 (x6_1 + 1)) l0_0 a0_1)) else (none)) else (none)) = some r := H
                have A27 := mk0 A270
                clear A270
                by_cases c28 : t539.size + 1 ≤ 9223372036854775807
                ·rw [if_pos c28] at H
                 have c28b0 := eq_true c28
                 have c28b1 : decide (t539.size + 1 ≤ 9223372036854775807) = true := decide_eq_true c28
                 try have c28b2 : (9223372036854775807 < t539.size + 1) = False := eq_false (Nat.not_lt.2 c28)
                 by_cases c29 : (t539 ++ (⟨#[42]⟩ : ByteArray)).size + x7_13.size ≤ 9223372036854775807
                 ·rw [if_pos c29] at H
                  have c29b0 := eq_true c29
                  have c29b1 : decide ((t539 ++ (⟨#[42]⟩ : ByteArray)).size + x7_13.size ≤ 9223372036854775807) = true := decide_eq_true c29
                  try have c29b2 : (9223372036854775807 < (t539 ++ (⟨#[42]⟩ : ByteArray)).size + x7_13.size) = False := eq_false (Nat.not_lt.2 c29)
                  replace H := Option.bind_eq_some_iff.mp H
                  obtain ⟨t541, A300, H⟩ := H
                  replace H : (furrowref14_Text.l0 kj17 l1 t541 (wrap64 (x6_1 + 1)) l0_0 a0_1) = some r := H
                  have A30 := mk0 A300
                  clear A300
                  have H' := mk0 H
                  clear H
                  have hcz31_0 : wc.cell? ⟨gb531, 0, none⟩ = some (.slice (some ad532) l0_0.length c0_0) := (blk_cell BK531.out 0).trans rfl
                  have hcz31_1 : wc.cell? ⟨gb531, 1, none⟩ = some (.int .i64 a0_1) := (blk_cell BK531.out 1).trans rfl
                  have hfz31_0 := blk_frozen BK531.out 0
                  have hfz31_1 := blk_frozen BK531.out 1
                  have p538 : 0 ≤ (x6_1 : Int) := of_decide_eq_true (by first | (with_reducible assumption) | assumption)
                  have q538 : x6_1 < (l0_0.length : Int) := of_decide_eq_true (by first | (with_reducible assumption) | assumption)
                  obtain ⟨ad538, e538, hx538_0⟩ := Kd.at_int HR0_0.out x6_1 p538 q538
                  obtain rfl : ad532 = ad538 := (by injection e538)
                  replace hx538_0 := (HB.out.cell (World.block_lt_of_cell? w _ hx538_0)).trans hx538_0
                  replace p538 := eq_true p538
                  replace q538 := eq_true q538
                  go_wp2_with (first | ((with_reducible refine gate_callee (f := 48) rfl ?_); refine goesL_ (some 58) rfl rfl Tryd.func48 (by kernel_rfl) rfl #[.int .i64 (rd l0_0 x6_1)] rfl (by (try simp only [List.map_toArray, List.map_cons, List.map_nil]); first | done | rfl | (simp only [List.length_drop, List.length_take]; rfl)) ?_; (with_reducible refine (furrowref14_size.calls kj17 (rd l0_0 x6_1) t539 _ A27.out).mono ?_); rintro e w32 ⟨rfl, hb⟩; refine ⟨_, rfl, ?_⟩; have n0_ := mk0 (blk_below (g := gb531) (o := .cells #[.slice (some ad532) l0_0.length c0_0, .int .i64 a0_1] 31 (0, 0)) (uB BK531.out) hb); have n1_ := mk0 (below_step (by repeat (first | (with_reducible first | exact HB.out | apply bA | apply bN | apply bD | refine bS ?_ (by assumption)) | exact HB.out)) hb); clear BK531; clear HB; have BK531 := n0_; have HB := n1_; clear n0_ n1_; (try clear hb); (try clear hb2); (try clear hk); (try clear hi); have hcz33_0 : w32.cell? ⟨gb531, 0, none⟩ = some (.slice (some ad532) l0_0.length c0_0) := (blk_cell BK531.out 0).trans rfl; have hcz33_1 : w32.cell? ⟨gb531, 1, none⟩ = some (.int .i64 a0_1) := (blk_cell BK531.out 1).trans rfl; have hfz33_0 := blk_frozen BK531.out 0; have hfz33_1 := blk_frozen BK531.out 1; have p540 : 0 ≤ (x6_1 : Int) := of_decide_eq_true (by first | (with_reducible assumption) | assumption); have q540 : x6_1 < (l0_0.length : Int) := of_decide_eq_true (by first | (with_reducible assumption) | assumption); obtain ⟨ad540, e540, hx540_0⟩ := Kd.at_int HR0_0.out x6_1 p540 q540; obtain rfl : ad532 = ad540 := (by injection e540); replace hx540_0 := (HB.out.cell (World.block_lt_of_cell? w _ hx540_0)).trans hx540_0; replace p540 := eq_true p540; replace q540 := eq_true q540) | ((with_reducible refine gate_callee (f := 49) rfl ?_); refine goesL_ (some 70) rfl rfl Tryd.func49 (by kernel_rfl) rfl #[.string x5_1, .bool (decide ((rd l0_0 x6_1) < 0)), .string ((t539 ++ (⟨#[42]⟩ : ByteArray)) ++ x7_13)] rfl (by (try simp only [List.map_toArray, List.map_cons, List.map_nil]); first | done | rfl | (simp only [List.length_drop, List.length_take]; rfl)) ?_; (with_reducible refine (furrowref14_put.calls kj17 x5_1 (decide ((rd l0_0 x6_1) < 0)) ((t539 ++ (⟨#[42]⟩ : ByteArray)) ++ x7_13) t541 _ A30.out).mono ?_); rintro e w' ⟨rfl, ⟨nd, rfl⟩⟩; refine ⟨_, rfl, ?_⟩))
                  go_roundg kj17
                  case measure => have := HK1.out; have := HJ9.out; have := HJ13.out; have := HJ17.out; omega
                  case rel => exact ⟨(t541), (wrap64 (x6_1 + 1)), (by first | rfl | (simp; done) | (simp [*]; done) | (simp [bne_nil_, beq_nil_]; done)), (by first | rfl | (simp; done) | (simp [*]; done) | (simp [bne_nil_, beq_nil_]; done)), H', ⟨by have := HK1.out; have := HJ9.out; have := HJ13.out; have := HJ17.out; omega⟩, ⟨uB BK531.out⟩, ⟨by repeat (first | (with_reducible first | exact HB.out | apply bA | apply bN | apply bD | refine bS ?_ (by assumption)) | exact HB.out)⟩⟩
                 ·rw [if_neg c29] at H
                  exact absurd H (by simp)
                ·rw [if_neg c28] at H
                 exact absurd H (by simp)
               ·rw [if_neg c26] at H
                exact absurd H (by simp)
              ·rw [if_neg c25] at H
               exact absurd H (by simp)
             ·replace c24 := Bool.eq_false_iff.mpr c24
              subst c24
              have H1 : (if 0 ≤ x6_1 then (if x6_1 < (l0_0.length : Int) then ((furrowref14_put.f kj17 x5_1 (decide ((rd l0_0 x6_1) < 0)) x7_13).bind fun t543 => (furrowref14_Text.l0 kj17 l1 t543 (wrap64 (x6_1 + 1)) l0_0 a0_1)) else (none)) else (none)) = some r := by rw [if_neg (show ¬ (false = true) by decide)] at H; exact H
              clear H
              have H := H1
              clear H1
              by_cases c34 : 0 ≤ x6_1
              ·rw [if_pos c34] at H
               have c34b0 : decide (0 ≤ x6_1) = true := decide_eq_true c34
               clear c34
               by_cases c35 : x6_1 < (l0_0.length : Int)
               ·rw [if_pos c35] at H
                have c35b0 : decide (x6_1 < (l0_0.length : Int)) = true := decide_eq_true c35
                clear c35
                replace H := Option.bind_eq_some_iff.mp H
                obtain ⟨t543, A360, H⟩ := H
                replace H : (furrowref14_Text.l0 kj17 l1 t543 (wrap64 (x6_1 + 1)) l0_0 a0_1) = some r := H
                have A36 := mk0 A360
                clear A360
                have H' := mk0 H
                clear H
                have hcz37_0 : wc.cell? ⟨gb531, 0, none⟩ = some (.slice (some ad532) l0_0.length c0_0) := (blk_cell BK531.out 0).trans rfl
                have hcz37_1 : wc.cell? ⟨gb531, 1, none⟩ = some (.int .i64 a0_1) := (blk_cell BK531.out 1).trans rfl
                have hfz37_0 := blk_frozen BK531.out 0
                have hfz37_1 := blk_frozen BK531.out 1
                have p542 : 0 ≤ (x6_1 : Int) := of_decide_eq_true (by first | (with_reducible assumption) | assumption)
                have q542 : x6_1 < (l0_0.length : Int) := of_decide_eq_true (by first | (with_reducible assumption) | assumption)
                obtain ⟨ad542, e542, hx542_0⟩ := Kd.at_int HR0_0.out x6_1 p542 q542
                obtain rfl : ad532 = ad542 := (by injection e542)
                replace hx542_0 := (HB.out.cell (World.block_lt_of_cell? w _ hx542_0)).trans hx542_0
                replace p542 := eq_true p542
                replace q542 := eq_true q542
                go_wp2_with (first | ((with_reducible refine gate_callee (f := 49) rfl ?_); refine goesL_ (some 70) rfl rfl Tryd.func49 (by kernel_rfl) rfl #[.string x5_1, .bool (decide ((rd l0_0 x6_1) < 0)), .string x7_13] rfl (by (try simp only [List.map_toArray, List.map_cons, List.map_nil]); first | done | rfl | (simp only [List.length_drop, List.length_take]; rfl)) ?_; (with_reducible refine (furrowref14_put.calls kj17 x5_1 (decide ((rd l0_0 x6_1) < 0)) x7_13 t543 _ A36.out).mono ?_); rintro e w' ⟨rfl, ⟨nd, rfl⟩⟩; refine ⟨_, rfl, ?_⟩))
                go_roundg kj17
                case measure => have := HK1.out; have := HJ9.out; have := HJ13.out; have := HJ17.out; omega
                case rel => exact ⟨(t543), (wrap64 (x6_1 + 1)), (by first | rfl | (simp; done) | (simp [*]; done) | (simp [bne_nil_, beq_nil_]; done)), (by first | rfl | (simp; done) | (simp [*]; done) | (simp [bne_nil_, beq_nil_]; done)), H', ⟨by have := HK1.out; have := HJ9.out; have := HJ13.out; have := HJ17.out; omega⟩, ⟨uB BK531.out⟩, ⟨by repeat (first | (with_reducible first | exact HB.out | apply bA | apply bN | apply bD | refine bS ?_ (by assumption)) | exact HB.out)⟩⟩
               ·rw [if_neg c35] at H
                exact absurd H (by simp)
              ·rw [if_neg c34] at H
               exact absurd H (by simp)
      ·rw [if_neg c9] at H
       exact absurd H (by simp)
    ·rw [if_neg c5] at H
     exact absurd H (by simp)
   ·rw [if_neg c4] at H
    have c4b0 : decide (x6_1 < (l0_0.length : Int)) = false := decide_eq_false c4
    clear c4
    have HC38 := mk0 H
    clear H
    have hcz39_0 : wr.cell? ⟨gb531, 0, none⟩ = some (.slice A0_0 l0_0.length c0_0) := (blk_cell BK531.out 0).trans rfl
    have hcz39_1 : wr.cell? ⟨gb531, 1, none⟩ = some (.int .i64 a0_1) := (blk_cell BK531.out 1).trans rfl
    have hfz39_0 := blk_frozen BK531.out 0
    have hfz39_1 := blk_frozen BK531.out 1
    go_upto_region 12 with (fail)
    go_cut [77] (fun v77 wc => ∃ (kq : Nat) (x77_37 : Bool), v77 = .bool x77_37 ∧ Aside0 (furrowref14_Text.j4 kq x5_1 x77_37 l0_0 a0_1 = some r) ∧ Aside0 (kq ≤ k1) ∧ Aside0 (wc.heap[gb531]? = some (.cells #[(.slice A0_0 l0_0.length c0_0), .int .i64 a0_1] 31 (0, 0))) ∧ Aside0 (Below w.heap.size w wc))
    case first =>
     have H := HC38.out
     clear HC38
     by_cases c40 : a0_1 = 0
     ·rw [if_pos c40] at H
      have c40b0 : (a0_1 == 0) = true := beq_iff_eq.mpr c40
      have c40b1 : (a0_1 != 0) = false := bne_eq_false_iff_eq.mpr c40
      clear c40
      (first | rw [c40b0] | (simp only [i64_w, i32_w]; rw [c40b0]) | skip)
      have H' := mk0 H
      clear H
      have hcz41_0 : wr.cell? ⟨gb531, 0, none⟩ = some (.slice A0_0 l0_0.length c0_0) := (blk_cell BK531.out 0).trans rfl
      have hcz41_1 : wr.cell? ⟨gb531, 1, none⟩ = some (.int .i64 a0_1) := (blk_cell BK531.out 1).trans rfl
      have hfz41_0 := blk_frozen BK531.out 0
      have hfz41_1 := blk_frozen BK531.out 1
      go_wp2
      go_meet
      case rel => exact ⟨_, ((x5_1.toList == ([] : List UInt8))), (by first | rfl | (simp; done) | (simp [*]; done) | (simp [bne_nil_, beq_nil_]; done)), H', ⟨by have := HK1.out; first | omega | exact Nat.le_refl _⟩, ⟨uB BK531.out⟩, ⟨by repeat (first | (with_reducible first | exact HB.out | apply bA | apply bN | apply bD | refine bS ?_ (by assumption)) | exact HB.out)⟩⟩
     ·rw [if_neg c40] at H
      have c40b0 : (a0_1 == 0) = false := beq_eq_false_iff_ne.mpr c40
      have c40b1 : (a0_1 != 0) = true := bne_iff_ne.mpr c40
      (first | rw [c40b0] | (simp only [i64_w, i32_w]; rw [c40b0]) | skip)
      have H' := mk0 H
      clear H
      have hcz42_0 : wr.cell? ⟨gb531, 0, none⟩ = some (.slice A0_0 l0_0.length c0_0) := (blk_cell BK531.out 0).trans rfl
      have hcz42_1 : wr.cell? ⟨gb531, 1, none⟩ = some (.int .i64 a0_1) := (blk_cell BK531.out 1).trans rfl
      have hfz42_0 := blk_frozen BK531.out 0
      have hfz42_1 := blk_frozen BK531.out 1
      go_wp2
      go_meet
      case rel => exact ⟨_, (true), (by first | rfl | (simp; done) | (simp [*]; done) | (simp [bne_nil_, beq_nil_]; done)), H', ⟨by have := HK1.out; first | omega | exact Nat.le_refl _⟩, ⟨uB BK531.out⟩, ⟨by repeat (first | (with_reducible first | exact HB.out | apply bA | apply bN | apply bD | refine bS ?_ (by assumption)) | exact HB.out)⟩⟩
    case rest =>
     clear HC38
     try clear c1
     try clear c2
     try clear p2
     try clear c3
     try clear c4
     try clear c4b0
     try clear c5
     try clear c5b0
     try clear p5
     try clear q5
     try clear hx5
     try clear c6
     try clear c6b0
     try clear c6b1
     try clear p6
     try clear c9
     try clear c9b0
     try clear c9b1
     try clear c9b2
     try clear c13
     try clear c13b0
     try clear c15
     try clear c16
     try clear c16b0
     try clear c17
     try clear c17b0
     try clear c19
     try clear c19b0
     try clear c20
     try clear c20b0
     try clear c21
     try clear c21b0
     try clear c21b1
     try clear c24
     try clear c25
     try clear c25b0
     try clear c26
     try clear c26b0
     try clear c28
     try clear c28b0
     try clear c28b1
     try clear c28b2
     try clear c29
     try clear c29b0
     try clear c29b1
     try clear c29b2
     try clear c34
     try clear c34b0
     try clear c35
     try clear c35b0
     try clear c40
     try clear c40b0
     try clear c40b1
     try clear hcz11_0
     try clear hcz11_1
     try clear hcz22_0
     try clear hcz22_1
     try clear hcz23_0
     try clear hcz23_1
     try clear hcz31_0
     try clear hcz31_1
     try clear hcz33_0
     try clear hcz33_1
     try clear hcz37_0
     try clear hcz37_1
     try clear hcz39_0
     try clear hcz39_1
     try clear hcz41_0
     try clear hcz41_1
     try clear hcz42_0
     try clear hcz42_1
     try clear hcz7_0
     try clear hcz7_1
     try clear hfz11_0
     try clear hfz11_1
     try clear hfz22_0
     try clear hfz22_1
     try clear hfz23_0
     try clear hfz23_1
     try clear hfz31_0
     try clear hfz31_1
     try clear hfz33_0
     try clear hfz33_1
     try clear hfz37_0
     try clear hfz37_1
     try clear hfz39_0
     try clear hfz39_1
     try clear hfz41_0
     try clear hfz41_1
     try clear hfz42_0
     try clear hfz42_1
     try clear hfz7_0
     try clear hfz7_1
     try clear hx532_0
     try clear hx534_0
     try clear hx535_0
     try clear hx536_0
     try clear hx537_0
     try clear hx538_0
     try clear hx540_0
     try clear hx542_0
     try clear p2
     try clear p5
     try clear p532
     try clear p534
     try clear p535
     try clear p536
     try clear p537
     try clear p538
     try clear p540
     try clear p542
     try clear p6
     try clear q5
     try clear q532
     try clear q534
     try clear q535
     try clear q536
     try clear q537
     try clear q538
     try clear q540
     try clear q542
     obtain ⟨kq, x77_37, rfl, HA, HJ37, BK531, HB⟩ := hcut
     cases kq with
     | zero => exact absurd HA.out (by simp [furrowref14_Text.j4])
     | succ kj37 =>
      have H := HA.out
      clear HA
      simp only [furrowref14_Text.j4] at H
      by_cases c43 : x77_37 = true
      ·subst c43
       have H1 : ((furrowref14_size.f kj37 a0_1).bind fun t544 => ((furrowref14_put.f kj37 x5_1 (decide (a0_1 < 0)) t544).bind fun t545 => (some t545))) = some r := by rw [if_pos rfl] at H; exact H
       clear H
       have H := H1
       clear H1
       replace H := Option.bind_eq_some_iff.mp H
       obtain ⟨t544, A440, H⟩ := H
       replace H : ((furrowref14_put.f kj37 x5_1 (decide (a0_1 < 0)) t544).bind fun t545 => (some t545)) = some r := H
       have A44 := mk0 A440
       clear A440
       replace H := Option.bind_eq_some_iff.mp H
       obtain ⟨t545, A450, H⟩ := H
       replace H : (some t545) = some r := H
       have A45 := mk0 A450
       clear A450
       obtain rfl := Option.some.inj H
       try go_wp2
       have n0_ := mk0 (blk_drew BK531.out)
       have n1_ := mk0 (below_drew1 HB.out)
       clear BK531
       clear HB
       have BK531 := n0_
       have HB := n1_
       clear n0_ n1_
       refine start_ (n := 9) (S := fun w' => w'.cell? ⟨gb531, 0, none⟩ = some (.slice A0_0 l0_0.length c0_0) ∧ w'.cell? ⟨gb531, 1, none⟩ = some (.int .i64 a0_1)) (ds := []) #[false, false, false, false, false, false, false, false, false] (by kernel_rfl) rfl rfl ⟨(blk_cell BK531.out 0).trans rfl, (blk_cell BK531.out 1).trans rfl⟩ (fun hHeld => ?_); refine with_tabW furrowref14_Text.tab13 furrowref14_Text.bits13 (fun HT_ HW_ => ?_)
       generalize wc.drew = w46 at BK531 HB hHeld ⊢
       refine pure_ (i := 0) (N := some 78) (v := ?_) (a' := ?_) #[true, false, false, false, false, false, false, false, false] rfl rfl (any_of HT_.out (by kernel_rfl)) (fun _ _ _ h => h) (Or.inl ⟨by rfl, ?_⟩) ?_ ?_
       rotate_left
       ·intro w'
        go_simp
        with_reducible rfl
       rotate_left
       ·simp only [Act.put, List.setIfInBounds_toArray, List.set_cons_zero, List.set_cons_succ, i64_w, i32_w]
        rfl
       refine pure_ (i := 1) (N := some 79) (v := ?_) (a' := ?_) #[true, true, false, false, false, false, false, false, false] rfl rfl (any_of HT_.out (by kernel_rfl)) (fun _ _ _ h => h) (Or.inl ⟨by rfl, ?_⟩) ?_ ?_
       rotate_left
       ·intro w'
        go_simp
        with_reducible rfl
       rotate_left
       ·simp only [Act.put, List.setIfInBounds_toArray, List.set_cons_zero, List.set_cons_succ, i64_w, i32_w]
        rfl
       refine pure_ (i := 4) (N := some 82) (v := ?_) (a' := ?_) #[true, true, false, false, true, false, false, false, false] rfl rfl (any_of HT_.out (by kernel_rfl)) (fun _ _ _ h => h) (Or.inl ⟨by rfl, ?_⟩) ?_ ?_
       rotate_left
       ·intro w'
        go_simp
        with_reducible rfl
       rotate_left
       ·simp only [Act.put, List.setIfInBounds_toArray, List.set_cons_zero, List.set_cons_succ, i64_w, i32_w]
        rfl
       refine take_ (i := 2) (N := some 80) (v := ?_) (a' := ?_) #[true, true, true, false, true, false, false, false, false] rfl rfl (take_ofW HT_.out HW_.out (by kernel_rfl)) (fun _ _ _ h => h) (Or.inl ⟨by rfl, ?_⟩) hHeld ?_ ?_
       rotate_left
       ·rintro w' ⟨s0, s1⟩
        go_simp
        with_reducible rfl
       rotate_left
       ·simp only [Act.put, List.setIfInBounds_toArray, List.set_cons_zero, List.set_cons_succ, i64_w, i32_w]
        rfl
       refine pure_ (i := 3) (N := some 81) (v := ?_) (a' := ?_) #[true, true, true, true, true, false, false, false, false] rfl rfl (any_of HT_.out (by kernel_rfl)) (fun _ _ _ h => h) (Or.inl ⟨by rfl, ?_⟩) ?_ ?_
       rotate_left
       ·intro w'
        go_simp
        with_reducible rfl
       rotate_left
       ·simp only [Act.put, List.setIfInBounds_toArray, List.set_cons_zero, List.set_cons_succ, i64_w, i32_w]
        rfl
       refine take_ (i := 5) (N := some 83) (v := ?_) (a' := ?_) #[true, true, true, true, true, true, false, false, false] rfl rfl (take_ofW HT_.out HW_.out (by kernel_rfl)) (fun _ _ _ h => h) (Or.inl ⟨by rfl, ?_⟩) hHeld ?_ ?_
       rotate_left
       ·rintro w' ⟨s0, s1⟩
        go_simp
        with_reducible rfl
       rotate_left
       ·simp only [Act.put, List.setIfInBounds_toArray, List.set_cons_zero, List.set_cons_succ, i64_w, i32_w]
        rfl
       refine one_ (i := 6) (N := some 84) #[true, true, true, true, true, true, true, false, false] rfl rfl (one_of HT_.out (by kernel_rfl)) (by decide) (fun K hK => ?_)
       refine goes_ Tryd.func48 (by kernel_rfl) rfl #[.int .i64 a0_1] (by rfl) rfl rfl (by (try simp only [List.map_toArray, List.map_cons, List.map_nil]); first | done | rfl | (simp only [List.length_drop, List.length_take]; rfl)) ?_
       with_reducible refine (furrowref14_size.calls kj37 a0_1 t544 _ A44.out).mono ?_
       rintro e w47 ⟨rfl, hb⟩
       refine ⟨_, rfl, ?_⟩
       have n0_ := mk0 (blk_below (g := gb531) (o := .cells #[.slice A0_0 l0_0.length c0_0, .int .i64 a0_1] 31 (0, 0)) (uB BK531.out) hb)
       have n1_ := mk0 (below_step (by repeat (first | (with_reducible first | exact HB.out | apply bA | apply bN | apply bD | refine bS ?_ (by assumption)) | exact HB.out)) hb)
       clear BK531
       clear HB
       have BK531 := n0_
       have HB := n1_
       clear n0_ n1_
       (try clear hb)
       (try clear hb2)
       (try clear hk)
       (try clear hi)
       refine hK.out _ _ ⟨(blk_cell BK531.out 0).trans rfl, (blk_cell BK531.out 1).trans rfl⟩ (fun hHeld => ?_)
       clear hK K
       refine norm_ (a' := ?_) ?_ ?_
       rotate_left
       ·show Act.put _ (some 84) _ = _
        simp only [Act.put, List.setIfInBounds_toArray, List.set_cons_zero, List.set_cons_succ, i64_w, i32_w]
        rfl
       refine one_ (i := 7) (N := some 85) #[true, true, true, true, true, true, true, true, false] rfl rfl (one_of HT_.out (by kernel_rfl)) (by decide) (fun K hK => ?_)
       refine goes_ Tryd.func49 (by kernel_rfl) rfl #[.string x5_1, .bool (decide (a0_1 < 0)), .string t544] (by rfl) rfl rfl (by (try simp only [List.map_toArray, List.map_cons, List.map_nil]); first | done | rfl | (simp only [List.length_drop, List.length_take]; rfl)) ?_
       with_reducible refine (furrowref14_put.calls kj37 x5_1 (decide (a0_1 < 0)) t544 t545 _ A45.out).mono ?_
       rintro e w' ⟨rfl, ⟨nd, rfl⟩⟩
       refine ⟨_, rfl, ?_⟩
       refine hK.out _ _ ⟨(blk_cell BK531.out 0).trans rfl, (blk_cell BK531.out 1).trans rfl⟩ (fun hHeld => ?_)
       clear hK K
       refine norm_ (a' := ?_) ?_ ?_
       rotate_left
       ·show Act.put _ (some 85) _ = _
        simp only [Act.put, List.setIfInBounds_toArray, List.set_cons_zero, List.set_cons_succ, i64_w, i32_w]
        rfl
       refine pure_ (i := 8) (N := some 5) (v := ?_) (a' := ?_) #[true, true, true, true, true, true, true, true, true] rfl rfl (any_of HT_.out (by kernel_rfl)) (fun _ _ _ h => h) (Or.inl ⟨by rfl, ?_⟩) ?_ ?_
       rotate_left
       ·intro w'
        go_simp
        with_reducible rfl
       rotate_left
       ·simp only [Act.put, List.setIfInBounds_toArray, List.set_cons_zero, List.set_cons_succ, i64_w, i32_w]
        rfl
       refine done_ (done_of HT_.out (by kernel_rfl)) ?_
       try go_wp2
       go_ret
       exact ⟨by first | rfl | (simp [errW_none, errW_some] <;> rfl) | (simp [*, errW_none, errW_some] <;> rfl), by repeat (first | (with_reducible first | exact HB.out | apply bA | apply bN | apply bD | refine bS ?_ (by assumption)) | exact HB.out)⟩
      ·replace c43 := Bool.eq_false_iff.mpr c43
       subst c43
       have H1 : (some x5_1) = some r := by rw [if_neg (show ¬ (false = true) by decide)] at H; exact H
       clear H
       have H := H1
       clear H1
       obtain rfl := Option.some.inj H
       go_wp2
       go_ret
       exact ⟨by first | rfl | (simp [errW_none, errW_some] <;> rfl) | (simp [*, errW_none, errW_some] <;> rfl), by repeat (first | (with_reducible first | exact HB.out | apply bA | apply bN | apply bD | refine bS ?_ (by assumption)) | exact HB.out)⟩

end Go.Proofs.YtmnifoeodohphaaDoor.X
