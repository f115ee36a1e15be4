-- PRINTED by print.py (a twelfth state) out of the translation. Not trusted: Lean checks it.
import Derived.Test.YtkkpgjkjkcmcbaaDoorXx0
import Derived.Test.YtkkpgjkjkcmcbaaDoorXx6
namespace Go.Proofs.YtkkpgjkjkcmcbaaDoor.X
open Go.Proofs.YtkkpgjkjkcmcbaaDoor.Flt Go.Proofs.YtkkpgjkjkcmcbaaDoor.H Go.RowKit Go.Proofs.YtkkpgjkjkcmcbaaDoorW.PrintWords Go.Proofs.YtkkpgjkjkcmcbaaDoorW.PrintLast Go.Proofs.YtkkpgjkjkcmcbaaDoorW.PrintMore
attribute [local go_sem] max2_int min2_int max_two min_two max_three min_three max_four min_four   -- for this text's walks alone
set_option linter.unusedVariables false
set_option linter.unusedSimpArgs false

/-! ### furrowref20_Check: function 8 -/
mutual
def furrowref20_Check.j0 : Nat → Bool → Int → List (S65) → List (S65) → Option ((List (S76)) × Int)
 | 0, _, _, _, _ => none
 | k + 1, x14, x319000, x319001, x319002 => if x14 = true then ((furrowref4_At.f (⟨#[115, 121, 115]⟩ : ByteArray) 0 1).bind fun bt320 => (some (bt320.1, bt320.2))) else ((furrowref20_all.f x319000 x319001 x319002).bind fun t324 => (if (t324.length : Int) > 64 then ((furrowref4_At.f (⟨#[115, 121, 115]⟩ : ByteArray) 64 4).bind fun bt327 => (some (bt327.1, bt327.2))) else (furrowref20_Check.l0 k t324 0 x319000 x319001 x319002)))
def furrowref20_Check.l0 : Nat → List (S65) → Int → Int → List (S65) → List (S65) → Option ((List (S76)) × Int)
 | 0, _, _, _, _, _ => none
 | k + 1, x3, x4, x319000, x319001, x319002 => if x4 < (x3.length : Int) then (if 0 ≤ x4 then (if (((rd_T65 x3 x4).f0).length : Int) = x319000 then ((furrowref20_beyond.f ((rd_T65 x3 x4).f1) 1073741824).bind fun t337 => (furrowref20_Check.l1 k x3 x4 t337 0 x319000 x319001 x319002)) else ((furrowref4_At.f (⟨#[115, 121, 115]⟩ : ByteArray) x4 1).bind fun bt332 => (some (bt332.1, bt332.2)))) else (none)) else (some (([] : List (S76)), 0))
def furrowref20_Check.l1 : Nat → List (S65) → Int → Bool → Int → Int → List (S65) → List (S65) → Option ((List (S76)) × Int)
 | 0, _, _, _, _, _, _, _ => none
 | k + 1, x3, x4, x5, x6, x319000, x319001, x319002 => if x6 < x319000 then (if x5 = true then (furrowref20_Check.l1 k x3 x4 true (wrap64 (x6 + 1)) x319000 x319001 x319002) else (if 0 ≤ x4 then (if x4 < (x3.length : Int) then (if 0 ≤ x6 then (if x6 < (((rd_T65 x3 x4).f0).length : Int) then ((furrowref20_beyond.f (rd ((rd_T65 x3 x4).f0) x6) 1073741824).bind fun t340 => (furrowref20_Check.l1 k x3 x4 t340 (wrap64 (x6 + 1)) x319000 x319001 x319002)) else (none)) else (none)) else (none)) else (none))) else (if x5 = true then ((furrowref4_At.f (⟨#[115, 121, 115]⟩ : ByteArray) x4 5).bind fun bt341 => (some (bt341.1, bt341.2))) else (furrowref20_Check.l0 k x3 (wrap64 (x4 + 1)) x319000 x319001 x319002))
end
def furrowref20_Check.f (k : Nat) (a0_0 : Int) (l0_1 : List (S65)) (l0_2 : List (S65)) : Option ((List (S76)) × Int) := if a0_0 < 0 then (furrowref20_Check.j0 k true a0_0 l0_1 l0_2) else (furrowref20_Check.j0 k (decide (a0_0 > 16)) a0_0 l0_1 l0_2)
theorem furrowref20_Check.mono_l : ∀ k, (∀ y0 y1 y2 y3, LeO (furrowref20_Check.j0 k y0 y1 y2 y3) (furrowref20_Check.j0 (k + 1) y0 y1 y2 y3)) ∧ (∀ y0 y1 y2 y3 y4, LeO (furrowref20_Check.l0 k y0 y1 y2 y3 y4) (furrowref20_Check.l0 (k + 1) y0 y1 y2 y3 y4)) ∧ (∀ y0 y1 y2 y3 y4 y5 y6, LeO (furrowref20_Check.l1 k y0 y1 y2 y3 y4 y5 y6) (furrowref20_Check.l1 (k + 1) y0 y1 y2 y3 y4 y5 y6))
 | 0 => ⟨fun _ _ _ _ r h => by simp [furrowref20_Check.j0] at h, fun _ _ _ _ _ r h => by simp [furrowref20_Check.l0] at h, fun _ _ _ _ _ _ _ r h => by simp [furrowref20_Check.l1] at h⟩
 | k + 1 => by
  obtain ⟨ih0, ih1, ih2⟩ := furrowref20_Check.mono_l k
  refine ⟨?_, ?_, ?_⟩
  ·intro y0 y1 y2 y3
   unfold furrowref20_Check.j0
   repeat' first
   | (with_reducible exact ih0 _ _ _ _)
   | (with_reducible exact ih1 _ _ _ _ _)
   | (with_reducible exact ih2 _ _ _ _ _ _ _)
   | (with_reducible exact LeO.refl _)
   | (with_reducible exact LeO.none _)
   | (with_reducible refine LeO.ite ?_ ?_)
   | (with_reducible refine LeO.bind ?_ (fun _ => ?_))
   | exact ih0 _ _ _ _
   | exact ih1 _ _ _ _ _
   | exact ih2 _ _ _ _ _ _ _
   | exact LeO.none _
   | refine LeO.ite ?_ ?_
   | refine LeO.bind ?_ (fun _ => ?_)
  ·intro y0 y1 y2 y3 y4
   unfold furrowref20_Check.l0
   repeat' first
   | (with_reducible exact ih0 _ _ _ _)
   | (with_reducible exact ih1 _ _ _ _ _)
   | (with_reducible exact ih2 _ _ _ _ _ _ _)
   | (with_reducible exact LeO.refl _)
   | (with_reducible exact LeO.none _)
   | (with_reducible refine LeO.ite ?_ ?_)
   | (with_reducible refine LeO.bind ?_ (fun _ => ?_))
   | exact ih0 _ _ _ _
   | exact ih1 _ _ _ _ _
   | exact ih2 _ _ _ _ _ _ _
   | exact LeO.none _
   | refine LeO.ite ?_ ?_
   | refine LeO.bind ?_ (fun _ => ?_)
  ·intro y0 y1 y2 y3 y4 y5 y6
   unfold furrowref20_Check.l1
   repeat' first
   | (with_reducible exact ih0 _ _ _ _)
   | (with_reducible exact ih1 _ _ _ _ _)
   | (with_reducible exact ih2 _ _ _ _ _ _ _)
   | (with_reducible exact LeO.refl _)
   | (with_reducible exact LeO.none _)
   | (with_reducible refine LeO.ite ?_ ?_)
   | (with_reducible refine LeO.bind ?_ (fun _ => ?_))
   | exact ih0 _ _ _ _
   | exact ih1 _ _ _ _ _
   | exact ih2 _ _ _ _ _ _ _
   | exact LeO.none _
   | refine LeO.ite ?_ ?_
   | refine LeO.bind ?_ (fun _ => ?_)
theorem furrowref20_Check.mono : ∀ a0 a1 a2 k, LeO (furrowref20_Check.f k a0 a1 a2) (furrowref20_Check.f (k + 1) a0 a1 a2) := by
 intro a0 a1 a2 k
 obtain ⟨ih0, ih1, ih2⟩ := furrowref20_Check.mono_l k
 unfold furrowref20_Check.f
 repeat' first
   | (with_reducible exact ih0 _ _ _ _)
   | (with_reducible exact ih1 _ _ _ _ _)
   | (with_reducible exact ih2 _ _ _ _ _ _ _)
   | (with_reducible exact LeO.refl _)
   | (with_reducible exact LeO.none _)
   | (with_reducible refine LeO.ite ?_ ?_)
   | (with_reducible refine LeO.bind ?_ (fun _ => ?_))
   | exact ih0 _ _ _ _
   | exact ih1 _ _ _ _ _
   | exact ih2 _ _ _ _ _ _ _
   | exact LeO.none _
   | refine LeO.ite ?_ ?_
   | refine LeO.bind ?_ (fun _ => ?_)
set_option maxHeartbeats 8000000 in
set_option maxRecDepth 100000 in
theorem furrowref20_Check.calls (k : Nat) (a0_0 : Int) (A0_1 : Option Addr) (c0_1 : Nat) (l0_1 : List (S65)) (A0_2 : Option Addr) (c0_2 : Nat) (l0_2 : List (S65)) (r1 : List (S76)) (r2 : Int) (w : World) (hr0_1 : Kd.C k65 w A0_1 l0_1.length l0_1) (hc0_1 : l0_1.length ≤ c0_1) (hr0_2 : Kd.C k65 w A0_2 l0_2.length l0_2) (hc0_2 : l0_2.length ≤ c0_2) (h : furrowref20_Check.f k a0_0 l0_1 l0_2 = some (r1, r2)) :
  Calls Tryd.prog 8 #[.agg #[.int .i64 a0_0, .slice A0_1 l0_1.length c0_1, .slice A0_2 l0_2.length c0_2]] w fun e w' => ∃ v0_ : Value, e = .returned (.agg #[v0_, .int .i64 r2]) ∧ Kd.R k76 76 w' w.heap.size (fun _ => True) v0_ r1 ∧ Below w.heap.size w w' := by
 have hu34 := Tryd.underlying34
 have hu30 := Tryd.underlying30
 have HR0_1 := mk0 hr0_1
 have HC0_1 := mk0 hc0_1
 clear hr0_1 hc0_1
 have HR0_2 := mk0 hr0_2
 have HC0_2 := mk0 hc0_2
 clear hr0_2 hc0_2
 have HB := mk0 (Below.refl w.heap.size w)
 have H : (if a0_0 < 0 then (furrowref20_Check.j0 k true a0_0 l0_1 l0_2) else (furrowref20_Check.j0 k (decide (a0_0 > 16)) a0_0 l0_1 l0_2)) = some (r1, r2) := h
 clear h
 have HC2 := mk0 H
 clear H
 go_enter Tryd.func8, Tryd.ntmps8
 go_upto_region 1 with (first | ((with_reducible refine gate_dst (N := 1) rfl ?_); refine bxE 1 #[.int .i64 a0_0, .slice A0_1 l0_1.length c0_1, .slice A0_2 l0_2.length c0_2] 34 ?_; intro gb318 hg w3 hbox hb; have BK318 := mk0 (hbox); have GW318 := mk0 ((by rw [hg]; exact (below_size (uL HB.out)) : w.heap.size ≤ gb318)); have GE318 := mk0 ((by rw [hg]; exact (below_size (uL HB.out)) : w.heap.size ≤ gb318)); replace HB := hbB (uL HB.out) hb; clear hb hbox hg) | ((with_reducible refine gate_dst (N := 2) rfl ?_); refine bxE 2 #[.slice none 0 0, .int .i64 0] 30 ?_; intro gb319 hg w4 hbox hb; have BK319 := mk0 (hbox); have GW319 := mk0 ((by rw [hg]; exact (below_size bH) : w.heap.size ≤ gb319)); have GE319 := mk0 ((by rw [hg]; exact (below_size bH) : w.heap.size ≤ gb319)); replace HB := hbB bH hb; have NB318_319 := mk0 ((by rw [hg]; exact Nat.ne_of_lt (blk_lt (g := gb318) (o := .cells #[.int .i64 a0_0, .slice A0_1 l0_1.length c0_1, .slice A0_2 l0_2.length c0_2] 34 (0, 0)) (uB BK318.out)) : gb318 ≠ gb319)); have NB319_318 := mk0 ((by rw [hg]; exact Nat.ne_of_gt (blk_lt (g := gb318) (o := .cells #[.int .i64 a0_0, .slice A0_1 l0_1.length c0_1, .slice A0_2 l0_2.length c0_2] 34 (0, 0)) (uB BK318.out)) : gb319 ≠ gb318)); replace BK318 := bB BK318 hb; clear hb hbox hg))
 repeat (go_quiet (first | ((with_reducible refine gate_dst (N := 1) rfl ?_); refine bxE 1 #[.int .i64 a0_0, .slice A0_1 l0_1.length c0_1, .slice A0_2 l0_2.length c0_2] 34 ?_; intro gb318 hg w3 hbox hb; have BK318 := mk0 (hbox); have GW318 := mk0 ((by rw [hg]; exact (below_size (uL HB.out)) : w.heap.size ≤ gb318)); have GE318 := mk0 ((by rw [hg]; exact (below_size (uL HB.out)) : w.heap.size ≤ gb318)); replace HB := hbB (uL HB.out) hb; clear hb hbox hg) | ((with_reducible refine gate_dst (N := 2) rfl ?_); refine bxE 2 #[.slice none 0 0, .int .i64 0] 30 ?_; intro gb319 hg w4 hbox hb; have BK319 := mk0 (hbox); have GW319 := mk0 ((by rw [hg]; exact (below_size bH) : w.heap.size ≤ gb319)); have GE319 := mk0 ((by rw [hg]; exact (below_size bH) : w.heap.size ≤ gb319)); replace HB := hbB bH hb; have NB318_319 := mk0 ((by rw [hg]; exact Nat.ne_of_lt (blk_lt (g := gb318) (o := .cells #[.int .i64 a0_0, .slice A0_1 l0_1.length c0_1, .slice A0_2 l0_2.length c0_2] 34 (0, 0)) (uB BK318.out)) : gb318 ≠ gb319)); have NB319_318 := mk0 ((by rw [hg]; exact Nat.ne_of_gt (blk_lt (g := gb318) (o := .cells #[.int .i64 a0_0, .slice A0_1 l0_1.length c0_1, .slice A0_2 l0_2.length c0_2] 34 (0, 0)) (uB BK318.out)) : gb319 ≠ gb318)); replace BK318 := bB BK318 hb; clear hb hbox hg)); go_upto_region 1 with (first | ((with_reducible refine gate_dst (N := 1) rfl ?_); refine bxE 1 #[.int .i64 a0_0, .slice A0_1 l0_1.length c0_1, .slice A0_2 l0_2.length c0_2] 34 ?_; intro gb318 hg w3 hbox hb; have BK318 := mk0 (hbox); have GW318 := mk0 ((by rw [hg]; exact (below_size (uL HB.out)) : w.heap.size ≤ gb318)); have GE318 := mk0 ((by rw [hg]; exact (below_size (uL HB.out)) : w.heap.size ≤ gb318)); replace HB := hbB (uL HB.out) hb; clear hb hbox hg) | ((with_reducible refine gate_dst (N := 2) rfl ?_); refine bxE 2 #[.slice none 0 0, .int .i64 0] 30 ?_; intro gb319 hg w4 hbox hb; have BK319 := mk0 (hbox); have GW319 := mk0 ((by rw [hg]; exact (below_size bH) : w.heap.size ≤ gb319)); have GE319 := mk0 ((by rw [hg]; exact (below_size bH) : w.heap.size ≤ gb319)); replace HB := hbB bH hb; have NB318_319 := mk0 ((by rw [hg]; exact Nat.ne_of_lt (blk_lt (g := gb318) (o := .cells #[.int .i64 a0_0, .slice A0_1 l0_1.length c0_1, .slice A0_2 l0_2.length c0_2] 34 (0, 0)) (uB BK318.out)) : gb318 ≠ gb319)); have NB319_318 := mk0 ((by rw [hg]; exact Nat.ne_of_gt (blk_lt (g := gb318) (o := .cells #[.int .i64 a0_0, .slice A0_1 l0_1.length c0_1, .slice A0_2 l0_2.length c0_2] 34 (0, 0)) (uB BK318.out)) : gb319 ≠ gb318)); replace BK318 := bB BK318 hb; clear hb hbox hg)))
 (try simp only [Act.put, List.setIfInBounds_toArray, List.set_cons_zero, List.set_cons_succ])
 go_cut [14] (fun v14 wc => ∃ (kq : Nat) (x14_1 : Bool), v14 = .bool x14_1 ∧ Aside0 (furrowref20_Check.j0 kq x14_1 a0_0 l0_1 l0_2 = some (r1, r2)) ∧ Aside0 (kq ≤ k) ∧ Aside0 (wc.heap[gb318]? = some (.cells #[.int .i64 a0_0, (.slice A0_1 l0_1.length c0_1), (.slice A0_2 l0_2.length c0_2)] 34 (0, 0))) ∧ Aside0 (wc.heap[gb319]? = some (.cells #[(.slice none 0 0), .int .i64 0] 30 (0, 0))) ∧ Aside0 (Below w.heap.size w wc))
 case first =>
  have H := HC2.out
  clear HC2
  by_cases c5 : a0_0 < 0
  ·rw [if_pos c5] at H
   have c5b0 : decide (a0_0 < 0) = true := decide_eq_true c5
   clear c5
   (first | rw [c5b0] | (simp only [i64_w, i32_w]; rw [c5b0]) | skip)
   have H' := mk0 H
   clear H
   have hnb6 := NB318_319.out
   have hnc6 := NB319_318.out
   obtain ⟨hcz7_0, hcz7_1, hcz7_2, hfz7_0, hfz7_1, hfz7_2⟩ := cL3 BK318
   go_wp2
   repeat (go_quiet (fail); try go_wp2)
   go_meet
   case rel => exact ⟨_, (true), (by first | rfl | (simp; done) | (simp [*]; done) | (simp [bne_nil_, beq_nil_]; done)), H', ⟨by first | omega | exact Nat.le_refl _⟩, ⟨uB BK318.out⟩, ⟨uB BK319.out⟩, ⟨bH⟩⟩
  ·rw [if_neg c5] at H
   have c5b0 : decide (a0_0 < 0) = false := decide_eq_false c5
   clear c5
   (first | rw [c5b0] | (simp only [i64_w, i32_w]; rw [c5b0]) | skip)
   have H' := mk0 H
   clear H
   have hnb8 := NB318_319.out
   have hnc8 := NB319_318.out
   obtain ⟨hcz9_0, hcz9_1, hcz9_2, hfz9_0, hfz9_1, hfz9_2⟩ := cL3 BK318
   go_wp2
   repeat (go_quiet (fail); try go_wp2)
   go_meet
   case rel => exact ⟨_, (decide (a0_0 > 16)), (by first | rfl | (simp; done) | (simp [*]; done) | (simp [bne_nil_, beq_nil_]; done)), H', ⟨by first | omega | exact Nat.le_refl _⟩, ⟨uB BK318.out⟩, ⟨uB BK319.out⟩, ⟨bH⟩⟩
 case rest =>
  clear HC2
  try clear p2
  try clear c5
  try clear c5b0
  try clear c6
  try clear c8
  try clear hcz7_0
  try clear hcz7_1
  try clear hcz7_2
  try clear hcz9_0
  try clear hcz9_1
  try clear hcz9_2
  try clear hfz7_0
  try clear hfz7_1
  try clear hfz7_2
  try clear hfz9_0
  try clear hfz9_1
  try clear hfz9_2
  obtain ⟨kq, x14_1, rfl, HA, HJ1, BK318, BK319, HB⟩ := hcut
  cases kq with
  | zero => exact absurd HA.out (by simp [furrowref20_Check.j0])
  | succ kj1 =>
   have H := HA.out
   clear HA
   simp only [furrowref20_Check.j0] at H
   by_cases c10 : x14_1 = true
   ·subst c10
    have H1 : ((furrowref4_At.f (⟨#[115, 121, 115]⟩ : ByteArray) 0 1).bind fun bt320 => (some (bt320.1, bt320.2))) = some (r1, r2) := by rw [if_pos rfl] at H; exact H
    clear H
    have H := H1
    clear H1
    replace H := Option.bind_eq_some_iff.mp H
    obtain ⟨⟨t320, t323⟩, A110, H⟩ := H
    dsimp only at H
    have A11 := mk0 A110
    clear A110
    simp only [Option.some.injEq, Prod.mk.injEq] at H
    obtain ⟨rfl, rfl⟩ := H
    go_wp2_with (first | (go_at_call 21; (with_reducible refine (furrowref4_At.calls (⟨#[115, 121, 115]⟩ : ByteArray) 0 1 t320 t323 _ A11.out).mono ?_); rintro e w12 ⟨v321, rfl, ho0, hb⟩; have HO322 := mk0 (Kd.R_lower ho0 (below_size bH)); replace BK318 := bB BK318 hb; replace BK319 := bB BK319 hb; replace HB := hbB bH hb; (try clear hb); (try clear hb2); (try clear hk); (try clear hi); (try clear ho0); obtain ⟨Ao13, co13, eo13⟩ := Kd.R_slice HO322.out; subst eo13; have hnb14 := NB319_318.out; have hnc14 := NB318_319.out; obtain ⟨hcz15_0, hcz15_1, hfz15_0, hfz15_1⟩ := cL2 BK319))
    repeat (go_quiet (first | (go_at_call 21; (with_reducible refine (furrowref4_At.calls (⟨#[115, 121, 115]⟩ : ByteArray) 0 1 t320 t323 _ A11.out).mono ?_); rintro e w12 ⟨v321, rfl, ho0, hb⟩; have HO322 := mk0 (Kd.R_lower ho0 (below_size bH)); replace BK318 := bB BK318 hb; replace BK319 := bB BK319 hb; replace HB := hbB bH hb; (try clear hb); (try clear hb2); (try clear hk); (try clear hi); (try clear ho0); obtain ⟨Ao13, co13, eo13⟩ := Kd.R_slice HO322.out; subst eo13; have hnb14 := NB319_318.out; have hnc14 := NB318_319.out; obtain ⟨hcz15_0, hcz15_1, hfz15_0, hfz15_1⟩ := cL2 BK319)); try go_wp2_with (first | (go_at_call 21; (with_reducible refine (furrowref4_At.calls (⟨#[115, 121, 115]⟩ : ByteArray) 0 1 t320 t323 _ A11.out).mono ?_); rintro e w12 ⟨v321, rfl, ho0, hb⟩; have HO322 := mk0 (Kd.R_lower ho0 (below_size bH)); replace BK318 := bB BK318 hb; replace BK319 := bB BK319 hb; replace HB := hbB bH hb; (try clear hb); (try clear hb2); (try clear hk); (try clear hi); (try clear ho0); obtain ⟨Ao13, co13, eo13⟩ := Kd.R_slice HO322.out; subst eo13; have hnb14 := NB319_318.out; have hnc14 := NB318_319.out; obtain ⟨hcz15_0, hcz15_1, hfz15_0, hfz15_1⟩ := cL2 BK319)))
    refine bodyPost_ret (results_cell_row rfl _ _ gb319 30 #[.slice Ao13 t320.length co13, .int .i64 t323] (0, 0) _ rfl (by (with_reducible repeat (first | refine blk_drewN ?_ _ | refine blk_drew ?_ | refine blk_alloc ?_ _)); refine blk_put (cs := #[.slice Ao13 t320.length co13, .int .i64 0]) ?_ 1 _ rfl; (with_reducible repeat (first | refine blk_drewN ?_ _ | refine blk_drew ?_ | refine blk_alloc ?_ _)); refine blk_put (cs := #[.slice none 0 0, .int .i64 0]) ?_ 0 _ rfl; (with_reducible repeat (first | refine blk_drewN ?_ _ | refine blk_drew ?_ | refine blk_alloc ?_ _)); exact BK319.out) Tryd.underlying30 rfl (by kernel_rfl)) rfl ?_
    exact ⟨_, rE, uR (Kd.R_mono (Kd.R_far (p := ⟨gb319, 1, none⟩) (Kd.R_far (p := ⟨gb319, 0, none⟩) (Kd.R_types HO322.out BK319.out (by decide)) (fun _ hk => hk.2) (.slice Ao13 t320.length co13)) (fun _ hk => hk.2) (.int .i64 t323)) (fun _ hk => trivial)), bH⟩
   ·replace c10 := Bool.eq_false_iff.mpr c10
    subst c10
    have H1 : ((furrowref20_all.f a0_0 l0_1 l0_2).bind fun t324 => (if (t324.length : Int) > 64 then ((furrowref4_At.f (⟨#[115, 121, 115]⟩ : ByteArray) 64 4).bind fun bt327 => (some (bt327.1, bt327.2))) else (furrowref20_Check.l0 kj1 t324 0 a0_0 l0_1 l0_2))) = some (r1, r2) := by rw [if_neg (show ¬ (false = true) by decide)] at H; exact H
    clear H
    have H := H1
    clear H1
    replace H := Option.bind_eq_some_iff.mp H
    obtain ⟨t324, A160, H⟩ := H
    have A16 := mk0 A160
    clear A160
    by_cases c17 : (t324.length : Int) > 64
    ·rw [if_pos c17] at H
     have c17b0 : decide (64 < (t324.length : Int)) = true := decide_eq_true c17
     have c17b1 : decide (64 < t324.length) = true := decide_eq_true (by omega)
     clear c17
     replace H := Option.bind_eq_some_iff.mp H
     obtain ⟨⟨t327, t330⟩, A180, H⟩ := H
     dsimp only at H
     have A18 := mk0 A180
     clear A180
     simp only [Option.some.injEq, Prod.mk.injEq] at H
     obtain ⟨rfl, rfl⟩ := H
     have hnb19 := NB318_319.out
     have hnc19 := NB319_318.out
     obtain ⟨hcz20_0, hcz20_1, hcz20_2, hfz20_0, hfz20_1, hfz20_2⟩ := cL3 BK318
     go_wp2_with (first | (go_at_call 22; (with_reducible refine (furrowref20_all.calls a0_0 (fun k_ => k_ < w.heap.size) _ _ l0_1 (fun k_ => k_ < w.heap.size) _ _ l0_2 t324 _ ?side1 ?side2 A16.out).mono ?_); (case side1 => exact Kd.V_mk HC0_1.out (Kd.F_below (Kd.C_F k65_heap HR0_1.out) bH)); (case side2 => exact Kd.V_mk HC0_2.out (Kd.F_below (Kd.C_F k65_heap HR0_2.out) bH)); rintro e w21 ⟨v325, rfl, ho0, hb⟩; have HO326 := mk0 (Kd.N_lower (Kd.N_mono (ok' := fun k_ => k_ ≠ gb318 ∧ k_ ≠ gb319) ho0 (fun k_ hk_ => ⟨Or.elim hk_ (fun hs_ => Or.elim hs_ (fun hs_ => fun e_ => Nat.not_le.2 hs_ (by rw [e_]; exact GW318.out)) (fun hs_ => fun e_ => Nat.not_le.2 hs_ (by rw [e_]; exact GW318.out))) (fun hn_ => (Kd.freshB (g := gb318) (o := .cells #[.int .i64 a0_0, .slice A0_1 l0_1.length c0_1, .slice A0_2 l0_2.length c0_2] 34 (0, 0)) (uB BK318.out) k_ hn_)), Or.elim hk_ (fun hs_ => Or.elim hs_ (fun hs_ => fun e_ => Nat.not_le.2 hs_ (by rw [e_]; exact GW319.out)) (fun hs_ => fun e_ => Nat.not_le.2 hs_ (by rw [e_]; exact GW319.out))) (fun hn_ => (Kd.freshB (g := gb319) (o := .cells #[.slice none 0 0, .int .i64 0] 30 (0, 0)) (uB BK319.out) k_ hn_))⟩)) (below_size bH)); replace BK318 := bB BK318 hb; replace BK319 := bB BK319 hb; replace HB := hbB bH hb; (try clear hb); (try clear hb2); (try clear hk); (try clear hi); (try clear ho0); obtain ⟨Ao22, co22, eo22⟩ := Kd.N_slice HO326.out; subst eo22; clear HO326) | (go_at_call 21; (with_reducible refine (furrowref4_At.calls (⟨#[115, 121, 115]⟩ : ByteArray) 64 4 t327 t330 _ A18.out).mono ?_); rintro e w23 ⟨v328, rfl, ho0, hb⟩; have HO329 := mk0 (Kd.R_lower ho0 (below_size bH)); replace BK318 := bB BK318 hb; replace BK319 := bB BK319 hb; replace HB := hbB bH hb; (try clear hb); (try clear hb2); (try clear hk); (try clear hi); (try clear ho0); obtain ⟨Ao24, co24, eo24⟩ := Kd.R_slice HO329.out; subst eo24; obtain ⟨hcz25_0, hcz25_1, hfz25_0, hfz25_1⟩ := cL2 BK319))
     repeat (go_quiet (first | (go_at_call 22; (with_reducible refine (furrowref20_all.calls a0_0 (fun k_ => k_ < w.heap.size) _ _ l0_1 (fun k_ => k_ < w.heap.size) _ _ l0_2 t324 _ ?side1 ?side2 A16.out).mono ?_); (case side1 => exact Kd.V_mk HC0_1.out (Kd.F_below (Kd.C_F k65_heap HR0_1.out) bH)); (case side2 => exact Kd.V_mk HC0_2.out (Kd.F_below (Kd.C_F k65_heap HR0_2.out) bH)); rintro e w21 ⟨v325, rfl, ho0, hb⟩; have HO326 := mk0 (Kd.N_lower (Kd.N_mono (ok' := fun k_ => k_ ≠ gb318 ∧ k_ ≠ gb319) ho0 (fun k_ hk_ => ⟨Or.elim hk_ (fun hs_ => Or.elim hs_ (fun hs_ => fun e_ => Nat.not_le.2 hs_ (by rw [e_]; exact GW318.out)) (fun hs_ => fun e_ => Nat.not_le.2 hs_ (by rw [e_]; exact GW318.out))) (fun hn_ => (Kd.freshB (g := gb318) (o := .cells #[.int .i64 a0_0, .slice A0_1 l0_1.length c0_1, .slice A0_2 l0_2.length c0_2] 34 (0, 0)) (uB BK318.out) k_ hn_)), Or.elim hk_ (fun hs_ => Or.elim hs_ (fun hs_ => fun e_ => Nat.not_le.2 hs_ (by rw [e_]; exact GW319.out)) (fun hs_ => fun e_ => Nat.not_le.2 hs_ (by rw [e_]; exact GW319.out))) (fun hn_ => (Kd.freshB (g := gb319) (o := .cells #[.slice none 0 0, .int .i64 0] 30 (0, 0)) (uB BK319.out) k_ hn_))⟩)) (below_size bH)); replace BK318 := bB BK318 hb; replace BK319 := bB BK319 hb; replace HB := hbB bH hb; (try clear hb); (try clear hb2); (try clear hk); (try clear hi); (try clear ho0); obtain ⟨Ao22, co22, eo22⟩ := Kd.N_slice HO326.out; subst eo22; clear HO326) | (go_at_call 21; (with_reducible refine (furrowref4_At.calls (⟨#[115, 121, 115]⟩ : ByteArray) 64 4 t327 t330 _ A18.out).mono ?_); rintro e w23 ⟨v328, rfl, ho0, hb⟩; have HO329 := mk0 (Kd.R_lower ho0 (below_size bH)); replace BK318 := bB BK318 hb; replace BK319 := bB BK319 hb; replace HB := hbB bH hb; (try clear hb); (try clear hb2); (try clear hk); (try clear hi); (try clear ho0); obtain ⟨Ao24, co24, eo24⟩ := Kd.R_slice HO329.out; subst eo24; obtain ⟨hcz25_0, hcz25_1, hfz25_0, hfz25_1⟩ := cL2 BK319)); try go_wp2_with (first | (go_at_call 22; (with_reducible refine (furrowref20_all.calls a0_0 (fun k_ => k_ < w.heap.size) _ _ l0_1 (fun k_ => k_ < w.heap.size) _ _ l0_2 t324 _ ?side1 ?side2 A16.out).mono ?_); (case side1 => exact Kd.V_mk HC0_1.out (Kd.F_below (Kd.C_F k65_heap HR0_1.out) bH)); (case side2 => exact Kd.V_mk HC0_2.out (Kd.F_below (Kd.C_F k65_heap HR0_2.out) bH)); rintro e w21 ⟨v325, rfl, ho0, hb⟩; have HO326 := mk0 (Kd.N_lower (Kd.N_mono (ok' := fun k_ => k_ ≠ gb318 ∧ k_ ≠ gb319) ho0 (fun k_ hk_ => ⟨Or.elim hk_ (fun hs_ => Or.elim hs_ (fun hs_ => fun e_ => Nat.not_le.2 hs_ (by rw [e_]; exact GW318.out)) (fun hs_ => fun e_ => Nat.not_le.2 hs_ (by rw [e_]; exact GW318.out))) (fun hn_ => (Kd.freshB (g := gb318) (o := .cells #[.int .i64 a0_0, .slice A0_1 l0_1.length c0_1, .slice A0_2 l0_2.length c0_2] 34 (0, 0)) (uB BK318.out) k_ hn_)), Or.elim hk_ (fun hs_ => Or.elim hs_ (fun hs_ => fun e_ => Nat.not_le.2 hs_ (by rw [e_]; exact GW319.out)) (fun hs_ => fun e_ => Nat.not_le.2 hs_ (by rw [e_]; exact GW319.out))) (fun hn_ => (Kd.freshB (g := gb319) (o := .cells #[.slice none 0 0, .int .i64 0] 30 (0, 0)) (uB BK319.out) k_ hn_))⟩)) (below_size bH)); replace BK318 := bB BK318 hb; replace BK319 := bB BK319 hb; replace HB := hbB bH hb; (try clear hb); (try clear hb2); (try clear hk); (try clear hi); (try clear ho0); obtain ⟨Ao22, co22, eo22⟩ := Kd.N_slice HO326.out; subst eo22; clear HO326) | (go_at_call 21; (with_reducible refine (furrowref4_At.calls (⟨#[115, 121, 115]⟩ : ByteArray) 64 4 t327 t330 _ A18.out).mono ?_); rintro e w23 ⟨v328, rfl, ho0, hb⟩; have HO329 := mk0 (Kd.R_lower ho0 (below_size bH)); replace BK318 := bB BK318 hb; replace BK319 := bB BK319 hb; replace HB := hbB bH hb; (try clear hb); (try clear hb2); (try clear hk); (try clear hi); (try clear ho0); obtain ⟨Ao24, co24, eo24⟩ := Kd.R_slice HO329.out; subst eo24; obtain ⟨hcz25_0, hcz25_1, hfz25_0, hfz25_1⟩ := cL2 BK319)))
     refine bodyPost_ret (results_cell_row rfl _ _ gb319 30 #[.slice Ao24 t327.length co24, .int .i64 t330] (0, 0) _ rfl (by (with_reducible repeat (first | refine blk_drewN ?_ _ | refine blk_drew ?_ | refine blk_alloc ?_ _)); refine blk_put (cs := #[.slice Ao24 t327.length co24, .int .i64 0]) ?_ 1 _ rfl; (with_reducible repeat (first | refine blk_drewN ?_ _ | refine blk_drew ?_ | refine blk_alloc ?_ _)); refine blk_put (cs := #[.slice none 0 0, .int .i64 0]) ?_ 0 _ rfl; (with_reducible repeat (first | refine blk_drewN ?_ _ | refine blk_drew ?_ | refine blk_alloc ?_ _)); exact BK319.out) Tryd.underlying30 rfl (by kernel_rfl)) rfl ?_
     exact ⟨_, rE, uR (Kd.R_mono (Kd.R_far (p := ⟨gb319, 1, none⟩) (Kd.R_far (p := ⟨gb319, 0, none⟩) (Kd.R_types HO329.out BK319.out (by decide)) (fun _ hk => hk.2) (.slice Ao24 t327.length co24)) (fun _ hk => hk.2) (.int .i64 t330)) (fun _ hk => trivial)), bH⟩
    ·rw [if_neg c17] at H
     have c17b0 : decide (64 < (t324.length : Int)) = false := decide_eq_false c17
     have c17b1 : decide (64 < t324.length) = false := decide_eq_false (by omega)
     clear c17
     have H' := mk0 H
     clear H
     have hnb26 := NB318_319.out
     have hnc26 := NB319_318.out
     obtain ⟨hcz27_0, hcz27_1, hcz27_2, hfz27_0, hfz27_1, hfz27_2⟩ := cL3 BK318
     go_wp2_with (first | (go_at_call 22; (with_reducible refine (furrowref20_all.calls a0_0 (fun k_ => k_ < w.heap.size) _ _ l0_1 (fun k_ => k_ < w.heap.size) _ _ l0_2 t324 _ ?side1 ?side2 A16.out).mono ?_); (case side1 => exact Kd.V_mk HC0_1.out (Kd.F_below (Kd.C_F k65_heap HR0_1.out) bH)); (case side2 => exact Kd.V_mk HC0_2.out (Kd.F_below (Kd.C_F k65_heap HR0_2.out) bH)); rintro e w28 ⟨v325, rfl, ho0, hb⟩; have HO326 := mk0 (Kd.N_lower (Kd.N_mono (ok' := fun k_ => k_ ≠ gb318 ∧ k_ ≠ gb319) ho0 (fun k_ hk_ => ⟨Or.elim hk_ (fun hs_ => Or.elim hs_ (fun hs_ => fun e_ => Nat.not_le.2 hs_ (by rw [e_]; exact GW318.out)) (fun hs_ => fun e_ => Nat.not_le.2 hs_ (by rw [e_]; exact GW318.out))) (fun hn_ => (Kd.freshB (g := gb318) (o := .cells #[.int .i64 a0_0, .slice A0_1 l0_1.length c0_1, .slice A0_2 l0_2.length c0_2] 34 (0, 0)) (uB BK318.out) k_ hn_)), Or.elim hk_ (fun hs_ => Or.elim hs_ (fun hs_ => fun e_ => Nat.not_le.2 hs_ (by rw [e_]; exact GW319.out)) (fun hs_ => fun e_ => Nat.not_le.2 hs_ (by rw [e_]; exact GW319.out))) (fun hn_ => (Kd.freshB (g := gb319) (o := .cells #[.slice none 0 0, .int .i64 0] 30 (0, 0)) (uB BK319.out) k_ hn_))⟩)) (below_size bH)); replace BK318 := bB BK318 hb; replace BK319 := bB BK319 hb; replace HB := hbB bH hb; (try clear hb); (try clear hb2); (try clear hk); (try clear hi); (try clear ho0); obtain ⟨Ao29, co29, eo29⟩ := Kd.N_slice HO326.out; subst eo29))
     repeat (go_quiet (first | (go_at_call 22; (with_reducible refine (furrowref20_all.calls a0_0 (fun k_ => k_ < w.heap.size) _ _ l0_1 (fun k_ => k_ < w.heap.size) _ _ l0_2 t324 _ ?side1 ?side2 A16.out).mono ?_); (case side1 => exact Kd.V_mk HC0_1.out (Kd.F_below (Kd.C_F k65_heap HR0_1.out) bH)); (case side2 => exact Kd.V_mk HC0_2.out (Kd.F_below (Kd.C_F k65_heap HR0_2.out) bH)); rintro e w28 ⟨v325, rfl, ho0, hb⟩; have HO326 := mk0 (Kd.N_lower (Kd.N_mono (ok' := fun k_ => k_ ≠ gb318 ∧ k_ ≠ gb319) ho0 (fun k_ hk_ => ⟨Or.elim hk_ (fun hs_ => Or.elim hs_ (fun hs_ => fun e_ => Nat.not_le.2 hs_ (by rw [e_]; exact GW318.out)) (fun hs_ => fun e_ => Nat.not_le.2 hs_ (by rw [e_]; exact GW318.out))) (fun hn_ => (Kd.freshB (g := gb318) (o := .cells #[.int .i64 a0_0, .slice A0_1 l0_1.length c0_1, .slice A0_2 l0_2.length c0_2] 34 (0, 0)) (uB BK318.out) k_ hn_)), Or.elim hk_ (fun hs_ => Or.elim hs_ (fun hs_ => fun e_ => Nat.not_le.2 hs_ (by rw [e_]; exact GW319.out)) (fun hs_ => fun e_ => Nat.not_le.2 hs_ (by rw [e_]; exact GW319.out))) (fun hn_ => (Kd.freshB (g := gb319) (o := .cells #[.slice none 0 0, .int .i64 0] 30 (0, 0)) (uB BK319.out) k_ hn_))⟩)) (below_size bH)); replace BK318 := bB BK318 hb; replace BK319 := bB BK319 hb; replace HB := hbB bH hb; (try clear hb); (try clear hb2); (try clear hk); (try clear hi); (try clear ho0); obtain ⟨Ao29, co29, eo29⟩ := Kd.N_slice HO326.out; subst eo29)); try go_wp2_with (first | (go_at_call 22; (with_reducible refine (furrowref20_all.calls a0_0 (fun k_ => k_ < w.heap.size) _ _ l0_1 (fun k_ => k_ < w.heap.size) _ _ l0_2 t324 _ ?side1 ?side2 A16.out).mono ?_); (case side1 => exact Kd.V_mk HC0_1.out (Kd.F_below (Kd.C_F k65_heap HR0_1.out) bH)); (case side2 => exact Kd.V_mk HC0_2.out (Kd.F_below (Kd.C_F k65_heap HR0_2.out) bH)); rintro e w28 ⟨v325, rfl, ho0, hb⟩; have HO326 := mk0 (Kd.N_lower (Kd.N_mono (ok' := fun k_ => k_ ≠ gb318 ∧ k_ ≠ gb319) ho0 (fun k_ hk_ => ⟨Or.elim hk_ (fun hs_ => Or.elim hs_ (fun hs_ => fun e_ => Nat.not_le.2 hs_ (by rw [e_]; exact GW318.out)) (fun hs_ => fun e_ => Nat.not_le.2 hs_ (by rw [e_]; exact GW318.out))) (fun hn_ => (Kd.freshB (g := gb318) (o := .cells #[.int .i64 a0_0, .slice A0_1 l0_1.length c0_1, .slice A0_2 l0_2.length c0_2] 34 (0, 0)) (uB BK318.out) k_ hn_)), Or.elim hk_ (fun hs_ => Or.elim hs_ (fun hs_ => fun e_ => Nat.not_le.2 hs_ (by rw [e_]; exact GW319.out)) (fun hs_ => fun e_ => Nat.not_le.2 hs_ (by rw [e_]; exact GW319.out))) (fun hn_ => (Kd.freshB (g := gb319) (o := .cells #[.slice none 0 0, .int .i64 0] 30 (0, 0)) (uB BK319.out) k_ hn_))⟩)) (below_size bH)); replace BK318 := bB BK318 hb; replace BK319 := bB BK319 hb; replace HB := hbB bH hb; (try clear hb); (try clear hb2); (try clear hk); (try clear hi); (try clear ho0); obtain ⟨Ao29, co29, eo29⟩ := Kd.N_slice HO326.out; subst eo29)))
     go_loopg [4] kj1 (fun kq v4 w' => ∃ (x4_2 : Int) (x320001_2 : Int), v4 = .int .i64 x4_2 ∧ Aside0 (furrowref20_Check.l0 kq t324 x4_2 a0_0 l0_1 l0_2 = some (r1, r2)) ∧ Aside0 (kq ≤ kj1) ∧ Aside0 (Kd.N k65 65 w' w.heap.size (fun k_ => k_ ≠ gb318 ∧ k_ ≠ gb319) (.slice Ao29 t324.length co29) t324) ∧ Aside0 (w'.heap[gb318]? = some (.cells #[.int .i64 a0_0, (.slice A0_1 l0_1.length c0_1), (.slice A0_2 l0_2.length c0_2)] 34 (0, 0))) ∧ Aside0 (w'.heap[gb319]? = some (.cells #[(.slice none 0 0), .int .i64 x320001_2] 30 (0, 0))) ∧ Aside0 (Below w.heap.size w w'))
     case atStart => exact ⟨(0), (0), (by first | rfl | (simp; done) | (simp [*]; done) | (simp [bne_nil_, beq_nil_]; done)), H', ⟨Nat.le_refl _⟩, ⟨uN HO326.out⟩, ⟨uB BK318.out⟩, ⟨uB BK319.out⟩, ⟨bH⟩⟩
     case round =>
      clear H'
      try clear c1
      try clear c2
      try clear p2
      try clear c5
      try clear c5b0
      try clear c6
      try clear c8
      try clear c10
      try clear c14
      try clear c17
      try clear c17b0
      try clear c17b1
      try clear c19
      try clear c26
      try clear hcz15_0
      try clear hcz15_1
      try clear hcz20_0
      try clear hcz20_1
      try clear hcz20_2
      try clear hcz25_0
      try clear hcz25_1
      try clear hcz27_0
      try clear hcz27_1
      try clear hcz27_2
      try clear hcz7_0
      try clear hcz7_1
      try clear hcz7_2
      try clear hcz9_0
      try clear hcz9_1
      try clear hcz9_2
      try clear hfz15_0
      try clear hfz15_1
      try clear hfz20_0
      try clear hfz20_1
      try clear hfz20_2
      try clear hfz25_0
      try clear hfz25_1
      try clear hfz27_0
      try clear hfz27_1
      try clear hfz27_2
      try clear hfz7_0
      try clear hfz7_1
      try clear hfz7_2
      try clear hfz9_0
      try clear hfz9_1
      try clear hfz9_2
      try clear p2
      obtain ⟨x4_2, x320001_2, rfl, HA, HK2, HO_3, BK318, BK319, HB⟩ := hrel
      cases gk with
      | zero => exact absurd HA.out (by simp [furrowref20_Check.l0])
      | succ k2 =>
       have H := HA.out
       clear HA
       simp only [furrowref20_Check.l0] at H
       by_cases c30 : x4_2 < (t324.length : Int)
       ·rw [if_pos c30] at H
        have c30b0 : decide (x4_2 < (t324.length : Int)) = true := decide_eq_true c30
        clear c30
        by_cases c31 : 0 ≤ x4_2
        ·rw [if_pos c31] at H
         have c31b0 : decide (0 ≤ x4_2) = true := decide_eq_true c31
         clear c31
         by_cases c32 : (((rd_T65 t324 x4_2).f0).length : Int) = a0_0
         ·rw [if_pos c32] at H
          have c32b0 : ((((rd_T65 t324 x4_2).f0).length : Int) == a0_0) = true := beq_iff_eq.mpr c32
          have c32b1 : ((((rd_T65 t324 x4_2).f0).length : Int) != a0_0) = false := bne_eq_false_iff_eq.mpr c32
          clear c32
          replace H := Option.bind_eq_some_iff.mp H
          obtain ⟨t337, A330, H⟩ := H
          have A33 := mk0 A330
          clear A330
          have H' := mk0 H
          clear H
          have p331 : 0 ≤ (x4_2 : Int) := of_decide_eq_true (by first | (with_reducible assumption) | assumption)
          have q331 : x4_2 < (t324.length : Int) := of_decide_eq_true (by first | (with_reducible assumption) | assumption)
          obtain ⟨ad331, A331_0, c331_0, e331, hx331_0, hx331_1, hl331_0, hi331_0⟩ := at_T65 (Kd.N_reads' HO_3.out).2.2 x4_2 p331 q331
          cases e331
          obtain ⟨ce331, hce331, hMe331, hcc331⟩ := Kd.N_get HO_3.out z65 x4_2 p331 (by first | exact q331 | exact of_decide_eq_true (by first | (with_reducible assumption) | assumption) | (have e_ := (Kd.N_reads' HO_3.out).1; omega))
          obtain ⟨ua331_0, uc331_0, rfl, ul331_0, ge331_0⟩ := k65_openF hMe331
          have hv331_0 := hcc331 0 _ rfl
          rw [Nat.add_zero] at hv331_0
          replace hv331_0 := Option.some.inj (hv331_0.symm.trans hx331_0)
          injection hv331_0 with hva_ hvn_ hvc_
          rw [hva_] at ge331_0
          rw [hvc_] at ul331_0
          have HL331_0 := mk0 (show Kd.V (Kd.int .i64) 2 _ w.heap.size _ _ ((rd_T65 t324 x4_2).f0) from Kd.V_mk ul331_0 ge331_0)
          clear hva_ hvn_ hvc_ ge331_0 ul331_0
          clear hcc331 hce331
          have HR331_0 := mk0 hi331_0
          have HC331_0 := mk0 hl331_0
          clear hi331_0 hl331_0
          replace p331 := eq_true p331
          replace q331 := eq_true q331
          have hnb34 := NB318_319.out
          have hnc34 := NB319_318.out
          obtain ⟨hcz35_0, hcz35_1, hcz35_2, hfz35_0, hfz35_1, hfz35_2⟩ := cL3 BK318
          have p336 : 0 ≤ (x4_2 : Int) := of_decide_eq_true (by first | (with_reducible assumption) | assumption)
          have q336 : x4_2 < (t324.length : Int) := of_decide_eq_true (by first | (with_reducible assumption) | assumption)
          obtain ⟨ad336, A336_0, c336_0, e336, hx336_0, hx336_1, hl336_0, hi336_0⟩ := at_T65 (Kd.N_reads' HO_3.out).2.2 x4_2 p336 q336
          obtain rfl : ad331 = ad336 := (by injection e336)
          obtain ⟨ce336, hce336, hMe336, hcc336⟩ := Kd.N_get HO_3.out z65 x4_2 p336 (by first | exact q336 | exact of_decide_eq_true (by first | (with_reducible assumption) | assumption) | (have e_ := (Kd.N_reads' HO_3.out).1; omega))
          obtain ⟨ua336_0, uc336_0, rfl, ul336_0, ge336_0⟩ := k65_openF hMe336
          have hv336_0 := hcc336 0 _ rfl
          rw [Nat.add_zero] at hv336_0
          replace hv336_0 := Option.some.inj (hv336_0.symm.trans hx336_0)
          injection hv336_0 with hva_ hvn_ hvc_
          rw [hva_] at ge336_0
          rw [hvc_] at ul336_0
          have HL336_0 := mk0 (show Kd.V (Kd.int .i64) 2 _ w.heap.size _ _ ((rd_T65 t324 x4_2).f0) from Kd.V_mk ul336_0 ge336_0)
          clear hva_ hvn_ hvc_ ge336_0 ul336_0
          clear hcc336 hce336
          have HR336_0 := mk0 hi336_0
          have HC336_0 := mk0 hl336_0
          clear hi336_0 hl336_0
          replace p336 := eq_true p336
          replace q336 := eq_true q336
          have ea_ := Option.some.inj (hx331_0.symm.trans hx336_0)
          injection ea_ with ea_ en_ ec_
          subst ea_
          subst ec_
          clear en_
          go_wp2_with (first | (go_at_call 23; (with_reducible refine (furrowref20_beyond.calls ((rd_T65 t324 x4_2).f1) 1073741824 t337 _ A33.out).mono ?_); rintro e w' ⟨rfl, ⟨nd, rfl⟩⟩; (try first | exact ⟨rfl, _, World.drewN_drewN _ _ _⟩ | exact ⟨rfl, _, Eq.trans (World.drewN_drewN _ _ _) (congrArg (World.drewN _) (Nat.add_assoc _ _ _))⟩)))
          repeat (go_quiet (first | (go_at_call 23; (with_reducible refine (furrowref20_beyond.calls ((rd_T65 t324 x4_2).f1) 1073741824 t337 _ A33.out).mono ?_); rintro e w' ⟨rfl, ⟨nd, rfl⟩⟩; (try first | exact ⟨rfl, _, World.drewN_drewN _ _ _⟩ | exact ⟨rfl, _, Eq.trans (World.drewN_drewN _ _ _) (congrArg (World.drewN _) (Nat.add_assoc _ _ _))⟩))); try go_wp2_with (first | (go_at_call 23; (with_reducible refine (furrowref20_beyond.calls ((rd_T65 t324 x4_2).f1) 1073741824 t337 _ A33.out).mono ?_); rintro e w' ⟨rfl, ⟨nd, rfl⟩⟩; (try first | exact ⟨rfl, _, World.drewN_drewN _ _ _⟩ | exact ⟨rfl, _, Eq.trans (World.drewN_drewN _ _ _) (congrArg (World.drewN _) (Nat.add_assoc _ _ _))⟩))))
          go_loopg [5, 6] k2 (fun kq v5 v6 w' => ∃ (x5_3 : Bool) (x6_3 : Int), v5 = .bool x5_3 ∧ v6 = .int .i64 x6_3 ∧ Aside0 (furrowref20_Check.l1 kq t324 x4_2 x5_3 x6_3 a0_0 l0_1 l0_2 = some (r1, r2)) ∧ Aside0 (kq ≤ k2) ∧ Aside0 (Kd.N k65 65 w' w.heap.size (fun k_ => k_ ≠ gb318 ∧ k_ ≠ gb319) (.slice (some ad331) t324.length co29) t324) ∧ Aside0 (w'.heap[gb318]? = some (.cells #[.int .i64 a0_0, (.slice A0_1 l0_1.length c0_1), (.slice A0_2 l0_2.length c0_2)] 34 (0, 0))) ∧ Aside0 (w'.heap[gb319]? = some (.cells #[(.slice none 0 0), .int .i64 x320001_2] 30 (0, 0))) ∧ Aside0 (Kd.C (Kd.int .i64) w' A331_0 ((rd_T65 t324 x4_2).f0).length ((rd_T65 t324 x4_2).f0)) ∧ Aside0 (Kd.C (Kd.int .i64) w' A331_0 ((rd_T65 t324 x4_2).f0).length ((rd_T65 t324 x4_2).f0)) ∧ Aside0 (Below w.heap.size w w'))
          case atStart => exact ⟨(t337), (0), (by first | rfl | (simp; done) | (simp [*]; done) | (simp [bne_nil_, beq_nil_]; done)), (by first | rfl | (simp; done) | (simp [*]; done) | (simp [bne_nil_, beq_nil_]; done)), H', ⟨Nat.le_refl _⟩, ⟨uN HO_3.out⟩, ⟨uB BK318.out⟩, ⟨uB BK319.out⟩, ⟨by repeat (first | (with_reducible exact HR331_0.out) | (with_reducible refine Kd.C_alloc ?_ _) | (with_reducible refine Kd.C_drewN ?_ _) | (with_reducible refine Kd.C_drew ?_) | exact HR331_0.out)⟩, ⟨by repeat (first | (with_reducible exact HR336_0.out) | (with_reducible refine Kd.C_alloc ?_ _) | (with_reducible refine Kd.C_drewN ?_ _) | (with_reducible refine Kd.C_drew ?_) | exact HR336_0.out)⟩, ⟨bH⟩⟩
          case round =>
           clear H'
           try clear c1
           try clear c2
           try clear p2
           try clear c3
           try clear p3
           try clear q3
           try clear hx3
           try clear c5
           try clear c5b0
           try clear c6
           try clear c8
           try clear c10
           try clear c14
           try clear c17
           try clear c17b0
           try clear c17b1
           try clear c19
           try clear c26
           try clear c30
           try clear c30b0
           try clear c31
           try clear c31b0
           try clear c32
           try clear c32b0
           try clear c32b1
           try clear c33
           try clear p33
           try clear q33
           try clear hx33
           try clear c34
           try clear hcz15_0
           try clear hcz15_1
           try clear hcz20_0
           try clear hcz20_1
           try clear hcz20_2
           try clear hcz25_0
           try clear hcz25_1
           try clear hcz27_0
           try clear hcz27_1
           try clear hcz27_2
           try clear hcz35_0
           try clear hcz35_1
           try clear hcz35_2
           try clear hcz7_0
           try clear hcz7_1
           try clear hcz7_2
           try clear hcz9_0
           try clear hcz9_1
           try clear hcz9_2
           try clear hfz15_0
           try clear hfz15_1
           try clear hfz20_0
           try clear hfz20_1
           try clear hfz20_2
           try clear hfz25_0
           try clear hfz25_1
           try clear hfz27_0
           try clear hfz27_1
           try clear hfz27_2
           try clear hfz35_0
           try clear hfz35_1
           try clear hfz35_2
           try clear hfz7_0
           try clear hfz7_1
           try clear hfz7_2
           try clear hfz9_0
           try clear hfz9_1
           try clear hfz9_2
           try clear hx331_0
           try clear hx331_1
           try clear hx336_0
           try clear hx336_1
           try clear p2
           try clear p331
           try clear p336
           try clear q331
           try clear q336
           obtain ⟨x5_3, x6_3, rfl, rfl, HA, HK3, HO_3, BK318, BK319, HR331_0, HR336_0, HB⟩ := hrel
           cases gk with
           | zero => exact absurd HA.out (by simp [furrowref20_Check.l1])
           | succ k3 =>
            have H := HA.out
            clear HA
            simp only [furrowref20_Check.l1] at H
            by_cases c36 : x6_3 < a0_0
            ·rw [if_pos c36] at H
             have c36b0 : decide (x6_3 < a0_0) = true := decide_eq_true c36
             clear c36
             by_cases c37 : x5_3 = true
             ·subst c37
              have H1 : (furrowref20_Check.l1 k3 t324 x4_2 true (wrap64 (x6_3 + 1)) a0_0 l0_1 l0_2) = some (r1, r2) := by rw [if_pos rfl] at H; exact H
              clear H
              have H := H1
              clear H1
              have H' := mk0 H
              clear H
              have hnb38 := NB318_319.out
              have hnc38 := NB319_318.out
              obtain ⟨hcz39_0, hcz39_1, hcz39_2, hfz39_0, hfz39_1, hfz39_2⟩ := cL3 BK318
              go_wp2
              repeat (go_quiet (fail); try go_wp2)
              go_roundg k3
              case measure => have := HJ1.out; have := HK2.out; have := HK3.out; omega
              case rel => exact ⟨(true), (wrap64 (x6_3 + 1)), (by first | rfl | (simp; done) | (simp [*]; done) | (simp [bne_nil_, beq_nil_]; done)), (by first | rfl | (simp; done) | (simp [*]; done) | (simp [bne_nil_, beq_nil_]; done)), H', ⟨by have := HJ1.out; have := HK2.out; have := HK3.out; omega⟩, ⟨uN HO_3.out⟩, ⟨uB BK318.out⟩, ⟨uB BK319.out⟩, ⟨by repeat (first | (with_reducible exact HR331_0.out) | (with_reducible refine Kd.C_alloc ?_ _) | (with_reducible refine Kd.C_drewN ?_ _) | (with_reducible refine Kd.C_drew ?_) | exact HR331_0.out)⟩, ⟨by repeat (first | (with_reducible exact HR336_0.out) | (with_reducible refine Kd.C_alloc ?_ _) | (with_reducible refine Kd.C_drewN ?_ _) | (with_reducible refine Kd.C_drew ?_) | exact HR336_0.out)⟩, ⟨bH⟩⟩
             ·replace c37 := Bool.eq_false_iff.mpr c37
              subst c37
              have H1 : (if 0 ≤ x4_2 then (if x4_2 < (t324.length : Int) then (if 0 ≤ x6_3 then (if x6_3 < (((rd_T65 t324 x4_2).f0).length : Int) then ((furrowref20_beyond.f (rd ((rd_T65 t324 x4_2).f0) x6_3) 1073741824).bind fun t340 => (furrowref20_Check.l1 k3 t324 x4_2 t340 (wrap64 (x6_3 + 1)) a0_0 l0_1 l0_2)) else (none)) else (none)) else (none)) else (none)) = some (r1, r2) := by rw [if_neg (show ¬ (false = true) by decide)] at H; exact H
              clear H
              have H := H1
              clear H1
              by_cases c40 : 0 ≤ x4_2
              ·rw [if_pos c40] at H
               have c40b0 : decide (0 ≤ x4_2) = true := decide_eq_true c40
               clear c40
               by_cases c41 : x4_2 < (t324.length : Int)
               ·rw [if_pos c41] at H
                have c41b0 : decide (x4_2 < (t324.length : Int)) = true := decide_eq_true c41
                clear c41
                by_cases c42 : 0 ≤ x6_3
                ·rw [if_pos c42] at H
                 have c42b0 : decide (0 ≤ x6_3) = true := decide_eq_true c42
                 clear c42
                 by_cases c43 : x6_3 < (((rd_T65 t324 x4_2).f0).length : Int)
                 ·rw [if_pos c43] at H
                  have c43b0 : decide (x6_3 < (((rd_T65 t324 x4_2).f0).length : Int)) = true := decide_eq_true c43
                  clear c43
                  replace H := Option.bind_eq_some_iff.mp H
                  obtain ⟨t340, A440, H⟩ := H
                  have A44 := mk0 A440
                  clear A440
                  have H' := mk0 H
                  clear H
                  have hnb45 := NB318_319.out
                  have hnc45 := NB319_318.out
                  obtain ⟨hcz46_0, hcz46_1, hcz46_2, hfz46_0, hfz46_1, hfz46_2⟩ := cL3 BK318
                  have p338 : 0 ≤ (x4_2 : Int) := of_decide_eq_true (by first | (with_reducible assumption) | assumption)
                  have q338 : x4_2 < (t324.length : Int) := of_decide_eq_true (by first | (with_reducible assumption) | assumption)
                  obtain ⟨ad338, A338_0, c338_0, e338, hx338_0, hx338_1, hl338_0, hi338_0⟩ := at_T65 (Kd.N_reads' HO_3.out).2.2 x4_2 p338 q338
                  obtain rfl : ad331 = ad338 := (by injection e338)
                  obtain ⟨ce338, hce338, hMe338, hcc338⟩ := Kd.N_get HO_3.out z65 x4_2 p338 (by first | exact q338 | exact of_decide_eq_true (by first | (with_reducible assumption) | assumption) | (have e_ := (Kd.N_reads' HO_3.out).1; omega))
                  obtain ⟨ua338_0, uc338_0, rfl, ul338_0, ge338_0⟩ := k65_openF hMe338
                  have hv338_0 := hcc338 0 _ rfl
                  rw [Nat.add_zero] at hv338_0
                  replace hv338_0 := Option.some.inj (hv338_0.symm.trans hx338_0)
                  injection hv338_0 with hva_ hvn_ hvc_
                  rw [hva_] at ge338_0
                  rw [hvc_] at ul338_0
                  have HL338_0 := mk0 (show Kd.V (Kd.int .i64) 2 _ w.heap.size _ _ ((rd_T65 t324 x4_2).f0) from Kd.V_mk ul338_0 ge338_0)
                  clear hva_ hvn_ hvc_ ge338_0 ul338_0
                  clear hcc338 hce338
                  have HR338_0 := mk0 hi338_0
                  have HC338_0 := mk0 hl338_0
                  clear hi338_0 hl338_0
                  replace p338 := eq_true p338
                  replace q338 := eq_true q338
                  have p339 : 0 ≤ (x6_3 : Int) := of_decide_eq_true (by first | (with_reducible assumption) | assumption)
                  have q339 : x6_3 < (((rd_T65 t324 x4_2).f0).length : Int) := of_decide_eq_true (by first | (with_reducible assumption) | assumption)
                  obtain ⟨ad339, e339, hx339_0⟩ := Kd.at_int (by repeat (first | (with_reducible exact HR338_0.out) | (with_reducible refine Kd.C_alloc ?_ _) | (with_reducible refine Kd.C_drewN ?_ _) | (with_reducible refine Kd.C_drew ?_) | exact HR338_0.out)) x6_3 p339 q339
                  cases e339
                  replace p339 := eq_true p339
                  replace q339 := eq_true q339
                  go_wp2_with (first | (go_at_call 23; (with_reducible refine (furrowref20_beyond.calls (rd ((rd_T65 t324 x4_2).f0) x6_3) 1073741824 t340 _ A44.out).mono ?_); rintro e w' ⟨rfl, ⟨nd, rfl⟩⟩; (try first | exact ⟨rfl, _, World.drewN_drewN _ _ _⟩ | exact ⟨rfl, _, Eq.trans (World.drewN_drewN _ _ _) (congrArg (World.drewN _) (Nat.add_assoc _ _ _))⟩)))
                  repeat (go_quiet (first | (go_at_call 23; (with_reducible refine (furrowref20_beyond.calls (rd ((rd_T65 t324 x4_2).f0) x6_3) 1073741824 t340 _ A44.out).mono ?_); rintro e w' ⟨rfl, ⟨nd, rfl⟩⟩; (try first | exact ⟨rfl, _, World.drewN_drewN _ _ _⟩ | exact ⟨rfl, _, Eq.trans (World.drewN_drewN _ _ _) (congrArg (World.drewN _) (Nat.add_assoc _ _ _))⟩))); try go_wp2_with (first | (go_at_call 23; (with_reducible refine (furrowref20_beyond.calls (rd ((rd_T65 t324 x4_2).f0) x6_3) 1073741824 t340 _ A44.out).mono ?_); rintro e w' ⟨rfl, ⟨nd, rfl⟩⟩; (try first | exact ⟨rfl, _, World.drewN_drewN _ _ _⟩ | exact ⟨rfl, _, Eq.trans (World.drewN_drewN _ _ _) (congrArg (World.drewN _) (Nat.add_assoc _ _ _))⟩))))
                  go_roundg k3
                  case measure => have := HJ1.out; have := HK2.out; have := HK3.out; omega
                  case rel => exact ⟨(t340), (wrap64 (x6_3 + 1)), (by first | rfl | (simp; done) | (simp [*]; done) | (simp [bne_nil_, beq_nil_]; done)), (by first | rfl | (simp; done) | (simp [*]; done) | (simp [bne_nil_, beq_nil_]; done)), H', ⟨by have := HJ1.out; have := HK2.out; have := HK3.out; omega⟩, ⟨uN HO_3.out⟩, ⟨uB BK318.out⟩, ⟨uB BK319.out⟩, ⟨by repeat (first | (with_reducible exact HR331_0.out) | (with_reducible refine Kd.C_alloc ?_ _) | (with_reducible refine Kd.C_drewN ?_ _) | (with_reducible refine Kd.C_drew ?_) | exact HR331_0.out)⟩, ⟨by repeat (first | (with_reducible exact HR336_0.out) | (with_reducible refine Kd.C_alloc ?_ _) | (with_reducible refine Kd.C_drewN ?_ _) | (with_reducible refine Kd.C_drew ?_) | exact HR336_0.out)⟩, ⟨bH⟩⟩
                 ·rw [if_neg c43] at H
                  exact absurd H (by simp)
                ·rw [if_neg c42] at H
                 exact absurd H (by simp)
               ·rw [if_neg c41] at H
                exact absurd H (by simp)
              ·rw [if_neg c40] at H
               exact absurd H (by simp)
            ·rw [if_neg c36] at H
             have c36b0 : decide (x6_3 < a0_0) = false := decide_eq_false c36
             clear c36
             by_cases c47 : x5_3 = true
             ·subst c47
              have H1 : ((furrowref4_At.f (⟨#[115, 121, 115]⟩ : ByteArray) x4_2 5).bind fun bt341 => (some (bt341.1, bt341.2))) = some (r1, r2) := by rw [if_pos rfl] at H; exact H
              clear H
              have H := H1
              clear H1
              replace H := Option.bind_eq_some_iff.mp H
              obtain ⟨⟨t341, t344⟩, A480, H⟩ := H
              dsimp only at H
              have A48 := mk0 A480
              clear A480
              simp only [Option.some.injEq, Prod.mk.injEq] at H
              obtain ⟨rfl, rfl⟩ := H
              have hnb49 := NB318_319.out
              have hnc49 := NB319_318.out
              obtain ⟨hcz50_0, hcz50_1, hcz50_2, hfz50_0, hfz50_1, hfz50_2⟩ := cL3 BK318
              go_wp2_with (first | (go_at_call 21; (with_reducible refine (furrowref4_At.calls (⟨#[115, 121, 115]⟩ : ByteArray) x4_2 5 t341 t344 _ A48.out).mono ?_); rintro e w51 ⟨v342, rfl, ho0, hb⟩; replace HO_3 := mk0 (Kd.N_elder' (uN HO_3.out) (Kd.R_base ho0) hb); have HO343 := mk0 (Kd.R_lower ho0 (below_size bH)); replace BK318 := bB BK318 hb; replace BK319 := bB BK319 hb; replace HR331_0 := mk0 (Kd.C_below (by repeat (first | (with_reducible exact HR331_0.out) | (with_reducible refine Kd.C_alloc ?_ _) | (with_reducible refine Kd.C_drewN ?_ _) | (with_reducible refine Kd.C_drew ?_) | exact HR331_0.out)) hb); replace HR336_0 := mk0 (Kd.C_below (by repeat (first | (with_reducible exact HR336_0.out) | (with_reducible refine Kd.C_alloc ?_ _) | (with_reducible refine Kd.C_drewN ?_ _) | (with_reducible refine Kd.C_drew ?_) | exact HR336_0.out)) hb); replace HB := hbB bH hb; (try clear hb); (try clear hb2); (try clear hk); (try clear hi); (try clear ho0); obtain ⟨Ao52, co52, eo52⟩ := Kd.R_slice HO343.out; subst eo52; obtain ⟨hcz53_0, hcz53_1, hfz53_0, hfz53_1⟩ := cL2 BK319))
              repeat (go_quiet (first | (go_at_call 21; (with_reducible refine (furrowref4_At.calls (⟨#[115, 121, 115]⟩ : ByteArray) x4_2 5 t341 t344 _ A48.out).mono ?_); rintro e w51 ⟨v342, rfl, ho0, hb⟩; replace HO_3 := mk0 (Kd.N_elder' (uN HO_3.out) (Kd.R_base ho0) hb); have HO343 := mk0 (Kd.R_lower ho0 (below_size bH)); replace BK318 := bB BK318 hb; replace BK319 := bB BK319 hb; replace HR331_0 := mk0 (Kd.C_below (by repeat (first | (with_reducible exact HR331_0.out) | (with_reducible refine Kd.C_alloc ?_ _) | (with_reducible refine Kd.C_drewN ?_ _) | (with_reducible refine Kd.C_drew ?_) | exact HR331_0.out)) hb); replace HR336_0 := mk0 (Kd.C_below (by repeat (first | (with_reducible exact HR336_0.out) | (with_reducible refine Kd.C_alloc ?_ _) | (with_reducible refine Kd.C_drewN ?_ _) | (with_reducible refine Kd.C_drew ?_) | exact HR336_0.out)) hb); replace HB := hbB bH hb; (try clear hb); (try clear hb2); (try clear hk); (try clear hi); (try clear ho0); obtain ⟨Ao52, co52, eo52⟩ := Kd.R_slice HO343.out; subst eo52; obtain ⟨hcz53_0, hcz53_1, hfz53_0, hfz53_1⟩ := cL2 BK319)); try go_wp2_with (first | (go_at_call 21; (with_reducible refine (furrowref4_At.calls (⟨#[115, 121, 115]⟩ : ByteArray) x4_2 5 t341 t344 _ A48.out).mono ?_); rintro e w51 ⟨v342, rfl, ho0, hb⟩; replace HO_3 := mk0 (Kd.N_elder' (uN HO_3.out) (Kd.R_base ho0) hb); have HO343 := mk0 (Kd.R_lower ho0 (below_size bH)); replace BK318 := bB BK318 hb; replace BK319 := bB BK319 hb; replace HR331_0 := mk0 (Kd.C_below (by repeat (first | (with_reducible exact HR331_0.out) | (with_reducible refine Kd.C_alloc ?_ _) | (with_reducible refine Kd.C_drewN ?_ _) | (with_reducible refine Kd.C_drew ?_) | exact HR331_0.out)) hb); replace HR336_0 := mk0 (Kd.C_below (by repeat (first | (with_reducible exact HR336_0.out) | (with_reducible refine Kd.C_alloc ?_ _) | (with_reducible refine Kd.C_drewN ?_ _) | (with_reducible refine Kd.C_drew ?_) | exact HR336_0.out)) hb); replace HB := hbB bH hb; (try clear hb); (try clear hb2); (try clear hk); (try clear hi); (try clear ho0); obtain ⟨Ao52, co52, eo52⟩ := Kd.R_slice HO343.out; subst eo52; obtain ⟨hcz53_0, hcz53_1, hfz53_0, hfz53_1⟩ := cL2 BK319)))
              refine bodyPost_ret (results_cell_row rfl _ _ gb319 30 #[.slice Ao52 t341.length co52, .int .i64 t344] (0, 0) _ rfl (by (with_reducible repeat (first | refine blk_drewN ?_ _ | refine blk_drew ?_ | refine blk_alloc ?_ _)); refine blk_put (cs := #[.slice Ao52 t341.length co52, .int .i64 x320001_2]) ?_ 1 _ rfl; (with_reducible repeat (first | refine blk_drewN ?_ _ | refine blk_drew ?_ | refine blk_alloc ?_ _)); refine blk_put (cs := #[.slice none 0 0, .int .i64 x320001_2]) ?_ 0 _ rfl; (with_reducible repeat (first | refine blk_drewN ?_ _ | refine blk_drew ?_ | refine blk_alloc ?_ _)); exact BK319.out) Tryd.underlying30 rfl (by kernel_rfl)) rfl ?_
              exact ⟨_, rE, uR (Kd.R_mono (Kd.R_far (p := ⟨gb319, 1, none⟩) (Kd.R_far (p := ⟨gb319, 0, none⟩) (Kd.R_types HO343.out BK319.out (by decide)) (fun _ hk => hk.2) (.slice Ao52 t341.length co52)) (fun _ hk => hk.2) (.int .i64 t344)) (fun _ hk => trivial)), bH⟩
             ·replace c47 := Bool.eq_false_iff.mpr c47
              subst c47
              have H1 : (furrowref20_Check.l0 k3 t324 (wrap64 (x4_2 + 1)) a0_0 l0_1 l0_2) = some (r1, r2) := by rw [if_neg (show ¬ (false = true) by decide)] at H; exact H
              clear H
              have H := H1
              clear H1
              have H' := mk0 H
              clear H
              have hnb54 := NB318_319.out
              have hnc54 := NB319_318.out
              obtain ⟨hcz55_0, hcz55_1, hcz55_2, hfz55_0, hfz55_1, hfz55_2⟩ := cL3 BK318
              go_wp2
              repeat (go_quiet (fail); try go_wp2)
              go_roundg k3
              case measure => have := HJ1.out; have := HK2.out; have := HK3.out; omega
              case rel => exact ⟨(wrap64 (x4_2 + 1)), (x320001_2), (by first | rfl | (simp; done) | (simp [*]; done) | (simp [bne_nil_, beq_nil_]; done)), H', ⟨by have := HJ1.out; have := HK2.out; have := HK3.out; omega⟩, ⟨uN HO_3.out⟩, ⟨uB BK318.out⟩, ⟨uB BK319.out⟩, ⟨bH⟩⟩
         ·rw [if_neg c32] at H
          have c32b0 : ((((rd_T65 t324 x4_2).f0).length : Int) == a0_0) = false := beq_eq_false_iff_ne.mpr c32
          have c32b1 : ((((rd_T65 t324 x4_2).f0).length : Int) != a0_0) = true := bne_iff_ne.mpr c32
          replace H := Option.bind_eq_some_iff.mp H
          obtain ⟨⟨t332, t335⟩, A560, H⟩ := H
          dsimp only at H
          have A56 := mk0 A560
          clear A560
          simp only [Option.some.injEq, Prod.mk.injEq] at H
          obtain ⟨rfl, rfl⟩ := H
          have p331 : 0 ≤ (x4_2 : Int) := of_decide_eq_true (by first | (with_reducible assumption) | assumption)
          have q331 : x4_2 < (t324.length : Int) := of_decide_eq_true (by first | (with_reducible assumption) | assumption)
          obtain ⟨ad331, A331_0, c331_0, e331, hx331_0, hx331_1, hl331_0, hi331_0⟩ := at_T65 (Kd.N_reads' HO_3.out).2.2 x4_2 p331 q331
          cases e331
          obtain ⟨ce331, hce331, hMe331, hcc331⟩ := Kd.N_get HO_3.out z65 x4_2 p331 (by first | exact q331 | exact of_decide_eq_true (by first | (with_reducible assumption) | assumption) | (have e_ := (Kd.N_reads' HO_3.out).1; omega))
          obtain ⟨ua331_0, uc331_0, rfl, ul331_0, ge331_0⟩ := k65_openF hMe331
          have hv331_0 := hcc331 0 _ rfl
          rw [Nat.add_zero] at hv331_0
          replace hv331_0 := Option.some.inj (hv331_0.symm.trans hx331_0)
          injection hv331_0 with hva_ hvn_ hvc_
          rw [hva_] at ge331_0
          rw [hvc_] at ul331_0
          have HL331_0 := mk0 (show Kd.V (Kd.int .i64) 2 _ w.heap.size _ _ ((rd_T65 t324 x4_2).f0) from Kd.V_mk ul331_0 ge331_0)
          clear hva_ hvn_ hvc_ ge331_0 ul331_0
          clear hcc331 hce331
          have HR331_0 := mk0 hi331_0
          have HC331_0 := mk0 hl331_0
          clear hi331_0 hl331_0
          replace p331 := eq_true p331
          replace q331 := eq_true q331
          have hnb57 := NB318_319.out
          have hnc57 := NB319_318.out
          obtain ⟨hcz58_0, hcz58_1, hcz58_2, hfz58_0, hfz58_1, hfz58_2⟩ := cL3 BK318
          go_wp2_with (first | (go_at_call 21; (with_reducible refine (furrowref4_At.calls (⟨#[115, 121, 115]⟩ : ByteArray) x4_2 1 t332 t335 _ A56.out).mono ?_); rintro e w59 ⟨v333, rfl, ho0, hb⟩; replace HO_3 := mk0 (Kd.N_elder' (uN HO_3.out) (Kd.R_base ho0) hb); have HO334 := mk0 (Kd.R_lower ho0 (below_size bH)); replace BK318 := bB BK318 hb; replace BK319 := bB BK319 hb; replace HR331_0 := mk0 (Kd.C_below (by repeat (first | (with_reducible exact HR331_0.out) | (with_reducible refine Kd.C_alloc ?_ _) | (with_reducible refine Kd.C_drewN ?_ _) | (with_reducible refine Kd.C_drew ?_) | exact HR331_0.out)) hb); replace HB := hbB bH hb; (try clear hb); (try clear hb2); (try clear hk); (try clear hi); (try clear ho0); obtain ⟨Ao60, co60, eo60⟩ := Kd.R_slice HO334.out; subst eo60; obtain ⟨hcz61_0, hcz61_1, hfz61_0, hfz61_1⟩ := cL2 BK319))
          repeat (go_quiet (first | (go_at_call 21; (with_reducible refine (furrowref4_At.calls (⟨#[115, 121, 115]⟩ : ByteArray) x4_2 1 t332 t335 _ A56.out).mono ?_); rintro e w59 ⟨v333, rfl, ho0, hb⟩; replace HO_3 := mk0 (Kd.N_elder' (uN HO_3.out) (Kd.R_base ho0) hb); have HO334 := mk0 (Kd.R_lower ho0 (below_size bH)); replace BK318 := bB BK318 hb; replace BK319 := bB BK319 hb; replace HR331_0 := mk0 (Kd.C_below (by repeat (first | (with_reducible exact HR331_0.out) | (with_reducible refine Kd.C_alloc ?_ _) | (with_reducible refine Kd.C_drewN ?_ _) | (with_reducible refine Kd.C_drew ?_) | exact HR331_0.out)) hb); replace HB := hbB bH hb; (try clear hb); (try clear hb2); (try clear hk); (try clear hi); (try clear ho0); obtain ⟨Ao60, co60, eo60⟩ := Kd.R_slice HO334.out; subst eo60; obtain ⟨hcz61_0, hcz61_1, hfz61_0, hfz61_1⟩ := cL2 BK319)); try go_wp2_with (first | (go_at_call 21; (with_reducible refine (furrowref4_At.calls (⟨#[115, 121, 115]⟩ : ByteArray) x4_2 1 t332 t335 _ A56.out).mono ?_); rintro e w59 ⟨v333, rfl, ho0, hb⟩; replace HO_3 := mk0 (Kd.N_elder' (uN HO_3.out) (Kd.R_base ho0) hb); have HO334 := mk0 (Kd.R_lower ho0 (below_size bH)); replace BK318 := bB BK318 hb; replace BK319 := bB BK319 hb; replace HR331_0 := mk0 (Kd.C_below (by repeat (first | (with_reducible exact HR331_0.out) | (with_reducible refine Kd.C_alloc ?_ _) | (with_reducible refine Kd.C_drewN ?_ _) | (with_reducible refine Kd.C_drew ?_) | exact HR331_0.out)) hb); replace HB := hbB bH hb; (try clear hb); (try clear hb2); (try clear hk); (try clear hi); (try clear ho0); obtain ⟨Ao60, co60, eo60⟩ := Kd.R_slice HO334.out; subst eo60; obtain ⟨hcz61_0, hcz61_1, hfz61_0, hfz61_1⟩ := cL2 BK319)))
          refine bodyPost_ret (results_cell_row rfl _ _ gb319 30 #[.slice Ao60 t332.length co60, .int .i64 t335] (0, 0) _ rfl (by (with_reducible repeat (first | refine blk_drewN ?_ _ | refine blk_drew ?_ | refine blk_alloc ?_ _)); refine blk_put (cs := #[.slice Ao60 t332.length co60, .int .i64 x320001_2]) ?_ 1 _ rfl; (with_reducible repeat (first | refine blk_drewN ?_ _ | refine blk_drew ?_ | refine blk_alloc ?_ _)); refine blk_put (cs := #[.slice none 0 0, .int .i64 x320001_2]) ?_ 0 _ rfl; (with_reducible repeat (first | refine blk_drewN ?_ _ | refine blk_drew ?_ | refine blk_alloc ?_ _)); exact BK319.out) Tryd.underlying30 rfl (by kernel_rfl)) rfl ?_
          exact ⟨_, rE, uR (Kd.R_mono (Kd.R_far (p := ⟨gb319, 1, none⟩) (Kd.R_far (p := ⟨gb319, 0, none⟩) (Kd.R_types HO334.out BK319.out (by decide)) (fun _ hk => hk.2) (.slice Ao60 t332.length co60)) (fun _ hk => hk.2) (.int .i64 t335)) (fun _ hk => trivial)), bH⟩
        ·rw [if_neg c31] at H
         exact absurd H (by simp)
       ·rw [if_neg c30] at H
        have c30b0 : decide (x4_2 < (t324.length : Int)) = false := decide_eq_false c30
        clear c30
        simp only [Option.some.injEq, Prod.mk.injEq] at H
        obtain ⟨rfl, rfl⟩ := H
        have hnb62 := NB319_318.out
        have hnc62 := NB318_319.out
        obtain ⟨hcz63_0, hcz63_1, hfz63_0, hfz63_1⟩ := cL2 BK319
        go_wp2
        repeat (go_quiet (fail); try go_wp2)
        refine bodyPost_ret (results_cell_row rfl _ _ gb319 30 #[.slice none 0 0, .int .i64 0] (0, 0) _ rfl (by (with_reducible repeat (first | refine blk_drewN ?_ _ | refine blk_drew ?_ | refine blk_alloc ?_ _)); refine blk_put (cs := #[.slice none 0 0, .int .i64 x320001_2]) ?_ 1 _ rfl; (with_reducible repeat (first | refine blk_drewN ?_ _ | refine blk_drew ?_ | refine blk_alloc ?_ _)); refine blk_put (cs := #[.slice none 0 0, .int .i64 x320001_2]) ?_ 0 _ rfl; (with_reducible repeat (first | refine blk_drewN ?_ _ | refine blk_drew ?_ | refine blk_alloc ?_ _)); exact BK319.out) Tryd.underlying30 rfl (by kernel_rfl)) rfl ?_
        exact ⟨_, rE, nK, bH⟩

end Go.Proofs.YtkkpgjkjkcmcbaaDoor.X
