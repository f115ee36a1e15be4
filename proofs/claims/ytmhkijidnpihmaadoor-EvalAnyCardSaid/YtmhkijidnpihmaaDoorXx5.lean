-- PRINTED by print.py (a twelfth state) out of the translation. Not trusted: Lean checks it.
import Derived.Test.YtmhkijidnpihmaaDoorXx0
namespace Go.Proofs.YtmhkijidnpihmaaDoor.X
open Go.Proofs.YtmhkijidnpihmaaDoor.Flt Go.Proofs.YtmhkijidnpihmaaDoor.H Go.RowKit Go.Proofs.YtmhkijidnpihmaaDoorW.PrintWords Go.Proofs.YtmhkijidnpihmaaDoorW.PrintLast Go.Proofs.YtmhkijidnpihmaaDoorW.PrintMore
attribute [local go_sem] max2_int min2_int max_two min_two max_three min_three max_four min_four   -- for this text's walks alone
set_option linter.unusedVariables false
set_option linter.unusedSimpArgs false

/-! ### furrowlaw5_budget: function 23 -/
mutual
def furrowlaw5_budget.j0 : Nat → Int → Int → Bool → Int → Int → ByteArray → List (S24) → Option (Int)
 | 0, _, _, _, _, _, _, _ => none
 | k + 1, x1, x2, x25, x228000, x228001, x228002, x228003 => if x25 = true then (some 0) else (furrowlaw5_budget.l0 k x1 (wrap64 (x2 - 1)) 0 x228000 x228001 x228002 x228003)
def furrowlaw5_budget.l0 : Nat → Int → Int → Int → Int → Int → ByteArray → List (S24) → Option (Int)
 | 0, _, _, _, _, _, _, _ => none
 | k + 1, x1, x2, x7, x228000, x228001, x228002, x228003 => if x7 < (x228003.length : Int) then (if x2 > 0 then (if 0 ≤ x7 then ((furrowlaw5_budget.f k ((rd_T24 x228003 x7).f0) ((rd_T24 x228003 x7).f1) ((rd_T24 x228003 x7).f2) ((rd_T24 x228003 x7).f3) (wrap64 (x1 - 1)) x2).bind fun t229 => (furrowlaw5_budget.l0 k x1 t229 (wrap64 (x7 + 1)) x228000 x228001 x228002 x228003)) else (none)) else (some x2)) else (some x2)
def furrowlaw5_budget.f : Nat → Int → Int → ByteArray → List (S24) → Int → Int → Option (Int)
 | 0, _, _, _, _, _, _ => none
 | k + 1, a0_0, a0_1, a0_2, l0_3, a1, a2 => if a2 ≤ 0 then (furrowlaw5_budget.j0 k a1 a2 true a0_0 a0_1 a0_2 l0_3) else (if a1 ≤ 0 then (furrowlaw5_budget.j0 k a1 a2 true a0_0 a0_1 a0_2 l0_3) else (if (l0_3.length : Int) > 8 then (furrowlaw5_budget.j0 k a1 a2 true a0_0 a0_1 a0_2 l0_3) else (furrowlaw5_budget.j0 k a1 a2 (decide ((a0_2.size : Int) > 40)) a0_0 a0_1 a0_2 l0_3)))
end
theorem furrowlaw5_budget.mono_l : ∀ k, (∀ y0 y1 y2 y3 y4 y5, LeO (furrowlaw5_budget.f k y0 y1 y2 y3 y4 y5) (furrowlaw5_budget.f (k + 1) y0 y1 y2 y3 y4 y5)) ∧ (∀ y0 y1 y2 y3 y4 y5 y6, LeO (furrowlaw5_budget.j0 k y0 y1 y2 y3 y4 y5 y6) (furrowlaw5_budget.j0 (k + 1) y0 y1 y2 y3 y4 y5 y6)) ∧ (∀ y0 y1 y2 y3 y4 y5 y6, LeO (furrowlaw5_budget.l0 k y0 y1 y2 y3 y4 y5 y6) (furrowlaw5_budget.l0 (k + 1) y0 y1 y2 y3 y4 y5 y6))
 | 0 => by refine ⟨?_, ?_, ?_⟩ <;> intros <;> exact fun r h => by simp [furrowlaw5_budget.f, furrowlaw5_budget.j0, furrowlaw5_budget.l0] at h
 | k + 1 => by
  obtain ⟨i0_, i1_, i2_⟩ := furrowlaw5_budget.mono_l k; refine ⟨?_, ?_, ?_⟩ <;> intros
  ·unfold furrowlaw5_budget.f; exact lO_
  ·unfold furrowlaw5_budget.j0; exact lO_
  ·unfold furrowlaw5_budget.l0; exact lO_
theorem furrowlaw5_budget.mono : ∀ a0 a1 a2 a3 a4 a5 k, LeO (furrowlaw5_budget.f k a0 a1 a2 a3 a4 a5) (furrowlaw5_budget.f (k + 1) a0 a1 a2 a3 a4 a5) := by
 intro a0 a1 a2 a3 a4 a5 k
 obtain ⟨ih0, ih1, ih2⟩ := furrowlaw5_budget.mono_l k
 exact ih0 a0 a1 a2 a3 a4 a5
set_option maxHeartbeats 8000000 in
set_option maxRecDepth 100000 in
theorem furrowlaw5_budget.calls (k : Nat) : ∀ (a0_0 : Int) (a0_1 : Int) (a0_2 : ByteArray) (A0_3 : Option Addr) (c0_3 : Nat) (l0_3 : List (S24)) (a1 : Int) (a2 : Int) (r : Int) (w : World) (hr0_3 : Kd.C k24 w A0_3 l0_3.length l0_3) (hc0_3 : l0_3.length ≤ c0_3) (h : furrowlaw5_budget.f k a0_0 a0_1 a0_2 l0_3 a1 a2 = some r),
  Calls Tryd.prog 23 #[.agg #[.int .i64 a0_0, .int .i64 a0_1, .string a0_2, .slice A0_3 l0_3.length c0_3], .int .i64 a1, .int .i64 a2] w fun e w' => e = .returned (.int .i64 r) ∧ Below w.heap.size w w' := by
 induction k using Nat.strongRecOn with
 | _ k ih =>
 intro a0_0 a0_1 a0_2 A0_3 c0_3 l0_3 a1 a2 r w hr0_3 hc0_3 h
 cases k with
 | zero => exact absurd h (by simp [furrowlaw5_budget.f])
 | succ k =>
 simp only [furrowlaw5_budget.f] at h
 have hu24 := Tryd.underlying24
 have ay := mk0 hr0_3
 have aN := mk0 hc0_3
 clear hr0_3 hc0_3
 have HB := mk0 (Below.refl w.heap.size w)
 have H : (if a2 ≤ 0 then (furrowlaw5_budget.j0 k a1 a2 true a0_0 a0_1 a0_2 l0_3) else (if a1 ≤ 0 then (furrowlaw5_budget.j0 k a1 a2 true a0_0 a0_1 a0_2 l0_3) else (if (l0_3.length : Int) > 8 then (furrowlaw5_budget.j0 k a1 a2 true a0_0 a0_1 a0_2 l0_3) else (furrowlaw5_budget.j0 k a1 a2 (decide ((a0_2.size : Int) > 40)) a0_0 a0_1 a0_2 l0_3)))) = some r := h
 clear h
 have ai := mk0 H
 clear H
 go_enter Tryd.func23, Tryd.ntmps23
 go_upto_region 1 with (first | ((with_reducible refine gate_dst (N := 3) rfl ?_); (try (refine gate_guard (by rfl) ?_; dsimp only)); refine bxE 3 #[.int .i64 a0_0, .int .i64 a0_1, .string a0_2, .slice A0_3 l0_3.length c0_3] 24 ?_; intro ao hg w5 hbox hb; have aa := mk0 (hbox); have aQ := gE (uL HB.out) hg; have aT := gE (uL HB.out) hg; replace HB := hbB (uL HB.out) hb; clear hb hbox hg))
 (try simp only [AP])
 go_cut [25] (fun v25 wc => ∃ (kq : Nat) (ag : Bool), v25 = .bool ag ∧ Aside0 (furrowlaw5_budget.j0 kq a1 a2 ag a0_0 a0_1 a0_2 l0_3 = some r) ∧ Aside0 (kq ≤ k) ∧ Aside0 (wc.heap[ao]? = some (.cells #[.int .i64 a0_0, .int .i64 a0_1, .string a0_2, (.slice A0_3 l0_3.length c0_3)] 24 (0, 0))) ∧ Aside0 (Below w.heap.size w wc))
 case first =>
  have H := ai.out; clear ai
  by_cases c6 : a2 ≤ 0
  ·rw [if_pos c6] at H
   have ae := decide_eq_true c6; clear c6; (first | rw [ae] | (simp only [i64_w, i32_w]; rw [ae]) | skip); have H' := mk0 H; clear H; go_wp2
   go_meet
   case rel => exact ⟨_, (true), eK, H', ⟨by first | omega | exact Nat.le_refl _⟩, ⟨uB aa.out⟩, ⟨bH⟩⟩
  ·rw [if_neg c6] at H
   have ae := decide_eq_false c6; clear c6; (first | rw [ae] | (simp only [i64_w, i32_w]; rw [ae]) | skip)
   by_cases c7 : a1 ≤ 0
   ·rw [if_pos c7] at H
    have az := decide_eq_true c7; clear c7; have H' := mk0 H; clear H; go_wp2
    go_meet
    case rel => exact ⟨_, (true), eK, H', ⟨by first | omega | exact Nat.le_refl _⟩, ⟨uB aa.out⟩, ⟨bH⟩⟩
   ·rw [if_neg c7] at H
    have az := decide_eq_false c7; clear c7
    by_cases c8 : (l0_3.length : Int) > 8
    ·rw [if_pos c8] at H
     have aA := decide_eq_true c8; have aC : decide (8 < l0_3.length) = true := decide_eq_true (by omega); clear c8; have H' := mk0 H; clear H; obtain ⟨aU, aV, aW, aX, aY, aZ, a_, ba⟩ := cL4 aa; go_wp2
     go_meet
     case rel => exact ⟨_, (true), eK, H', ⟨by first | omega | exact Nat.le_refl _⟩, ⟨uB aa.out⟩, ⟨bH⟩⟩
    ·rw [if_neg c8] at H
     have aA := decide_eq_false c8; have aC : decide (8 < l0_3.length) = false := decide_eq_false (by omega); clear c8; have H' := mk0 H; clear H; obtain ⟨bb, bc, bd, bf, bg, bh, bi, bj⟩ := cL4 aa; go_wp2
     go_meet
     case rel => exact ⟨_, (decide ((a0_2.size : Int) > 40)), eK, H', ⟨by first | omega | exact Nat.le_refl _⟩, ⟨uB aa.out⟩, ⟨bH⟩⟩
 case rest =>
  clear ai; obtain ⟨kq, ag, rfl, HA, aj, aa, HB⟩ := hcut
  cases kq with
  | zero => exact absurd HA.out (by simp [furrowlaw5_budget.j0])
  | succ kj3 =>
   have H := HA.out; clear HA; simp only [furrowlaw5_budget.j0] at H
   by_cases af : ag = true
   ·subst af
    replace H := iT H; obtain rfl := Option.some.inj H; go_wp2; go_ret; exact ⟨rE, bH⟩
   ·replace af := Bool.eq_false_iff.mpr af
    subst af; replace H := iF H; have H' := mk0 H; clear H; go_wp2
    go_loopg [2, 7] kj3 (fun kq v2 v7 w' => ∃ (x2_2 : Int) (x7_2 : Int), v2 = .int .i64 x2_2 ∧ v7 = .int .i64 x7_2 ∧ Aside0 (furrowlaw5_budget.l0 kq a1 x2_2 x7_2 a0_0 a0_1 a0_2 l0_3 = some r) ∧ Aside0 (kq ≤ kj3) ∧ Aside0 (w'.heap[ao]? = some (.cells #[.int .i64 a0_0, .int .i64 a0_1, .string a0_2, (.slice A0_3 l0_3.length c0_3)] 24 (0, 0))) ∧ Aside0 (Below w.heap.size w w'))
    case atStart => exact ⟨(wrap64 (a2 - 1)), (0), eK, eK, H', ⟨Nat.le_refl _⟩, ⟨uB aa.out⟩, ⟨bH⟩⟩
    case round =>
     clear H'; (try clear af); obtain ⟨x2_2, x7_2, rfl, rfl, HA, ak, aa, HB⟩ := hrel
     cases gk with
     | zero => exact absurd HA.out (by simp [furrowlaw5_budget.l0])
     | succ k2 =>
      have H := HA.out; clear HA; simp only [furrowlaw5_budget.l0] at H
      by_cases ab : x7_2 < (l0_3.length : Int)
      ·rw [if_pos ab] at H
       have aD := decide_eq_true ab; clear ab
       by_cases ac : x2_2 > 0
       ·rw [if_pos ac] at H
        have aE := decide_eq_true ac; clear ac
        by_cases ah : 0 ≤ x7_2
        ·rw [if_pos ah] at H
         have bk := decide_eq_true ah; clear ah; obtain ⟨ap, aG, H⟩ := oB H; have H' := mk0 H; clear H; obtain ⟨bl, bm, bn, bo, bp, bq, br, bs⟩ := cL4 aa; have al : 0 ≤ (x7_2 : Int) := dY; have am : x7_2 < (l0_3.length : Int) := dY; obtain ⟨bu, aH, aI, aJ, aq, ar, au, av, aw, ax⟩ := at_T24 ay.out x7_2 al am
         cases aJ
         replace aq := oC HB aq; replace ar := oC HB ar; replace au := oC HB au; replace av := oC HB av; have aK := mk0 ax; have aM := mk0 aw; clear ax aw; replace al := eq_true al; replace am := eq_true am
         go_wp2_with (first | ((with_reducible refine gate_dst (N := 47) rfl ?_); refine gsM (some 47) Tryd.func23 #[.agg #[.int .i64 ((rd_T24 l0_3 x7_2).f0), .int .i64 ((rd_T24 l0_3 x7_2).f1), .string ((rd_T24 l0_3 x7_2).f2), .slice aH ((rd_T24 l0_3 x7_2).f3).length aI], .int .i64 (wrap64 (a1 - 1)), .int .i64 x2_2] ?_; (with_reducible refine (ih k2 (by have := aj.out; have := ak.out; omega) ((rd_T24 l0_3 x7_2).f0) ((rd_T24 l0_3 x7_2).f1) ((rd_T24 l0_3 x7_2).f2) _ _ ((rd_T24 l0_3 x7_2).f3) (wrap64 (a1 - 1)) x2_2 ap _ ?side1 ?side2 aG.out).mono ?_); (case side1 => exact uC (Kd.C_below aK.out HB.out)); (case side2 => exact aM.out); rintro e bv ⟨rfl, hb⟩; refine ⟨_, rfl, ?_⟩; replace aa := bB aa hb; replace HB := hbB bH hb; (try clear hb); ))
         go_roundg k2
         case measure => have := aj.out; have := ak.out; omega
         case rel => exact ⟨(ap), (wrap64 (x7_2 + 1)), eK, eK, H', ⟨by have := aj.out; have := ak.out; omega⟩, ⟨uB aa.out⟩, ⟨bH⟩⟩
        ·exact nO H ah
       ·rw [if_neg ac] at H
        have aE := decide_eq_false ac; clear ac; obtain rfl := Option.some.inj H; obtain ⟨bw, bx, bz, bC, bE, bF, bG, bI⟩ := cL4 aa; go_wp2; go_ret; exact ⟨rE, bH⟩
      ·rw [if_neg ab] at H
       have aD := decide_eq_false ab; clear ab; obtain rfl := Option.some.inj H; obtain ⟨bJ, bK, bL, bM, bO, bP, bQ, bR⟩ := cL4 aa; go_wp2; go_ret; exact ⟨rE, bH⟩

/-! ### furrowlaw5_Few: function 10 -/
def furrowlaw5_Few.f (k : Nat) (a0_0 : Int) (a0_1 : Int) (a0_2 : ByteArray) (l0_3 : List (S24)) : Option (Bool) := (furrowlaw5_budget.f k a0_0 a0_1 a0_2 l0_3 60 300).bind fun t231 => (some (decide (t231 > 0)))
theorem furrowlaw5_Few.mono : ∀ a0 a1 a2 a3 k, LeO (furrowlaw5_Few.f k a0 a1 a2 a3) (furrowlaw5_Few.f (k + 1) a0 a1 a2 a3) := by
 intro a0 a1 a2 a3 k
 have m0_ := @furrowlaw5_budget.mono; unfold furrowlaw5_Few.f; exact lO_
set_option maxHeartbeats 8000000 in
set_option maxRecDepth 100000 in
theorem furrowlaw5_Few.calls (k : Nat) (a0_0 : Int) (a0_1 : Int) (a0_2 : ByteArray) (A0_3 : Option Addr) (c0_3 : Nat) (l0_3 : List (S24)) (r : Bool) (w : World) (hr0_3 : Kd.C k24 w A0_3 l0_3.length l0_3) (hc0_3 : l0_3.length ≤ c0_3) (h : furrowlaw5_Few.f k a0_0 a0_1 a0_2 l0_3 = some r) :
  Calls Tryd.prog 10 #[.agg #[.int .i64 a0_0, .int .i64 a0_1, .string a0_2, .slice A0_3 l0_3.length c0_3]] w fun e w' => e = .returned (.bool r) ∧ Below w.heap.size w w' := by
 have hu24 := Tryd.underlying24
 have HR0_3 := mk0 hr0_3
 have HC0_3 := mk0 hc0_3
 clear hr0_3 hc0_3
 have HB := mk0 (Below.refl w.heap.size w)
 have H : ((furrowlaw5_budget.f k a0_0 a0_1 a0_2 l0_3 60 300).bind fun t231 => (some (decide (t231 > 0)))) = some r := h
 clear h
 replace H := Option.bind_eq_some_iff.mp H
 obtain ⟨t231, A20, H⟩ := H
 have A2 := mk0 A20
 clear A20
 obtain rfl := Option.some.inj H
 go_enter Tryd.func10, Tryd.ntmps10
 go_wp2_with (first | ((with_reducible refine gate_dst (N := 1) rfl ?_); refine bxE 1 #[.int .i64 a0_0, .int .i64 a0_1, .string a0_2, .slice A0_3 l0_3.length c0_3] 24 ?_; intro gb230 hg w3 hbox hb; have BK230 := mk0 (hbox); have GW230 := gE (uL HB.out) hg; have GE230 := gE (uL HB.out) hg; replace HB := hbB (uL HB.out) hb; clear hb hbox hg; obtain ⟨hcz4_0, hcz4_1, hcz4_2, hcz4_3, hfz4_0, hfz4_1, hfz4_2, hfz4_3⟩ := cL4 BK230) | ((with_reducible refine gate_dst (N := 4) rfl ?_); refine gsM (some 4) Tryd.func23 #[.agg #[.int .i64 a0_0, .int .i64 a0_1, .string a0_2, .slice A0_3 l0_3.length c0_3], .int .i64 60, .int .i64 300] ?_; (with_reducible refine (furrowlaw5_budget.calls k a0_0 a0_1 a0_2 _ _ l0_3 60 300 t231 _ ?side1 ?side2 A2.out).mono ?_); (case side1 => exact uC (Kd.C_below HR0_3.out HB.out)); (case side2 => exact HC0_3.out); rintro e w5 ⟨rfl, hb⟩; refine ⟨_, rfl, ?_⟩; replace HB := hbB bH hb; (try clear hb); ))
 go_ret
 exact ⟨rE, bH⟩

/-! ### furrowref4_letter: function 36 -/
def furrowref4_letter.f (a0 : Int) : Option (Bool) := if a0 ≥ 97 then (some (decide (a0 ≤ 122))) else (some false)
set_option maxHeartbeats 8000000 in
set_option maxRecDepth 100000 in
theorem furrowref4_letter.calls (a0 : Int) (r : Bool) (w : World) (h : furrowref4_letter.f a0 = some r) :
  Calls Tryd.prog 36 #[.int .u8 a0] w fun e w' => e = .returned (.bool r) ∧ Drawn0 w w' := by
 have H : (if a0 ≥ 97 then (some (decide (a0 ≤ 122))) else (some false)) = some r := h
 clear h
 by_cases c2 : a0 ≥ 97
 ·rw [if_pos c2] at H
  have c2b0 := decide_eq_true c2; clear c2; obtain rfl := Option.some.inj H; go_enter Tryd.func36, Tryd.ntmps36; go_wp2; go_ret; exact ⟨eK, by repeat (first | exact Drawn0.refl _ | apply Drawn0.step)⟩
 ·rw [if_neg c2] at H
  have c2b0 := decide_eq_false c2; clear c2; obtain rfl := Option.some.inj H; go_enter Tryd.func36, Tryd.ntmps36; go_wp2; go_ret; exact ⟨eK, by repeat (first | exact Drawn0.refl _ | apply Drawn0.step)⟩

/-! ### furrowref4_digit: function 39 -/
def furrowref4_digit.f (a0 : Int) : Option (Bool) := if a0 ≥ 48 then (some (decide (a0 ≤ 57))) else (some false)
set_option maxHeartbeats 8000000 in
set_option maxRecDepth 100000 in
theorem furrowref4_digit.calls (a0 : Int) (r : Bool) (w : World) (h : furrowref4_digit.f a0 = some r) :
  Calls Tryd.prog 39 #[.int .u8 a0] w fun e w' => e = .returned (.bool r) ∧ Drawn0 w w' := by
 have H : (if a0 ≥ 48 then (some (decide (a0 ≤ 57))) else (some false)) = some r := h
 clear h
 by_cases c2 : a0 ≥ 48
 ·rw [if_pos c2] at H
  have c2b0 := decide_eq_true c2; clear c2; obtain rfl := Option.some.inj H; go_enter Tryd.func39, Tryd.ntmps39; go_wp2; go_ret; exact ⟨eK, by repeat (first | exact Drawn0.refl _ | apply Drawn0.step)⟩
 ·rw [if_neg c2] at H
  have c2b0 := decide_eq_false c2; clear c2; obtain rfl := Option.some.inj H; go_enter Tryd.func39, Tryd.ntmps39; go_wp2; go_ret; exact ⟨eK, by repeat (first | exact Drawn0.refl _ | apply Drawn0.step)⟩

/-! ### furrowref4_behind: function 37 -/
def furrowref4_behind.f (a0 : Int) : Option (Bool) := (furrowref4_letter.f a0).bind fun t232 => (if t232 = true then (some true) else ((furrowref4_digit.f a0).bind fun t233 => (if t233 = true then (some true) else (some (a0 == 95)))))
set_option maxHeartbeats 8000000 in
set_option maxRecDepth 100000 in
theorem furrowref4_behind.calls (a0 : Int) (r : Bool) (w : World) (h : furrowref4_behind.f a0 = some r) :
  Calls Tryd.prog 37 #[.int .u8 a0] w fun e w' => e = .returned (.bool r) ∧ Drawn0 w w' := by
 have H : ((furrowref4_letter.f a0).bind fun t232 => (if t232 = true then (some true) else ((furrowref4_digit.f a0).bind fun t233 => (if t233 = true then (some true) else (some (a0 == 95)))))) = some r := h
 clear h
 replace H := Option.bind_eq_some_iff.mp H
 obtain ⟨t232, A20, H⟩ := H
 have A2 := mk0 A20
 clear A20
 by_cases c3 : t232 = true
 ·subst c3
  replace H := iT H; obtain rfl := Option.some.inj H; go_enter Tryd.func37, Tryd.ntmps37
  go_wp2_with (first | ((with_reducible refine gate_dst (N := 4) rfl ?_); refine gsM (some 4) Tryd.func36 #[.int .u8 a0] ?_; (with_reducible refine (furrowref4_letter.calls a0 true _ A2.out).mono ?_); rintro e w' ⟨rfl, ⟨nd, rfl⟩⟩; refine ⟨_, rfl, ?_⟩))
  go_ret; exact ⟨eK, by repeat (first | exact Drawn0.refl _ | apply Drawn0.step)⟩
 ·replace c3 := Bool.eq_false_iff.mpr c3
  subst c3; replace H := iF H; obtain ⟨t233, A4, H⟩ := oB H
  by_cases c5 : t233 = true
  ·subst c5
   replace H := iT H; obtain rfl := Option.some.inj H; go_enter Tryd.func37, Tryd.ntmps37
   go_wp2_with (first | ((with_reducible refine gate_dst (N := 4) rfl ?_); refine gsM (some 4) Tryd.func36 #[.int .u8 a0] ?_; (with_reducible refine (furrowref4_letter.calls a0 false _ A2.out).mono ?_); rintro e w' ⟨rfl, ⟨nd, rfl⟩⟩; refine ⟨_, rfl, ?_⟩) | (go_at_call 39; (with_reducible refine (furrowref4_digit.calls a0 true _ A4.out).mono ?_); rintro e w' ⟨rfl, ⟨nd, rfl⟩⟩))
   go_ret; exact ⟨eK, by repeat (first | exact Drawn0.refl _ | apply Drawn0.step)⟩
  ·replace c5 := Bool.eq_false_iff.mpr c5
   subst c5; replace H := iF H; obtain rfl := Option.some.inj H; go_enter Tryd.func37, Tryd.ntmps37
   go_wp2_with (first | ((with_reducible refine gate_dst (N := 4) rfl ?_); refine gsM (some 4) Tryd.func36 #[.int .u8 a0] ?_; (with_reducible refine (furrowref4_letter.calls a0 false _ A2.out).mono ?_); rintro e w' ⟨rfl, ⟨nd, rfl⟩⟩; refine ⟨_, rfl, ?_⟩) | (go_at_call 39; (with_reducible refine (furrowref4_digit.calls a0 false _ A4.out).mono ?_); rintro e w' ⟨rfl, ⟨nd, rfl⟩⟩))
   go_ret; exact ⟨eK, by repeat (first | exact Drawn0.refl _ | apply Drawn0.step)⟩

end Go.Proofs.YtmhkijidnpihmaaDoor.X
