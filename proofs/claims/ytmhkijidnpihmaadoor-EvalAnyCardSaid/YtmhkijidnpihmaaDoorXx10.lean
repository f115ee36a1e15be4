-- PRINTED by print.py (a twelfth state) out of the translation. Not trusted: Lean checks it.
import Derived.Test.YtmhkijidnpihmaaDoorXx0
import Derived.Test.YtmhkijidnpihmaaDoorXx9
namespace Go.Proofs.YtmhkijidnpihmaaDoor.X
open Go.Proofs.YtmhkijidnpihmaaDoor.Flt Go.Proofs.YtmhkijidnpihmaaDoor.H Go.RowKit Go.Proofs.YtmhkijidnpihmaaDoorW.PrintWords Go.Proofs.YtmhkijidnpihmaaDoorW.PrintLast Go.Proofs.YtmhkijidnpihmaaDoorW.PrintMore
attribute [local go_sem] max2_int min2_int max_two min_two max_three min_three max_four min_four   -- for this text's walks alone
set_option linter.unusedVariables false
set_option linter.unusedSimpArgs false

/-! ### furrowlaw5_Right: function 11 -/
mutual
def furrowlaw5_Right.j0 : Nat → Int → Int → Int → ByteArray → List (S33) → Option (Bool)
 | 0, _, _, _, _, _ => none
 | k + 1, x3, x294000, x294001, x294002, x294003 => if x3 = 0 then (furrowlaw5_Right.j1 k x3 true x294000 x294001 x294002 x294003) else (if (x294003.length : Int) = x3 then (if x294001 = 0 then (if x294000 = 3 then (furrowlaw5_Right.j1 k x3 false x294000 x294001 x294002 x294003) else (furrowlaw5_Right.j1 k x3 (x294002.toList != ([] : List UInt8)) x294000 x294001 x294002 x294003)) else (furrowlaw5_Right.j1 k x3 true x294000 x294001 x294002 x294003)) else (furrowlaw5_Right.j1 k x3 true x294000 x294001 x294002 x294003))
def furrowlaw5_Right.j1 : Nat → Int → Bool → Int → Int → ByteArray → List (S33) → Option (Bool)
 | 0, _, _, _, _, _, _ => none
 | k + 1, x3, x90, x294000, x294001, x294002, x294003 => if x90 = true then (some false) else (furrowlaw5_Right.l0 k x3 0 x294000 x294001 x294002 x294003)
def furrowlaw5_Right.l0 : Nat → Int → Int → Int → Int → ByteArray → List (S33) → Option (Bool)
 | 0, _, _, _, _, _, _ => none
 | k + 1, x3, x4, x294000, x294001, x294002, x294003 => if x4 < x3 then (if 0 ≤ x4 then (if x4 < (x294003.length : Int) then ((furrowlaw5_Right.f k ((rd_T33 x294003 x4).f0) ((rd_T33 x294003 x4).f1) ((rd_T33 x294003 x4).f2) ((rd_T33 x294003 x4).f3)).bind fun t297 => (if t297 = true then (furrowlaw5_Right.l0 k x3 (wrap64 (x4 + 1)) x294000 x294001 x294002 x294003) else (some false))) else (none)) else (none)) else (some true)
def furrowlaw5_Right.f : Nat → Int → Int → ByteArray → List (S33) → Option (Bool)
 | 0, _, _, _, _ => none
 | k + 1, a0_0, a0_1, a0_2, l0_3 => if a0_0 = 1 then (if a0_2.toList = ([] : List UInt8) then (some ((l0_3.length : Int) == 0)) else (some false)) else (if a0_0 = 2 then (if a0_1 = 0 then (if (l0_3.length : Int) = 0 then ((furrowref4_IsName.f k a0_2).bind fun t294 => (some t294)) else (some false)) else (some false)) else (if a0_0 = 3 then (if a0_1 = 0 then ((furrowref4_IsName.f k a0_2).bind fun t295 => (if t295 = true then (if (l0_3.length : Int) < 1 then (some false) else (if (l0_3.length : Int) > 4 then (some false) else (furrowlaw5_Right.j0 k (l0_3.length : Int) a0_0 a0_1 a0_2 l0_3))) else (some false))) else (some false)) else (if a0_0 = 4 then (furrowlaw5_Right.j0 k 1 a0_0 a0_1 a0_2 l0_3) else (if a0_0 = 5 then (furrowlaw5_Right.j0 k 2 a0_0 a0_1 a0_2 l0_3) else (if a0_0 = 6 then (furrowlaw5_Right.j0 k 2 a0_0 a0_1 a0_2 l0_3) else (if a0_0 = 7 then (furrowlaw5_Right.j0 k 2 a0_0 a0_1 a0_2 l0_3) else (if a0_0 = 8 then (furrowlaw5_Right.j0 k 2 a0_0 a0_1 a0_2 l0_3) else (furrowlaw5_Right.j0 k 0 a0_0 a0_1 a0_2 l0_3))))))))
end
theorem furrowlaw5_Right.mono_l : ∀ k, (∀ y0 y1 y2 y3, LeO (furrowlaw5_Right.f k y0 y1 y2 y3) (furrowlaw5_Right.f (k + 1) y0 y1 y2 y3)) ∧ (∀ y0 y1 y2 y3 y4, LeO (furrowlaw5_Right.j0 k y0 y1 y2 y3 y4) (furrowlaw5_Right.j0 (k + 1) y0 y1 y2 y3 y4)) ∧ (∀ y0 y1 y2 y3 y4 y5, LeO (furrowlaw5_Right.j1 k y0 y1 y2 y3 y4 y5) (furrowlaw5_Right.j1 (k + 1) y0 y1 y2 y3 y4 y5)) ∧ (∀ y0 y1 y2 y3 y4 y5, LeO (furrowlaw5_Right.l0 k y0 y1 y2 y3 y4 y5) (furrowlaw5_Right.l0 (k + 1) y0 y1 y2 y3 y4 y5))
 | 0 => by refine ⟨?_, ?_, ?_, ?_⟩ <;> intros <;> exact fun r h => by simp [furrowlaw5_Right.f, furrowlaw5_Right.j0, furrowlaw5_Right.j1, furrowlaw5_Right.l0] at h
 | k + 1 => by
  obtain ⟨i0_, i1_, i2_, i3_⟩ := furrowlaw5_Right.mono_l k; have m0_ := @furrowref4_IsName.mono; refine ⟨?_, ?_, ?_, ?_⟩ <;> intros
  ·unfold furrowlaw5_Right.f; exact lO_
  ·unfold furrowlaw5_Right.j0; exact lO_
  ·unfold furrowlaw5_Right.j1; exact lO_
  ·unfold furrowlaw5_Right.l0; exact lO_
theorem furrowlaw5_Right.mono : ∀ a0 a1 a2 a3 k, LeO (furrowlaw5_Right.f k a0 a1 a2 a3) (furrowlaw5_Right.f (k + 1) a0 a1 a2 a3) := by
 intro a0 a1 a2 a3 k
 obtain ⟨ih0, ih1, ih2, ih3⟩ := furrowlaw5_Right.mono_l k
 exact ih0 a0 a1 a2 a3
set_option maxHeartbeats 8000000 in
set_option maxRecDepth 100000 in
theorem furrowlaw5_Right.calls (k : Nat) : ∀ (a0_0 : Int) (a0_1 : Int) (a0_2 : ByteArray) (A0_3 : Option Addr) (c0_3 : Nat) (l0_3 : List (S33)) (r : Bool) (w : World) (hr0_3 : Kd.C k33 w A0_3 l0_3.length l0_3) (hc0_3 : l0_3.length ≤ c0_3) (h : furrowlaw5_Right.f k a0_0 a0_1 a0_2 l0_3 = some r),
  Calls Tryd.prog 11 #[.agg #[.int .i64 a0_0, .int .i64 a0_1, .string a0_2, .slice A0_3 l0_3.length c0_3]] w fun e w' => e = .returned (.bool r) ∧ Below w.heap.size w w' := by
 induction k using Nat.strongRecOn with
 | _ k ih =>
 intro a0_0 a0_1 a0_2 A0_3 c0_3 l0_3 r w hr0_3 hc0_3 h
 cases k with
 | zero => exact absurd h (by simp [furrowlaw5_Right.f])
 | succ k =>
 simp only [furrowlaw5_Right.f] at h
 have hu33 := Tryd.underlying33
 have bo := mk0 hr0_3
 have ce := mk0 hc0_3
 clear hr0_3 hc0_3
 have HB := mk0 (Below.refl w.heap.size w)
 have H : (if a0_0 = 1 then (if a0_2.toList = ([] : List UInt8) then (some ((l0_3.length : Int) == 0)) else (some false)) else (if a0_0 = 2 then (if a0_1 = 0 then (if (l0_3.length : Int) = 0 then ((furrowref4_IsName.f k a0_2).bind fun aW => (some aW)) else (some false)) else (some false)) else (if a0_0 = 3 then (if a0_1 = 0 then ((furrowref4_IsName.f k a0_2).bind fun aX => (if aX = true then (if (l0_3.length : Int) < 1 then (some false) else (if (l0_3.length : Int) > 4 then (some false) else (furrowlaw5_Right.j0 k (l0_3.length : Int) a0_0 a0_1 a0_2 l0_3))) else (some false))) else (some false)) else (if a0_0 = 4 then (furrowlaw5_Right.j0 k 1 a0_0 a0_1 a0_2 l0_3) else (if a0_0 = 5 then (furrowlaw5_Right.j0 k 2 a0_0 a0_1 a0_2 l0_3) else (if a0_0 = 6 then (furrowlaw5_Right.j0 k 2 a0_0 a0_1 a0_2 l0_3) else (if a0_0 = 7 then (furrowlaw5_Right.j0 k 2 a0_0 a0_1 a0_2 l0_3) else (if a0_0 = 8 then (furrowlaw5_Right.j0 k 2 a0_0 a0_1 a0_2 l0_3) else (furrowlaw5_Right.j0 k 0 a0_0 a0_1 a0_2 l0_3))))))))) = some r := h
 clear h
 have aY := mk0 H
 clear H
 go_enter Tryd.func11, Tryd.ntmps11
 go_upto_block 0 with (first | ((with_reducible refine gate_dst (N := 1) rfl ?_); (try (refine gate_guard (by rfl) ?_; dsimp only)); refine bxE 1 #[.int .i64 a0_0, .int .i64 a0_1, .string a0_2, .slice A0_3 l0_3.length c0_3] 33 ?_; intro aZ hg w3 hbox hb; have aa := mk0 (hbox); have cf := gE (uL HB.out) hg; have cg := gE (uL HB.out) hg; replace HB := hbB (uL HB.out) hb; clear hb hbox hg; obtain ⟨a_, ba, bb, bc, bd, bf, bg, bh⟩ := cL4 aa))
 (try simp only [AP])
 go_cut [3] (fun v3 wc => ∃ (kq : Nat) (x3_1 : Int), v3 = .int .i64 x3_1 ∧ Aside0 (furrowlaw5_Right.j0 kq x3_1 a0_0 a0_1 a0_2 l0_3 = some r) ∧ Aside0 (kq ≤ k) ∧ Aside0 (wc.heap[aZ]? = some (.cells #[.int .i64 a0_0, .int .i64 a0_1, .string a0_2, (.slice A0_3 l0_3.length c0_3)] 33 (0, 0))) ∧ Aside0 (Below w.heap.size w wc))
 case first =>
  have H := aY.out; clear aY
  by_cases c5 : a0_0 = 1
  ·rw [if_pos c5] at H
   have ay : (a0_0 == 1) = true := beq_iff_eq.mpr c5; have bq : (a0_0 != 1) = false := bne_eq_false_iff_eq.mpr c5; clear c5; (first | rw [ay] | (simp only [i64_w, i32_w]; rw [ay]) | skip)
   by_cases c6 : a0_2.toList = ([] : List UInt8)
   ·rw [if_pos c6] at H
    have br : (a0_2.toList == ([] : List UInt8)) = true := beq_iff_eq.mpr c6; have bs : (a0_2.toList != ([] : List UInt8)) = false := bne_eq_false_iff_eq.mpr c6; clear c6; obtain rfl := Option.some.inj H; obtain ⟨ch, ci, cj, ck, cl, cm, cn, cp⟩ := cL4 aa; go_wp2; go_ret; exact ⟨rE, bH⟩
   ·rw [if_neg c6] at H
    have br : (a0_2.toList == ([] : List UInt8)) = false := beq_eq_false_iff_ne.mpr c6; have bs : (a0_2.toList != ([] : List UInt8)) = true := bne_iff_ne.mpr c6; obtain rfl := Option.some.inj H; obtain ⟨cq, cr, ct, cu, cv, cw, cx, cy⟩ := cL4 aa; go_wp2; go_ret; exact ⟨rE, bH⟩
  ·rw [if_neg c5] at H
   have ay : (a0_0 == 1) = false := beq_eq_false_iff_ne.mpr c5; have bq : (a0_0 != 1) = true := bne_iff_ne.mpr c5; (first | rw [ay] | (simp only [i64_w, i32_w]; rw [ay]) | skip)
   by_cases c9 : a0_0 = 2
   ·rw [if_pos c9] at H
    have bu : (a0_0 == 2) = true := beq_iff_eq.mpr c9; have bv : (a0_0 != 2) = false := bne_eq_false_iff_eq.mpr c9; clear c9
    by_cases ae : a0_1 = 0
    ·rw [if_pos ae] at H
     have bw : (a0_1 == 0) = true := beq_iff_eq.mpr ae; have bx : (a0_1 != 0) = false := bne_eq_false_iff_eq.mpr ae; clear ae
     by_cases ac : (l0_3.length : Int) = 0
     ·rw [if_pos ac] at H
      have bz : ((l0_3.length : Int) == 0) = true := beq_iff_eq.mpr ac; have bC : ((l0_3.length : Int) != 0) = false := bne_eq_false_iff_eq.mpr ac; clear ac; obtain ⟨aW, bE, H⟩ := oB H; obtain rfl := Option.some.inj H; obtain ⟨cz, cA, cD, cE, cF, cG, cH, cI⟩ := cL4 aa
      go_wp2_with (first | (go_at_call 24; (with_reducible refine (furrowref4_IsName.calls k a0_2 aW _ bE.out).mono ?_); rintro e cJ ⟨rfl, hb⟩; replace HB := hbB bH hb; (try clear hb); ))
      go_ret; exact ⟨rE, bH⟩
     ·rw [if_neg ac] at H
      have bz : ((l0_3.length : Int) == 0) = false := beq_eq_false_iff_ne.mpr ac; have bC : ((l0_3.length : Int) != 0) = true := bne_iff_ne.mpr ac; (have cK : ¬ (l0_3 = []) := fun h_ => ac (by rw [h_]; rfl)); obtain rfl := Option.some.inj H; obtain ⟨cL, cM, cN, cO, cP, cR, cS, cT⟩ := cL4 aa; go_wp2; go_ret; exact ⟨rE, bH⟩
    ·rw [if_neg ae] at H
     have bw : (a0_1 == 0) = false := beq_eq_false_iff_ne.mpr ae; have bx : (a0_1 != 0) = true := bne_iff_ne.mpr ae; obtain rfl := Option.some.inj H; obtain ⟨cU, cV, cW, cX, cY, cZ, c_, da⟩ := cL4 aa; go_wp2; go_ret; exact ⟨rE, bH⟩
   ·rw [if_neg c9] at H
    have bu : (a0_0 == 2) = false := beq_eq_false_iff_ne.mpr c9; have bv : (a0_0 != 2) = true := bne_iff_ne.mpr c9
    by_cases af : a0_0 = 3
    ·rw [if_pos af] at H
     have bF : (a0_0 == 3) = true := beq_iff_eq.mpr af; have bG : (a0_0 != 3) = false := bne_eq_false_iff_eq.mpr af; clear af
     by_cases ag : a0_1 = 0
     ·rw [if_pos ag] at H
      have bI : (a0_1 == 0) = true := beq_iff_eq.mpr ag; have bJ : (a0_1 != 0) = false := bne_eq_false_iff_eq.mpr ag; clear ag; obtain ⟨aX, aJ, H⟩ := oB H
      by_cases aK : aX = true
      ·subst aK
       replace H := iT H
       by_cases av : (l0_3.length : Int) < 1
       ·rw [if_pos av] at H
        have bK := decide_eq_true av; have bL : decide (l0_3.length < 1) = true := decide_eq_true (by omega); clear av; obtain rfl := Option.some.inj H; obtain ⟨db, dc, dd, de, df, dg, dh, di⟩ := cL4 aa
        go_wp2_with (first | (go_at_call 24; (with_reducible refine (furrowref4_IsName.calls k a0_2 true _ aJ.out).mono ?_); rintro e dj ⟨rfl, hb⟩; replace aa := bB aa hb; replace HB := hbB bH hb; (try clear hb); obtain ⟨dk, dl, dn, dp, dq, dr, dt, du⟩ := cL4 aa))
        go_ret; exact ⟨rE, bH⟩
       ·rw [if_neg av] at H
        have bK := decide_eq_false av; have bL : decide (l0_3.length < 1) = false := decide_eq_false (by omega); clear av
        by_cases aw : (l0_3.length : Int) > 4
        ·rw [if_pos aw] at H
         have bM := decide_eq_true aw; have bO : decide (4 < l0_3.length) = true := decide_eq_true (by omega); clear aw; obtain rfl := Option.some.inj H; obtain ⟨dv, dw, dx, dy, dz, dA, dB, dC⟩ := cL4 aa
         go_wp2_with (first | (go_at_call 24; (with_reducible refine (furrowref4_IsName.calls k a0_2 true _ aJ.out).mono ?_); rintro e dD ⟨rfl, hb⟩; replace aa := bB aa hb; replace HB := hbB bH hb; (try clear hb); obtain ⟨dE, dF, dG, dH, dI, dJ, dK, dL⟩ := cL4 aa))
         go_ret; exact ⟨rE, bH⟩
        ·rw [if_neg aw] at H
         have bM := decide_eq_false aw; have bO : decide (4 < l0_3.length) = false := decide_eq_false (by omega); clear aw; have H' := mk0 H; clear H; obtain ⟨dM, dN, dO, dP, dQ, dR, dS, dT⟩ := cL4 aa
         go_wp2_with (first | (go_at_call 24; (with_reducible refine (furrowref4_IsName.calls k a0_2 true _ aJ.out).mono ?_); rintro e dU ⟨rfl, hb⟩; replace aa := bB aa hb; replace HB := hbB bH hb; (try clear hb); obtain ⟨dV, dW, dX, dZ, d5, d6, d7, d8⟩ := cL4 aa))
         go_meet
         case rel => exact ⟨_, ((l0_3.length : Int)), eK, H', ⟨by first | omega | exact Nat.le_refl _⟩, ⟨uB aa.out⟩, ⟨bH⟩⟩
      ·replace aK := Bool.eq_false_iff.mpr aK
       subst aK; replace H := iF H; obtain rfl := Option.some.inj H; obtain ⟨d9, d_, ea, eb, ec, ed, ee, ef⟩ := cL4 aa
       go_wp2_with (first | (go_at_call 24; (with_reducible refine (furrowref4_IsName.calls k a0_2 false _ aJ.out).mono ?_); rintro e eg ⟨rfl, hb⟩; replace HB := hbB bH hb; (try clear hb); ))
       go_ret; exact ⟨rE, bH⟩
     ·rw [if_neg ag] at H
      have bI : (a0_1 == 0) = false := beq_eq_false_iff_ne.mpr ag; have bJ : (a0_1 != 0) = true := bne_iff_ne.mpr ag; obtain rfl := Option.some.inj H; obtain ⟨eh, ei, ej, ek, em, en, eo, ep⟩ := cL4 aa; go_wp2; go_ret; exact ⟨rE, bH⟩
    ·rw [if_neg af] at H
     have bF : (a0_0 == 3) = false := beq_eq_false_iff_ne.mpr af; have bG : (a0_0 != 3) = true := bne_iff_ne.mpr af
     by_cases ah : a0_0 = 4
     ·rw [if_pos ah] at H
      have bP : (a0_0 == 4) = true := beq_iff_eq.mpr ah; have bQ : (a0_0 != 4) = false := bne_eq_false_iff_eq.mpr ah; clear ah; have H' := mk0 H; clear H; go_wp2
      go_meet
      case rel => exact ⟨_, (1), eK, H', ⟨by first | omega | exact Nat.le_refl _⟩, ⟨uB aa.out⟩, ⟨bH⟩⟩
     ·rw [if_neg ah] at H
      have bP : (a0_0 == 4) = false := beq_eq_false_iff_ne.mpr ah; have bQ : (a0_0 != 4) = true := bne_iff_ne.mpr ah
      by_cases ai : a0_0 = 5
      ·rw [if_pos ai] at H
       have bR : (a0_0 == 5) = true := beq_iff_eq.mpr ai; have bT : (a0_0 != 5) = false := bne_eq_false_iff_eq.mpr ai; clear ai; have H' := mk0 H; clear H; go_wp2
       go_meet
       case rel => exact ⟨_, (2), eK, H', ⟨by first | omega | exact Nat.le_refl _⟩, ⟨uB aa.out⟩, ⟨bH⟩⟩
      ·rw [if_neg ai] at H
       have bR : (a0_0 == 5) = false := beq_eq_false_iff_ne.mpr ai; have bT : (a0_0 != 5) = true := bne_iff_ne.mpr ai
       by_cases aj : a0_0 = 6
       ·rw [if_pos aj] at H
        have bU : (a0_0 == 6) = true := beq_iff_eq.mpr aj; have bV : (a0_0 != 6) = false := bne_eq_false_iff_eq.mpr aj; clear aj; have H' := mk0 H; clear H; go_wp2
        go_meet
        case rel => exact ⟨_, (2), eK, H', ⟨by first | omega | exact Nat.le_refl _⟩, ⟨uB aa.out⟩, ⟨bH⟩⟩
       ·rw [if_neg aj] at H
        have bU : (a0_0 == 6) = false := beq_eq_false_iff_ne.mpr aj; have bV : (a0_0 != 6) = true := bne_iff_ne.mpr aj
        by_cases ak : a0_0 = 7
        ·rw [if_pos ak] at H
         have bW : (a0_0 == 7) = true := beq_iff_eq.mpr ak; have bX : (a0_0 != 7) = false := bne_eq_false_iff_eq.mpr ak; clear ak; have H' := mk0 H; clear H; go_wp2
         go_meet
         case rel => exact ⟨_, (2), eK, H', ⟨by first | omega | exact Nat.le_refl _⟩, ⟨uB aa.out⟩, ⟨bH⟩⟩
        ·rw [if_neg ak] at H
         have bW : (a0_0 == 7) = false := beq_eq_false_iff_ne.mpr ak; have bX : (a0_0 != 7) = true := bne_iff_ne.mpr ak
         by_cases al : a0_0 = 8
         ·rw [if_pos al] at H
          have bY : (a0_0 == 8) = true := beq_iff_eq.mpr al; have bZ : (a0_0 != 8) = false := bne_eq_false_iff_eq.mpr al; clear al; have H' := mk0 H; clear H; go_wp2
          go_meet
          case rel => exact ⟨_, (2), eK, H', ⟨by first | omega | exact Nat.le_refl _⟩, ⟨uB aa.out⟩, ⟨bH⟩⟩
         ·rw [if_neg al] at H
          have bY : (a0_0 == 8) = false := beq_eq_false_iff_ne.mpr al; have bZ : (a0_0 != 8) = true := bne_iff_ne.mpr al; have H' := mk0 H; clear H; go_wp2
          go_meet
          case rel => exact ⟨_, (0), eK, H', ⟨by first | omega | exact Nat.le_refl _⟩, ⟨uB aa.out⟩, ⟨bH⟩⟩
 case rest =>
  clear aY; (try clear a_ ba bb bc bd bf bg bh); obtain ⟨kq, x3_1, rfl, HA, ab, aa, HB⟩ := hcut
  cases kq with
  | zero => exact absurd HA.out (by simp [furrowlaw5_Right.j0])
  | succ kj1 =>
   have H := HA.out; clear HA; simp only [furrowlaw5_Right.j0] at H; have bi := mk0 H; clear H
   go_upto_region 18 with (fail)
   go_cut [90] (fun v90 wc => ∃ (kq : Nat) (aM : Bool), v90 = .bool aM ∧ Aside0 (furrowlaw5_Right.j1 kq x3_1 aM a0_0 a0_1 a0_2 l0_3 = some r) ∧ Aside0 (kq ≤ kj1) ∧ Aside0 (wc.heap[aZ]? = some (.cells #[.int .i64 a0_0, .int .i64 a0_1, .string a0_2, (.slice A0_3 l0_3.length c0_3)] 33 (0, 0))) ∧ Aside0 (Below w.heap.size w wc))
   case first =>
    have H := bi.out; clear bi
    by_cases am : x3_1 = 0
    ·rw [if_pos am] at H
     have az : (x3_1 == 0) = true := beq_iff_eq.mpr am; have b3 : (x3_1 != 0) = false := bne_eq_false_iff_eq.mpr am; clear am; (first | rw [az] | (simp only [i64_w, i32_w]; rw [az]) | skip); have H' := mk0 H; clear H; go_wp2
     go_meet
     case rel => exact ⟨_, (true), eK, H', ⟨by have := ab.out; first | omega | exact Nat.le_refl _⟩, ⟨uB aa.out⟩, ⟨bH⟩⟩
    ·rw [if_neg am] at H
     have az : (x3_1 == 0) = false := beq_eq_false_iff_ne.mpr am; have b3 : (x3_1 != 0) = true := bne_iff_ne.mpr am; (first | rw [az] | (simp only [i64_w, i32_w]; rw [az]) | skip)
     by_cases ao : (l0_3.length : Int) = x3_1
     ·rw [if_pos ao] at H
      have b4 : ((l0_3.length : Int) == x3_1) = true := beq_iff_eq.mpr ao; have b5 : ((l0_3.length : Int) != x3_1) = false := bne_eq_false_iff_eq.mpr ao; clear ao
      by_cases ap : a0_1 = 0
      ·rw [if_pos ap] at H
       have b6 : (a0_1 == 0) = true := beq_iff_eq.mpr ap; have b7 : (a0_1 != 0) = false := bne_eq_false_iff_eq.mpr ap; clear ap
       by_cases aq : a0_0 = 3
       ·rw [if_pos aq] at H
        have b8 : (a0_0 == 3) = true := beq_iff_eq.mpr aq; have b9 : (a0_0 != 3) = false := bne_eq_false_iff_eq.mpr aq; clear aq; have H' := mk0 H; clear H; obtain ⟨eq, er, es, et, eu, ew, ex, ey⟩ := cL4 aa; go_wp2
        go_meet
        case rel => exact ⟨_, (false), eK, H', ⟨by have := ab.out; first | omega | exact Nat.le_refl _⟩, ⟨uB aa.out⟩, ⟨bH⟩⟩
       ·rw [if_neg aq] at H
        have b8 : (a0_0 == 3) = false := beq_eq_false_iff_ne.mpr aq; have b9 : (a0_0 != 3) = true := bne_iff_ne.mpr aq; have H' := mk0 H; clear H; obtain ⟨ez, eA, eB, eC, eD, eE, eF, eG⟩ := cL4 aa; go_wp2
        go_meet
        case rel => exact ⟨_, ((a0_2.toList != ([] : List UInt8))), eK, H', ⟨by have := ab.out; first | omega | exact Nat.le_refl _⟩, ⟨uB aa.out⟩, ⟨bH⟩⟩
      ·rw [if_neg ap] at H
       have b6 : (a0_1 == 0) = false := beq_eq_false_iff_ne.mpr ap; have b7 : (a0_1 != 0) = true := bne_iff_ne.mpr ap; have H' := mk0 H; clear H; obtain ⟨eH, eI, eJ, eL, eM, eN, eO, eP⟩ := cL4 aa; go_wp2
       go_meet
       case rel => exact ⟨_, (true), eK, H', ⟨by have := ab.out; first | omega | exact Nat.le_refl _⟩, ⟨uB aa.out⟩, ⟨bH⟩⟩
     ·rw [if_neg ao] at H
      have b4 : ((l0_3.length : Int) == x3_1) = false := beq_eq_false_iff_ne.mpr ao; have b5 : ((l0_3.length : Int) != x3_1) = true := bne_iff_ne.mpr ao; have H' := mk0 H; clear H; obtain ⟨eQ, eR, eS, eT, eU, eV, eW, eX⟩ := cL4 aa; go_wp2
      go_meet
      case rel => exact ⟨_, (true), eK, H', ⟨by have := ab.out; first | omega | exact Nat.le_refl _⟩, ⟨uB aa.out⟩, ⟨bH⟩⟩
   case rest =>
    clear bi; (try clear a_ ba bb bc bd bf bg bh); obtain ⟨kq, aM, rfl, HA, aN, aa, HB⟩ := hcut
    cases kq with
    | zero => exact absurd HA.out (by simp [furrowlaw5_Right.j1])
    | succ kj39 =>
     have H := HA.out; clear HA; simp only [furrowlaw5_Right.j1] at H
     by_cases aA : aM = true
     ·subst aA
      replace H := iT H; obtain rfl := Option.some.inj H; go_wp2; go_ret; exact ⟨rE, bH⟩
     ·replace aA := Bool.eq_false_iff.mpr aA
      subst aA; replace H := iF H; have H' := mk0 H; clear H; go_wp2
      go_loopg [4] kj39 (fun kq v4 w' => ∃ (x4_3 : Int), v4 = .int .i64 x4_3 ∧ Aside0 (furrowlaw5_Right.l0 kq x3_1 x4_3 a0_0 a0_1 a0_2 l0_3 = some r) ∧ Aside0 (kq ≤ kj39) ∧ Aside0 (w'.heap[aZ]? = some (.cells #[.int .i64 a0_0, .int .i64 a0_1, .string a0_2, (.slice A0_3 l0_3.length c0_3)] 33 (0, 0))) ∧ Aside0 (Below w.heap.size w w'))
      case atStart => exact ⟨(0), eK, H', ⟨Nat.le_refl _⟩, ⟨uB aa.out⟩, ⟨bH⟩⟩
      case round =>
       clear H'; (try clear aA a_ ba bb bc bd bf bg bh); obtain ⟨x4_3, rfl, HA, aQ, aa, HB⟩ := hrel
       cases gk with
       | zero => exact absurd HA.out (by simp [furrowlaw5_Right.l0])
       | succ k3 =>
        have H := HA.out; clear HA; simp only [furrowlaw5_Right.l0] at H
        by_cases ax : x4_3 < x3_1
        ·rw [if_pos ax] at H
         have ca := decide_eq_true ax; clear ax
         by_cases aT : 0 ≤ x4_3
         ·rw [if_pos aT] at H
          have eY := decide_eq_true aT; clear aT
          by_cases aU : x4_3 < (l0_3.length : Int)
          ·rw [if_pos aU] at H
           have eZ := decide_eq_true aU; clear aU; obtain ⟨cb, bp, H⟩ := oB H
           by_cases aV : cb = true
           ·subst aV
            replace H := iT H; have H' := mk0 H; clear H; obtain ⟨e4, e5, e6, e7, e8, e9, fa, fb⟩ := cL4 aa; have ar : 0 ≤ (x4_3 : Int) := dY; have au : x4_3 < (l0_3.length : Int) := dY; obtain ⟨cd, bj, bk, bl, aC, aD, aE, aG, aH, aI⟩ := at_T33 bo.out x4_3 ar au
            cases bl
            replace aC := oC HB aC; replace aD := oC HB aD; replace aE := oC HB aE; replace aG := oC HB aG; have bm := mk0 aI; have bn := mk0 aH; clear aI aH; replace ar := eq_true ar; replace au := eq_true au
            go_wp2_with (first | ((with_reducible refine gate_dst (N := 101) rfl ?_); refine gsM (some 101) Tryd.func11 #[.agg #[.int .i64 ((rd_T33 l0_3 x4_3).f0), .int .i64 ((rd_T33 l0_3 x4_3).f1), .string ((rd_T33 l0_3 x4_3).f2), .slice bj ((rd_T33 l0_3 x4_3).f3).length bk]] ?_; (with_reducible refine (ih k3 (by have := ab.out; have := aN.out; have := aQ.out; omega) ((rd_T33 l0_3 x4_3).f0) ((rd_T33 l0_3 x4_3).f1) ((rd_T33 l0_3 x4_3).f2) _ _ ((rd_T33 l0_3 x4_3).f3) true _ ?side1 ?side2 bp.out).mono ?_); (case side1 => exact uC (Kd.C_below bm.out HB.out)); (case side2 => exact bn.out); rintro e fc ⟨rfl, hb⟩; refine ⟨_, rfl, ?_⟩; replace aa := bB aa hb; replace HB := hbB bH hb; (try clear hb); ))
            go_roundg k3
            case measure => have := ab.out; have := aN.out; have := aQ.out; omega
            case rel => exact ⟨(wrap64 (x4_3 + 1)), eK, H', ⟨by have := ab.out; have := aN.out; have := aQ.out; omega⟩, ⟨uB aa.out⟩, ⟨bH⟩⟩
           ·replace aV := Bool.eq_false_iff.mpr aV
            subst aV; replace H := iF H; obtain rfl := Option.some.inj H; obtain ⟨fd, fe, ff, fg, fh, fi, fj, fk⟩ := cL4 aa; have ar : 0 ≤ (x4_3 : Int) := dY; have au : x4_3 < (l0_3.length : Int) := dY; obtain ⟨cd, bj, bk, bl, aC, aD, aE, aG, aH, aI⟩ := at_T33 bo.out x4_3 ar au
            cases bl
            replace aC := oC HB aC; replace aD := oC HB aD; replace aE := oC HB aE; replace aG := oC HB aG; have bm := mk0 aI; have bn := mk0 aH; clear aI aH; replace ar := eq_true ar; replace au := eq_true au
            go_wp2_with (first | ((with_reducible refine gate_dst (N := 101) rfl ?_); refine gsM (some 101) Tryd.func11 #[.agg #[.int .i64 ((rd_T33 l0_3 x4_3).f0), .int .i64 ((rd_T33 l0_3 x4_3).f1), .string ((rd_T33 l0_3 x4_3).f2), .slice bj ((rd_T33 l0_3 x4_3).f3).length bk]] ?_; (with_reducible refine (ih k3 (by have := ab.out; have := aN.out; have := aQ.out; omega) ((rd_T33 l0_3 x4_3).f0) ((rd_T33 l0_3 x4_3).f1) ((rd_T33 l0_3 x4_3).f2) _ _ ((rd_T33 l0_3 x4_3).f3) false _ ?side1 ?side2 bp.out).mono ?_); (case side1 => exact uC (Kd.C_below bm.out HB.out)); (case side2 => exact bn.out); rintro e fm ⟨rfl, hb⟩; refine ⟨_, rfl, ?_⟩; replace HB := hbB bH hb; (try clear hb); ))
            go_ret; exact ⟨rE, bH⟩
          ·exact nO H aU
         ·exact nO H aT
        ·rw [if_neg ax] at H
         have ca := decide_eq_false ax; clear ax; obtain rfl := Option.some.inj H; go_wp2; go_ret; exact ⟨rE, bH⟩

end Go.Proofs.YtmhkijidnpihmaaDoor.X
