-- PRINTED by print.py (a twelfth state) out of the translation. Not trusted: Lean checks it.
import Derived.Test.YtmhkijidnpihmaaDoorXx0
namespace Go.Proofs.YtmhkijidnpihmaaDoor.X
open Go.Proofs.YtmhkijidnpihmaaDoor.Flt Go.Proofs.YtmhkijidnpihmaaDoor.H Go.RowKit Go.Proofs.YtmhkijidnpihmaaDoorW.PrintWords Go.Proofs.YtmhkijidnpihmaaDoorW.PrintLast Go.Proofs.YtmhkijidnpihmaaDoorW.PrintMore
attribute [local go_sem] max2_int min2_int max_two min_two max_three min_three max_four min_four   -- for this text's walks alone
set_option linter.unusedVariables false
set_option linter.unusedSimpArgs false

/-! ### furrowref4_sign: function 41 -/
mutual
def furrowref4_sign.j0 : Nat → ByteArray → Int → Bool → Option (Int)
 | 0, _, _, _ => none
 | k + 1, x0, x1, x5 => if 0 ≤ x1 then (if x1 < (x0.size : Int) then (if (bt x0 x1) = 60 then (furrowref4_sign.j1 k x5 (bt x0 x1) ((bt x0 x1) == 60)) else (if (bt x0 x1) = 62 then (furrowref4_sign.j1 k x5 (bt x0 x1) ((bt x0 x1) == 62)) else (if (bt x0 x1) = 61 then (furrowref4_sign.j1 k x5 (bt x0 x1) ((bt x0 x1) == 61)) else (furrowref4_sign.j1 k x5 (bt x0 x1) ((bt x0 x1) == 47))))) else (none)) else (none)
def furrowref4_sign.j1 : Nat → Bool → Int → Bool → Option (Int)
 | 0, _, _, _ => none
 | k + 1, x5, x20, x21 => if x21 = true then (if x5 = true then (some 2) else (some 1)) else (if x20 = 43 then (some 1) else (if x20 = 45 then (some 1) else (if x20 = 42 then (some 1) else (if x20 = 40 then (some 1) else (if x20 = 41 then (some 1) else (if x20 = 44 then (some 1) else (some 0)))))))
end
def furrowref4_sign.f (k : Nat) (a0 : ByteArray) (a1 : Int) : Option (Int) := if (wrap64 (a1 + 1)) < (a0.size : Int) then (if 0 ≤ (wrap64 (a1 + 1)) then (furrowref4_sign.j0 k a0 a1 ((bt a0 (wrap64 (a1 + 1))) == 61)) else (none)) else (furrowref4_sign.j0 k a0 a1 false)
theorem furrowref4_sign.mono_l : ∀ k, (∀ y0 y1 y2, LeO (furrowref4_sign.j0 k y0 y1 y2) (furrowref4_sign.j0 (k + 1) y0 y1 y2)) ∧ (∀ y0 y1 y2, LeO (furrowref4_sign.j1 k y0 y1 y2) (furrowref4_sign.j1 (k + 1) y0 y1 y2))
 | 0 => by refine ⟨?_, ?_⟩ <;> intros <;> exact fun r h => by simp [furrowref4_sign.j0, furrowref4_sign.j1] at h
 | k + 1 => by
  obtain ⟨i0_, i1_⟩ := furrowref4_sign.mono_l k; refine ⟨?_, ?_⟩ <;> intros
  ·unfold furrowref4_sign.j0; exact lO_
  ·unfold furrowref4_sign.j1; exact lO_
theorem furrowref4_sign.mono : ∀ a0 a1 k, LeO (furrowref4_sign.f k a0 a1) (furrowref4_sign.f (k + 1) a0 a1) := by
 intro a0 a1 k
 obtain ⟨i0_, i1_⟩ := furrowref4_sign.mono_l k; unfold furrowref4_sign.f; exact lO_
set_option maxHeartbeats 8000000 in
set_option maxRecDepth 100000 in
theorem furrowref4_sign.calls (k : Nat) (a0 : ByteArray) (a1 : Int) (r : Int) (w : World) (h : furrowref4_sign.f k a0 a1 = some r) :
  Calls Tryd.prog 41 #[.string a0, .int .i64 a1] w fun e w' => e = .returned (.int .i64 r) ∧ Drawn0 w w' := by
 have H : (if (wrap64 (a1 + 1)) < (a0.size : Int) then (if 0 ≤ (wrap64 (a1 + 1)) then (furrowref4_sign.j0 k a0 a1 ((bt a0 (wrap64 (a1 + 1))) == 61)) else (none)) else (furrowref4_sign.j0 k a0 a1 false)) = some r := h
 clear h
 have av := mk0 H
 clear H
 go_enter Tryd.func41, Tryd.ntmps41
 go_upto_region 1 with (fail)
 go_cut [5] (fun v5 wc => ∃ (kq : Nat) (x5_2 : Bool), v5 = .bool x5_2 ∧ Aside0 (furrowref4_sign.j0 kq a0 a1 x5_2 = some r) ∧ Aside0 (kq ≤ k) ∧ Drawn0 w wc)
 case first =>
  have H := av.out; clear av
  by_cases c4 : (wrap64 (a1 + 1)) < (a0.size : Int)
  ·rw [if_pos c4] at H
   have ak := decide_eq_true c4; clear c4; (first | rw [ak] | (simp only [i64_w, i32_w]; rw [ak]) | skip); obtain ⟨ji5, hji5⟩ : ∃ j_ : Int, (wrap64 (a1 + 1)) = j_ := ⟨_, rfl⟩; (replace H : (if 0 ≤ (ji5) then (furrowref4_sign.j0 k a0 a1 ((bt a0 (ji5)) == 61)) else (none)) = some r := by first | (rw [hji5] at H; exact H) | (simp only [hji5] at H ⊢; exact H)); (try rw [hji5] at ak); have hji5w : (IntKind.i64.wrap (a1 + 1)) = ji5 := (i64_w _).trans hji5
   by_cases c6 : 0 ≤ (ji5)
   ·rw [if_pos c6] at H
    have aY := decide_eq_true c6; clear c6; have H' := mk0 H; clear H; have p7 : 0 ≤ ((ji5) : Int) := dY; have q7 : (ji5) < (a0.size : Int) := dY; have aZ := bt_at a0 (ji5); replace p7 := eq_true p7; replace q7 := eq_true q7; go_wp2
    go_meet
    case rel => exact ⟨_, (((bt a0 (ji5)) == 61)), (by first | rfl | (simp; done) | (simp only [← hji5] <;> (first | rfl | simp)) | (simp [*]; done)), H', ⟨by first | omega | exact Nat.le_refl _⟩, by repeat (first | exact Drawn0.refl _ | apply Drawn0.step)⟩
   ·exact nO H c6
  ·rw [if_neg c4] at H
   have ak := decide_eq_false c4; clear c4; (first | rw [ak] | (simp only [i64_w, i32_w]; rw [ak]) | skip); have H' := mk0 H; clear H; go_wp2
   go_meet
   case rel => exact ⟨_, (false), eK, H', ⟨by first | omega | exact Nat.le_refl _⟩, by repeat (first | exact Drawn0.refl _ | apply Drawn0.step)⟩
 case rest =>
  clear av; obtain ⟨kq, x5_2, rfl, HA, am, ⟨mc2, rfl⟩⟩ := hcut
  cases kq with
  | zero => exact absurd HA.out (by simp [furrowref4_sign.j0])
  | succ kj2 =>
   have H := HA.out; clear HA; simp only [furrowref4_sign.j0] at H
   by_cases c8 : 0 ≤ a1
   ·rw [if_pos c8] at H
    have ax := decide_eq_true c8; clear c8
    by_cases c9 : a1 < (a0.size : Int)
    ·rw [if_pos c9] at H
     have ay := decide_eq_true c9; clear c9; have aw := mk0 H; clear H; have ao : 0 ≤ (a1 : Int) := dY; have ap : a1 < (a0.size : Int) := dY; have az := bt_at a0 a1; replace ao := eq_true ao; replace ap := eq_true ap
     go_upto_if 21 with (fail)
     go_cut [21] (fun v21 wc => ∃ (kq : Nat) (aq : Bool), v21 = .bool aq ∧ Aside0 (furrowref4_sign.j1 kq x5_2 (bt a0 a1) aq = some r) ∧ Aside0 (kq ≤ kj2) ∧ Drawn0 w wc)
     case first =>
      have H := aw.out; clear aw
      by_cases aa : (bt a0 a1) = 60
      ·rw [if_pos aa] at H
       have al : ((bt a0 a1) == 60) = true := beq_iff_eq.mpr aa; have aA : ((bt a0 a1) != 60) = false := bne_eq_false_iff_eq.mpr aa; clear aa; (first | rw [al] | (simp only [i64_w, i32_w]; rw [al]) | skip); have H' := mk0 H; clear H; go_wp2
       go_meet
       case rel => exact ⟨_, (((bt a0 a1) == 60)), eK, H', ⟨by have := am.out; first | omega | exact Nat.le_refl _⟩, by repeat (first | exact Drawn0.refl _ | apply Drawn0.step)⟩
      ·rw [if_neg aa] at H
       have al : ((bt a0 a1) == 60) = false := beq_eq_false_iff_ne.mpr aa; have aA : ((bt a0 a1) != 60) = true := bne_iff_ne.mpr aa; (first | rw [al] | (simp only [i64_w, i32_w]; rw [al]) | skip)
       by_cases ab : (bt a0 a1) = 62
       ·rw [if_pos ab] at H
        have aC : ((bt a0 a1) == 62) = true := beq_iff_eq.mpr ab; have aD : ((bt a0 a1) != 62) = false := bne_eq_false_iff_eq.mpr ab; clear ab; have H' := mk0 H; clear H; go_wp2
        go_meet
        case rel => exact ⟨_, (((bt a0 a1) == 62)), eK, H', ⟨by have := am.out; first | omega | exact Nat.le_refl _⟩, by repeat (first | exact Drawn0.refl _ | apply Drawn0.step)⟩
       ·rw [if_neg ab] at H
        have aC : ((bt a0 a1) == 62) = false := beq_eq_false_iff_ne.mpr ab; have aD : ((bt a0 a1) != 62) = true := bne_iff_ne.mpr ab
        by_cases ac : (bt a0 a1) = 61
        ·rw [if_pos ac] at H
         have aE : ((bt a0 a1) == 61) = true := beq_iff_eq.mpr ac; have aG : ((bt a0 a1) != 61) = false := bne_eq_false_iff_eq.mpr ac; clear ac; have H' := mk0 H; clear H; go_wp2
         go_meet
         case rel => exact ⟨_, (((bt a0 a1) == 61)), eK, H', ⟨by have := am.out; first | omega | exact Nat.le_refl _⟩, by repeat (first | exact Drawn0.refl _ | apply Drawn0.step)⟩
        ·rw [if_neg ac] at H
         have aE : ((bt a0 a1) == 61) = false := beq_eq_false_iff_ne.mpr ac; have aG : ((bt a0 a1) != 61) = true := bne_iff_ne.mpr ac; have H' := mk0 H; clear H; go_wp2
         go_meet
         case rel => exact ⟨_, (((bt a0 a1) == 47)), eK, H', ⟨by have := am.out; first | omega | exact Nat.le_refl _⟩, by repeat (first | exact Drawn0.refl _ | apply Drawn0.step)⟩
     case rest =>
      clear aw; (try clear c8 ax c9 ay ao ap az ao ap); obtain ⟨kq, aq, rfl, HA, a_, ⟨mc10, rfl⟩⟩ := hcut
      cases kq with
      | zero => exact absurd HA.out (by simp [furrowref4_sign.j1])
      | succ kj10 =>
       have H := HA.out; clear HA; simp only [furrowref4_sign.j1] at H
       by_cases ar : aq = true
       ·subst ar
        replace H := iT H
        by_cases au : x5_2 = true
        ·subst au
         replace H := iT H; obtain rfl := Option.some.inj H; go_wp2; go_ret; exact ⟨eK, by repeat (first | exact Drawn0.refl _ | apply Drawn0.step)⟩
        ·replace au := Bool.eq_false_iff.mpr au
         subst au; replace H := iF H; obtain rfl := Option.some.inj H; go_wp2; go_ret; exact ⟨eK, by repeat (first | exact Drawn0.refl _ | apply Drawn0.step)⟩
       ·replace ar := Bool.eq_false_iff.mpr ar
        subst ar; replace H := iF H
        by_cases ae : (bt a0 a1) = 43
        ·rw [if_pos ae] at H
         have aH : ((bt a0 a1) == 43) = true := beq_iff_eq.mpr ae; have aI : ((bt a0 a1) != 43) = false := bne_eq_false_iff_eq.mpr ae; clear ae; obtain rfl := Option.some.inj H; go_wp2; go_ret; exact ⟨eK, by repeat (first | exact Drawn0.refl _ | apply Drawn0.step)⟩
        ·rw [if_neg ae] at H
         have aH : ((bt a0 a1) == 43) = false := beq_eq_false_iff_ne.mpr ae; have aI : ((bt a0 a1) != 43) = true := bne_iff_ne.mpr ae
         by_cases af : (bt a0 a1) = 45
         ·rw [if_pos af] at H
          have aJ : ((bt a0 a1) == 45) = true := beq_iff_eq.mpr af; have aK : ((bt a0 a1) != 45) = false := bne_eq_false_iff_eq.mpr af; clear af; obtain rfl := Option.some.inj H; go_wp2; go_ret; exact ⟨eK, by repeat (first | exact Drawn0.refl _ | apply Drawn0.step)⟩
         ·rw [if_neg af] at H
          have aJ : ((bt a0 a1) == 45) = false := beq_eq_false_iff_ne.mpr af; have aK : ((bt a0 a1) != 45) = true := bne_iff_ne.mpr af
          by_cases ag : (bt a0 a1) = 42
          ·rw [if_pos ag] at H
           have aM : ((bt a0 a1) == 42) = true := beq_iff_eq.mpr ag; have aN : ((bt a0 a1) != 42) = false := bne_eq_false_iff_eq.mpr ag; clear ag; obtain rfl := Option.some.inj H; go_wp2; go_ret; exact ⟨eK, by repeat (first | exact Drawn0.refl _ | apply Drawn0.step)⟩
          ·rw [if_neg ag] at H
           have aM : ((bt a0 a1) == 42) = false := beq_eq_false_iff_ne.mpr ag; have aN : ((bt a0 a1) != 42) = true := bne_iff_ne.mpr ag
           by_cases ah : (bt a0 a1) = 40
           ·rw [if_pos ah] at H
            have aQ : ((bt a0 a1) == 40) = true := beq_iff_eq.mpr ah; have aT : ((bt a0 a1) != 40) = false := bne_eq_false_iff_eq.mpr ah; clear ah; obtain rfl := Option.some.inj H; go_wp2; go_ret; exact ⟨eK, by repeat (first | exact Drawn0.refl _ | apply Drawn0.step)⟩
           ·rw [if_neg ah] at H
            have aQ : ((bt a0 a1) == 40) = false := beq_eq_false_iff_ne.mpr ah; have aT : ((bt a0 a1) != 40) = true := bne_iff_ne.mpr ah
            by_cases ai : (bt a0 a1) = 41
            ·rw [if_pos ai] at H
             have aU : ((bt a0 a1) == 41) = true := beq_iff_eq.mpr ai; have aV : ((bt a0 a1) != 41) = false := bne_eq_false_iff_eq.mpr ai; clear ai; obtain rfl := Option.some.inj H; go_wp2; go_ret; exact ⟨eK, by repeat (first | exact Drawn0.refl _ | apply Drawn0.step)⟩
            ·rw [if_neg ai] at H
             have aU : ((bt a0 a1) == 41) = false := beq_eq_false_iff_ne.mpr ai; have aV : ((bt a0 a1) != 41) = true := bne_iff_ne.mpr ai
             by_cases aj : (bt a0 a1) = 44
             ·rw [if_pos aj] at H
              have aW : ((bt a0 a1) == 44) = true := beq_iff_eq.mpr aj; have aX : ((bt a0 a1) != 44) = false := bne_eq_false_iff_eq.mpr aj; clear aj; obtain rfl := Option.some.inj H; go_wp2; go_ret; exact ⟨eK, by repeat (first | exact Drawn0.refl _ | apply Drawn0.step)⟩
             ·rw [if_neg aj] at H
              have aW : ((bt a0 a1) == 44) = false := beq_eq_false_iff_ne.mpr aj; have aX : ((bt a0 a1) != 44) = true := bne_iff_ne.mpr aj; obtain rfl := Option.some.inj H; go_wp2; go_ret; exact ⟨eK, by repeat (first | exact Drawn0.refl _ | apply Drawn0.step)⟩
    ·exact nO H c9
   ·exact nO H c8

end Go.Proofs.YtmhkijidnpihmaaDoor.X
