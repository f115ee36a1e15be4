-- PRINTED by print.py (a twelfth state) out of the translation. Not trusted: Lean checks it.
import Derived.Test.YtmhkijidnpihmaaDoorXx0
namespace Go.Proofs.YtmhkijidnpihmaaDoor.X
open Go.Proofs.YtmhkijidnpihmaaDoor.Flt Go.Proofs.YtmhkijidnpihmaaDoor.H Go.RowKit Go.Proofs.YtmhkijidnpihmaaDoorW.PrintWords Go.Proofs.YtmhkijidnpihmaaDoorW.PrintLast Go.Proofs.YtmhkijidnpihmaaDoorW.PrintMore
attribute [local go_sem] max2_int min2_int max_two min_two max_three min_three max_four min_four   -- for this text's walks alone
set_option linter.unusedVariables false
set_option linter.unusedSimpArgs false

/-! ### furrowlaw9_store: function 13 -/
def furrowlaw9_store.l0 : Nat → List Int → List Int → Int → Option (List Int)
 | 0, _, _, _ => none
 | k + 1, x1, x5, x6 => if x6 < (x5.length : Int) then (if x6 < (x1.length : Int) then (if 0 ≤ x6 then (furrowlaw9_store.l0 k x1 (x5.set (x6 : Int).toNat (rd x1 x6)) (wrap64 (x6 + 1))) else (none)) else (some x5)) else (some x5)
def furrowlaw9_store.f (k : Nat) (l0_0 : List (S71)) (a0_1 : Int) (l1 : List Int) : Option (List Int) := if 0 ≤ a0_1 then (if (a0_1 : Int).toNat ≤ 35184372088832 then (furrowlaw9_store.l0 k l1 (List.replicate (a0_1 : Int).toNat 0) 0) else (none)) else (none)
theorem furrowlaw9_store.mono_l : ∀ k, (∀ y0 y1 y2, LeO (furrowlaw9_store.l0 k y0 y1 y2) (furrowlaw9_store.l0 (k + 1) y0 y1 y2))
 | 0 => fun _ _ _ r h => by simp [furrowlaw9_store.l0] at h
 | k + 1 => by
  have ih0 := furrowlaw9_store.mono_l k
  ·intro y0 y1 y2
   unfold furrowlaw9_store.l0
   repeat' first
   | (with_reducible exact ih0 _ _ _)
   | (with_reducible exact LeO.refl _)
   | (with_reducible exact LeO.none _)
   | (with_reducible refine LeO.ite ?_ ?_)
   | (with_reducible refine LeO.bind ?_ (fun _ => ?_))
   | exact ih0 _ _ _
   | exact LeO.none _
   | refine LeO.ite ?_ ?_
   | refine LeO.bind ?_ (fun _ => ?_)
theorem furrowlaw9_store.mono : ∀ a0 a1 a2 k, LeO (furrowlaw9_store.f k a0 a1 a2) (furrowlaw9_store.f (k + 1) a0 a1 a2) := by
 intro a0 a1 a2 k
 have ih0 := furrowlaw9_store.mono_l k
 unfold furrowlaw9_store.f
 repeat' first
   | (with_reducible exact ih0 _ _ _)
   | (with_reducible exact LeO.refl _)
   | (with_reducible exact LeO.none _)
   | (with_reducible refine LeO.ite ?_ ?_)
   | (with_reducible refine LeO.bind ?_ (fun _ => ?_))
   | exact ih0 _ _ _
   | exact LeO.none _
   | refine LeO.ite ?_ ?_
   | refine LeO.bind ?_ (fun _ => ?_)
set_option maxHeartbeats 8000000 in
set_option maxRecDepth 100000 in
theorem furrowlaw9_store.calls (k : Nat) (A0_0 : Option Addr) (c0_0 : Nat) (l0_0 : List (S71)) (a0_1 : Int) (A1 : Option Addr) (c1 : Nat) (l1 : List Int) (r : List Int) (w : World) (hr0_0 : Kd.C k71 w A0_0 l0_0.length l0_0) (hc0_0 : l0_0.length ≤ c0_0) (hr1 : Kd.C (Kd.int .i64) w A1 l1.length l1) (hc1 : l1.length ≤ c1) (h : furrowlaw9_store.f k l0_0 a0_1 l1 = some r) :
  Calls Tryd.prog 13 #[.agg #[.slice A0_0 l0_0.length c0_0, .int .i64 a0_1], .slice A1 l1.length c1] w fun e w' => ∃ v0_ : Value, e = .returned (v0_) ∧ Kd.R (Kd.int .i64) 2 w' w.heap.size (fun _ => True) v0_ r ∧ Below w.heap.size w w' := by
 have hu29 := Tryd.underlying29
 have ba := mk0 hr0_0
 have bb := mk0 hc0_0
 clear hr0_0 hc0_0
 have az := mk0 hr1
 have bc := mk0 hc1
 clear hr1 hc1
 have HB := mk0 (Below.refl w.heap.size w)
 have H : (if 0 ≤ a0_1 then (if (a0_1 : Int).toNat ≤ 35184372088832 then (furrowlaw9_store.l0 k l1 (List.replicate (a0_1 : Int).toNat 0) 0) else (none)) else (none)) = some r := h
 clear h
 by_cases c3 : 0 ≤ a0_1
 ·rw [if_pos c3] at H
  have aA := eq_true c3; have aC := decide_eq_true c3; clear c3
  by_cases c4 : (a0_1 : Int).toNat ≤ 35184372088832
  ·rw [if_pos c4] at H
   have aD := eq_true c4; have aE := decide_eq_true c4; clear c4; obtain ⟨aq, af⟩ : ∃ y_ : List Int, y_ = (List.replicate (a0_1 : Int).toNat 0) := ⟨_, rfl⟩; (replace H : (furrowlaw9_store.l0 k l1 aq 0) = some r := by (try rw [af]); first | with_reducible exact H | with_reducible exact oN H | exact H); have ar := mk0 af; clear af; have H' := mk0 H; clear H; go_enter Tryd.func13, Tryd.ntmps13
   go_wp2_with (first | ((with_reducible refine gate_dst (N := 2) rfl ?_); (try (refine gate_guard (by rfl) ?_; dsimp only)); refine bxE 2 #[.slice A0_0 l0_0.length c0_0, .int .i64 a0_1] 29 ?_; intro aG hg w5 hbox hb; have ab := mk0 (hbox); have bd := gE (uL HB.out) hg; have bf := gE (uL HB.out) hg; replace HB := hbB (uL HB.out) hb; clear hb hbox hg; obtain ⟨aH, aI, aJ, aK⟩ := cL2 ab) | ((with_reducible refine gate_dst (N := 9) rfl ?_); (try (refine gate_guard (by rfl) ?_; dsimp only)); refine Kd.R_make (Kd.int .i64) _ 2 rfl (N := 9) rfl 38 _ _ rfl a0_1 rfl rfl Tryd.underlying38 (.int .i64 0) 8 info2 rfl (by decide) (by omega) 0 (ok := fun _ => True) (okp := fun _ => True) rfl (fun _ hk => hk) trivial (dY) (Nat.le_trans (Nat.mul_le_mul_right _ (dY : a0_1.toNat ≤ 35184372088832)) (by omega)) (Below.refl _ _) (Nat.le_refl _) ?_; intro aM w7 ho8 hb hg_ hnew_; clear hg_ hnew_; (first | rw [← ar.out] at ho8 | (simp only [Int.reduceToNat] at ho8; rw [← ar.out] at ho8)); have aN := mk0 (Kd.R_lower ho8 (below_size bH)); replace ab := bB ab hb; replace HB := hbB bH hb; clear hb ho8))
   go_loopg [6] k (fun kq v6 w' => ∃ (x5_1 : List Int) (x6_1 : Int), v6 = .int .i64 x6_1 ∧ Aside0 (furrowlaw9_store.l0 kq l1 x5_1 x6_1 = some r) ∧ Aside0 (kq ≤ k) ∧ Aside0 (Kd.R (Kd.int .i64) 2 w' w.heap.size (fun _ => True) aM x5_1) ∧ Aside0 (w'.heap[aG]? = some (.cells #[(.slice A0_0 l0_0.length c0_0), .int .i64 a0_1] 29 (0, 0))) ∧ Aside0 (Below w.heap.size w w'))
   case atStart => exact ⟨(aq), (0), eK, H', ⟨Nat.le_refl _⟩, ⟨uR aN.out⟩, ⟨uB ab.out⟩, ⟨bH⟩⟩
   case round =>
    clear H'; (try clear c1 c3 aA aC c4 aD aE aH aI aJ aK); obtain ⟨x5_1, x6_1, rfl, HA, au, aa, ab, HB⟩ := hrel
    cases gk with
    | zero => exact absurd HA.out (by simp [furrowlaw9_store.l0])
    | succ k1 =>
     have H := HA.out; clear HA; simp only [furrowlaw9_store.l0] at H
     by_cases c9 : x6_1 < (x5_1.length : Int)
     ·rw [if_pos c9] at H
      have aQ := decide_eq_true c9; clear c9
      by_cases ac : x6_1 < (l1.length : Int)
      ·rw [if_pos ac] at H
       have aT := decide_eq_true ac; clear ac
       by_cases ae : 0 ≤ x6_1
       ·rw [if_pos ae] at H
        have bg := decide_eq_true ae; clear ae; obtain ⟨ag, ah⟩ : ∃ y_ : List Int, y_ = (x5_1.set (x6_1 : Int).toNat (rd l1 x6_1)) := ⟨_, rfl⟩; (replace H : (furrowlaw9_store.l0 k1 l1 ag (wrap64 (x6_1 + 1))) = some r := by (try rw [ah]); first | with_reducible exact H | with_reducible exact oN H | exact H); have aU := mk0 ah; clear ah; have H' := mk0 H; clear H; obtain ⟨bh, aV, aW⟩ := Kd.R_slice aa.out; subst aW; have ai : 0 ≤ (x6_1 : Int) := dY; have aj : x6_1 < (l1.length : Int) := dY; obtain ⟨bi, aX, av⟩ := Kd.at_int az.out x6_1 ai aj
        cases aX
        replace av := oC HB av; replace ai := eq_true ai; replace aj := eq_true aj; have ak : 0 ≤ (x6_1 : Int) := dY; have al : (x6_1 : Int) < ((x5_1.length : Int) : Int) := dY; obtain ⟨am, bj, aw, ax, gl12, cl12, ay⟩ := Kd.R_form aa.out (by omega); (first | cases aw | (injection aw with ea_ en_ ec_; (first | subst ea_ | (injection ea_ with ea_; subst ea_)); subst ec_; clear en_)); have aY := mk0 ax; have GG12 := mk0 ay; clear ax gl12 ay; obtain ⟨bk, bl⟩ := Kd.R_celln 0 aa.out (x6_1 : Int) ak al; replace ak := eq_true ak; replace al := eq_true al; have ao := Kd.R_putg aa.out (x6_1 : Int) (rd l1 x6_1)
        go_wp2_with (first | ((with_reducible refine gate_store (t := 2) (p := 28) rfl ?_); refine store_event (t := 2) (p := 28) (v := ?vo_w15) (w1 := (wr.setCell ⟨am, (x6_1 : Int).toNat, none⟩ (.int .i64 (rd l1 x6_1)))) ?hg ?ho ?hn ?hr ?_; (case ho => rfl); (case hg => rfl); (case hn => rfl); (case hr => first | (go_simp; done) | (go_simp; rfl)); intro ap hw; have hg : wr.grownBy ap (some am) := (by rw [hw]; exact ao.2); have hp_ : Kd.R (Kd.int .i64) 2 ap w.heap.size (fun _ => True) (.slice (some ⟨am, 0, none⟩) x5_1.length aV) ag := (by rw [hw, aU.out]; exact ao.1); clear ao; replace ab := (gB ab hg (Kd.R_ne aa.out ab.out (by decide))); replace aa := mk0 (hp_); replace HB := mk0 ((by rw [hw]; exact below_set (HB.out) aY.out : Below w.heap.size w ap)); clear hg hw hp_))
        go_roundg k1
        case measure => have := au.out; omega
        case rel => exact ⟨(ag), (wrap64 (x6_1 + 1)), eK, H', ⟨by have := au.out; omega⟩, ⟨uR aa.out⟩, ⟨uB ab.out⟩, ⟨bH⟩⟩
       ·exact nO H ae
      ·rw [if_neg ac] at H
       have aT := decide_eq_false ac; clear ac; obtain rfl := Option.some.inj H; obtain ⟨bm, bn, aZ⟩ := Kd.R_slice aa.out; subst aZ; go_wp2; go_ret; exact ⟨_, rE, uR aa.out, bH⟩
     ·rw [if_neg c9] at H
      have aQ := decide_eq_false c9; clear c9; obtain rfl := Option.some.inj H; obtain ⟨bo, bp, a_⟩ := Kd.R_slice aa.out; subst a_; go_wp2; go_ret; exact ⟨_, rE, uR aa.out, bH⟩
  ·exact nO H c4
 ·exact nO H c3

end Go.Proofs.YtmhkijidnpihmaaDoor.X
