-- PRINTED by print.py (a twelfth state) out of the translation. Not trusted: Lean checks it.
import Derived.Test.YtkkpgjkjkcmcbaaDoorXx0
namespace Go.Proofs.YtkkpgjkjkcmcbaaDoor.X
open Go.Proofs.YtkkpgjkjkcmcbaaDoor.Flt Go.Proofs.YtkkpgjkjkcmcbaaDoor.H Go.RowKit Go.Proofs.YtkkpgjkjkcmcbaaDoorW.PrintWords Go.Proofs.YtkkpgjkjkcmcbaaDoorW.PrintLast Go.Proofs.YtkkpgjkjkcmcbaaDoorW.PrintMore
attribute [local go_sem] max2_int min2_int max_two min_two max_three min_three max_four min_four   -- for this text's walks alone
set_option linter.unusedVariables false
set_option linter.unusedSimpArgs false

/-! ### furrowlaw15_Few: function 7 -/
mutual
def furrowlaw15_Few.j0 : Nat → Bool → Int → List (S59) → List (S59) → Option (Bool)
 | 0, _, _, _, _ => none
 | k + 1, x14, x309000, x309001, x309002 => if x14 = true then (some false) else (furrowlaw15_Few.l0 k 0 x309000 x309001 x309002)
def furrowlaw15_Few.l0 : Nat → Int → Int → List (S59) → List (S59) → Option (Bool)
 | 0, _, _, _, _ => none
 | k + 1, x3, x309000, x309001, x309002 => if x3 < (x309001.length : Int) then (if 0 ≤ x3 then (if (((rd_T59 x309001 x3).f0).length : Int) > 20 then (some false) else (furrowlaw15_Few.l0 k (wrap64 (x3 + 1)) x309000 x309001 x309002)) else (none)) else (furrowlaw15_Few.l1 k 0 x309000 x309001 x309002)
def furrowlaw15_Few.l1 : Nat → Int → Int → List (S59) → List (S59) → Option (Bool)
 | 0, _, _, _, _ => none
 | k + 1, x4, x309000, x309001, x309002 => if x4 < (x309002.length : Int) then (if 0 ≤ x4 then (if (((rd_T59 x309002 x4).f0).length : Int) > 20 then (some false) else (furrowlaw15_Few.l1 k (wrap64 (x4 + 1)) x309000 x309001 x309002)) else (none)) else (some true)
end
def furrowlaw15_Few.f (k : Nat) (a0_0 : Int) (l0_1 : List (S59)) (l0_2 : List (S59)) : Option (Bool) := if (l0_1.length : Int) > 70 then (furrowlaw15_Few.j0 k true a0_0 l0_1 l0_2) else (furrowlaw15_Few.j0 k (decide ((l0_2.length : Int) > 70)) a0_0 l0_1 l0_2)
theorem furrowlaw15_Few.mono_l : ∀ k, (∀ y0 y1 y2 y3, LeO (furrowlaw15_Few.j0 k y0 y1 y2 y3) (furrowlaw15_Few.j0 (k + 1) y0 y1 y2 y3)) ∧ (∀ y0 y1 y2 y3, LeO (furrowlaw15_Few.l0 k y0 y1 y2 y3) (furrowlaw15_Few.l0 (k + 1) y0 y1 y2 y3)) ∧ (∀ y0 y1 y2 y3, LeO (furrowlaw15_Few.l1 k y0 y1 y2 y3) (furrowlaw15_Few.l1 (k + 1) y0 y1 y2 y3))
 | 0 => by refine ⟨?_, ?_, ?_⟩ <;> intros <;> exact fun r h => by simp [furrowlaw15_Few.j0, furrowlaw15_Few.l0, furrowlaw15_Few.l1] at h
 | k + 1 => by
  obtain ⟨i0_, i1_, i2_⟩ := furrowlaw15_Few.mono_l k; refine ⟨?_, ?_, ?_⟩ <;> intros
  ·unfold furrowlaw15_Few.j0; exact lO_
  ·unfold furrowlaw15_Few.l0; exact lO_
  ·unfold furrowlaw15_Few.l1; exact lO_
theorem furrowlaw15_Few.mono : ∀ a0 a1 a2 k, LeO (furrowlaw15_Few.f k a0 a1 a2) (furrowlaw15_Few.f (k + 1) a0 a1 a2) := by
 intro a0 a1 a2 k
 obtain ⟨i0_, i1_, i2_⟩ := furrowlaw15_Few.mono_l k; unfold furrowlaw15_Few.f; exact lO_
set_option maxHeartbeats 8000000 in
set_option maxRecDepth 100000 in
theorem furrowlaw15_Few.calls (k : Nat) (a0_0 : Int) (A0_1 : Option Addr) (c0_1 : Nat) (l0_1 : List (S59)) (A0_2 : Option Addr) (c0_2 : Nat) (l0_2 : List (S59)) (r : Bool) (w : World) (hr0_1 : Kd.C k59 w A0_1 l0_1.length l0_1) (hc0_1 : l0_1.length ≤ c0_1) (hr0_2 : Kd.C k59 w A0_2 l0_2.length l0_2) (hc0_2 : l0_2.length ≤ c0_2) (h : furrowlaw15_Few.f k a0_0 l0_1 l0_2 = some r) :
  Calls Tryd.prog 7 #[.agg #[.int .i64 a0_0, .slice A0_1 l0_1.length c0_1, .slice A0_2 l0_2.length c0_2]] w fun e w' => e = .returned (.bool r) ∧ Below w.heap.size w w' := by
 have hu24 := Tryd.underlying24
 have aG := mk0 hr0_1
 have bi := mk0 hc0_1
 clear hr0_1 hc0_1
 have aH := mk0 hr0_2
 have bj := mk0 hc0_2
 clear hr0_2 hc0_2
 have HB := mk0 (Below.refl w.heap.size w)
 have H : (if (l0_1.length : Int) > 70 then (furrowlaw15_Few.j0 k true a0_0 l0_1 l0_2) else (furrowlaw15_Few.j0 k (decide ((l0_2.length : Int) > 70)) a0_0 l0_1 l0_2)) = some r := h
 clear h
 have aA := mk0 H
 clear H
 go_enter Tryd.func7, Tryd.ntmps7
 go_upto_region 1 with (first | ((with_reducible refine gate_dst (N := 1) rfl ?_); (try (refine gate_guard (by rfl) ?_; dsimp only)); refine bxE 1 #[.int .i64 a0_0, .slice A0_1 l0_1.length c0_1, .slice A0_2 l0_2.length c0_2] 24 ?_; intro aC hg w3 hbox hb; have aa := mk0 (hbox); have bk := gE (uL HB.out) hg; have bl := gE (uL HB.out) hg; replace HB := hbB (uL HB.out) hb; clear hb hbox hg))
 (try simp only [AP])
 go_cut [14] (fun aK wc => ∃ (kq : Nat) (aw : Bool), aK = .bool aw ∧ Aside0 (furrowlaw15_Few.j0 kq aw a0_0 l0_1 l0_2 = some r) ∧ Aside0 (kq ≤ k) ∧ Aside0 (wc.heap[aC]? = some (.cells #[.int .i64 a0_0, (.slice A0_1 l0_1.length c0_1), (.slice A0_2 l0_2.length c0_2)] 24 (0, 0))) ∧ Aside0 (Below w.heap.size w wc))
 case first =>
  have H := aA.out; clear aA
  by_cases c4 : (l0_1.length : Int) > 70
  ·rw [if_pos c4] at H
   have ak := decide_eq_true c4; have aM : decide (70 < l0_1.length) = true := decide_eq_true (by omega); clear c4; (first | rw [ak] | (simp only [i64_w, i32_w]; rw [ak]) | skip); have H' := mk0 H; clear H; obtain ⟨bm, bn, bo, bp, bq, br⟩ := cL3 aa; go_wp2
   go_meet
   case rel => exact ⟨_, (true), eK, H', ⟨by first | omega | exact Nat.le_refl _⟩, ⟨uB aa.out⟩, ⟨bH⟩⟩
  ·rw [if_neg c4] at H
   have ak := decide_eq_false c4; have aM : decide (70 < l0_1.length) = false := decide_eq_false (by omega); clear c4; (first | rw [ak] | (simp only [i64_w, i32_w]; rw [ak]) | skip); have H' := mk0 H; clear H; obtain ⟨bs, bu, bv, bw, bx, bz⟩ := cL3 aa; go_wp2
   go_meet
   case rel => exact ⟨_, (decide ((l0_2.length : Int) > 70)), eK, H', ⟨by first | omega | exact Nat.le_refl _⟩, ⟨uB aa.out⟩, ⟨bH⟩⟩
 case rest =>
  clear aA; obtain ⟨kq, aw, rfl, HA, ax, aa, HB⟩ := hcut
  cases kq with
  | zero => exact absurd HA.out (by simp [furrowlaw15_Few.j0])
  | succ kj1 =>
   have H := HA.out; clear HA; simp only [furrowlaw15_Few.j0] at H
   by_cases c7 : aw = true
   ·subst c7
    replace H := iT H; obtain rfl := Option.some.inj H; go_wp2; go_ret; exact ⟨rE, bH⟩
   ·replace c7 := Bool.eq_false_iff.mpr c7
    subst c7; replace H := iF H; have H' := mk0 H; clear H; go_wp2
    go_loopg [3] kj1 (fun kq v3 w' => ∃ (x3_2 : Int), v3 = .int .i64 x3_2 ∧ Aside0 (furrowlaw15_Few.l0 kq x3_2 a0_0 l0_1 l0_2 = some r) ∧ Aside0 (kq ≤ kj1) ∧ Aside0 (w'.heap[aC]? = some (.cells #[.int .i64 a0_0, (.slice A0_1 l0_1.length c0_1), (.slice A0_2 l0_2.length c0_2)] 24 (0, 0))) ∧ Aside0 (Below w.heap.size w w'))
    case atStart => exact ⟨(0), eK, H', ⟨Nat.le_refl _⟩, ⟨uB aa.out⟩, ⟨bH⟩⟩
    case round =>
     clear H'; (try clear c7); obtain ⟨x3_2, rfl, HA, ay, aa, HB⟩ := hrel
     cases gk with
     | zero => exact absurd HA.out (by simp [furrowlaw15_Few.l0])
     | succ k2 =>
      have H := HA.out; clear HA; simp only [furrowlaw15_Few.l0] at H
      by_cases c8 : x3_2 < (l0_1.length : Int)
      ·rw [if_pos c8] at H
       have aI := decide_eq_true c8; clear c8
       by_cases c9 : 0 ≤ x3_2
       ·rw [if_pos c9] at H
        have bC := decide_eq_true c9; clear c9
        by_cases ah : (((rd_T59 l0_1 x3_2).f0).length : Int) > 20
        ·rw [if_pos ah] at H
         have aN := decide_eq_true ah; have aQ : decide (20 < ((rd_T59 l0_1 x3_2).f0).length) = true := decide_eq_true (by omega); clear ah; obtain rfl := Option.some.inj H; obtain ⟨bE, bF, bG, bI, bJ, bK⟩ := cL3 aa; have ac : 0 ≤ (x3_2 : Int) := dY; have ae : x3_2 < (l0_1.length : Int) := dY; obtain ⟨aT, aU, aV, aD, al, am, ao, ap⟩ := at_T59 aG.out x3_2 ac ae
         cases aD
         replace al := oC HB al; replace am := oC HB am; have aW := mk0 ap; have aX := mk0 ao; clear ap ao; replace ac := eq_true ac; replace ae := eq_true ae; go_wp2; go_ret; exact ⟨rE, bH⟩
        ·rw [if_neg ah] at H
         have aN := decide_eq_false ah; have aQ : decide (20 < ((rd_T59 l0_1 x3_2).f0).length) = false := decide_eq_false (by omega); clear ah; have H' := mk0 H; clear H; obtain ⟨bL, bM, bO, bP, bQ, bR⟩ := cL3 aa; have ac : 0 ≤ (x3_2 : Int) := dY; have ae : x3_2 < (l0_1.length : Int) := dY; obtain ⟨aT, aU, aV, aD, al, am, ao, ap⟩ := at_T59 aG.out x3_2 ac ae
         cases aD
         replace al := oC HB al; replace am := oC HB am; have aW := mk0 ap; have aX := mk0 ao; clear ap ao; replace ac := eq_true ac; replace ae := eq_true ae; go_wp2
         go_roundg k2
         case measure => have := ax.out; have := ay.out; omega
         case rel => exact ⟨(wrap64 (x3_2 + 1)), eK, H', ⟨by have := ax.out; have := ay.out; omega⟩, ⟨uB aa.out⟩, ⟨bH⟩⟩
       ·exact nO H c9
      ·rw [if_neg c8] at H
       have aI := decide_eq_false c8; clear c8; have H' := mk0 H; clear H; obtain ⟨aY, aZ, a6, a7, a8, a9⟩ := cL3 aa; go_wp2
       go_loopg [4] k2 (fun kq v4 w' => ∃ (x4_3 : Int), v4 = .int .i64 x4_3 ∧ Aside0 (furrowlaw15_Few.l1 kq x4_3 a0_0 l0_1 l0_2 = some r) ∧ Aside0 (kq ≤ k2) ∧ Aside0 (w'.heap[aC]? = some (.cells #[.int .i64 a0_0, (.slice A0_1 l0_1.length c0_1), (.slice A0_2 l0_2.length c0_2)] 24 (0, 0))) ∧ Aside0 (Below w.heap.size w w'))
       case atStart => exact ⟨(0), eK, H', ⟨Nat.le_refl _⟩, ⟨uB aa.out⟩, ⟨bH⟩⟩
       case round =>
        clear H'; (try clear c7 c8 aI aY aZ a6 a7 a8 a9); obtain ⟨x4_3, rfl, HA, aJ, aa, HB⟩ := hrel
        cases gk with
        | zero => exact absurd HA.out (by simp [furrowlaw15_Few.l1])
        | succ k3 =>
         have H := HA.out; clear HA; simp only [furrowlaw15_Few.l1] at H
         by_cases ai : x4_3 < (l0_2.length : Int)
         ·rw [if_pos ai] at H
          have a_ := decide_eq_true ai; clear ai
          by_cases az : 0 ≤ x4_3
          ·rw [if_pos az] at H
           have bT := decide_eq_true az; clear az
           by_cases aj : (((rd_T59 l0_2 x4_3).f0).length : Int) > 20
           ·rw [if_pos aj] at H
            have ba := decide_eq_true aj; have bb : decide (20 < ((rd_T59 l0_2 x4_3).f0).length) = true := decide_eq_true (by omega); clear aj; obtain rfl := Option.some.inj H; obtain ⟨bU, bV, bW, bX, bY, bZ⟩ := cL3 aa; have af : 0 ≤ (x4_3 : Int) := dY; have ag : x4_3 < (l0_2.length : Int) := dY; obtain ⟨bc, bd, bf, aE, aq, ar, au, av⟩ := at_T59 aH.out x4_3 af ag
            cases aE
            replace aq := oC HB aq; replace ar := oC HB ar; have bg := mk0 av; have bh := mk0 au; clear av au; replace af := eq_true af; replace ag := eq_true ag; go_wp2; go_ret; exact ⟨rE, bH⟩
           ·rw [if_neg aj] at H
            have ba := decide_eq_false aj; have bb : decide (20 < ((rd_T59 l0_2 x4_3).f0).length) = false := decide_eq_false (by omega); clear aj; have H' := mk0 H; clear H; obtain ⟨b3, b4, b5, b6, b7, b8⟩ := cL3 aa; have af : 0 ≤ (x4_3 : Int) := dY; have ag : x4_3 < (l0_2.length : Int) := dY; obtain ⟨bc, bd, bf, aE, aq, ar, au, av⟩ := at_T59 aH.out x4_3 af ag
            cases aE
            replace aq := oC HB aq; replace ar := oC HB ar; have bg := mk0 av; have bh := mk0 au; clear av au; replace af := eq_true af; replace ag := eq_true ag; go_wp2
            go_roundg k3
            case measure => have := ax.out; have := ay.out; have := aJ.out; omega
            case rel => exact ⟨(wrap64 (x4_3 + 1)), eK, H', ⟨by have := ax.out; have := ay.out; have := aJ.out; omega⟩, ⟨uB aa.out⟩, ⟨bH⟩⟩
          ·exact nO H az
         ·rw [if_neg ai] at H
          have a_ := decide_eq_false ai; clear ai; obtain rfl := Option.some.inj H; obtain ⟨b9, ca, cd, ce, cf, cg⟩ := cL3 aa; go_wp2; go_ret; exact ⟨rE, bH⟩


/-! ### furrowref20_all: function 22 -/
def furrowref20_all.f (a0_0 : Int) (l0_1 : List (S65)) (l0_2 : List (S65)) : Option ((List (S65))) := (some (([] : List (S65)) : List (S65))).bind fun y312 => (if y312.length + l0_1.length < 4398046511104 then ((some (y312 ++ l0_1 : List (S65))).bind fun y315 => (if y315.length + l0_2.length < 4398046511104 then (some (y315 ++ l0_2)) else (none))) else (none))
def furrowref20_all.T1 : Bool × List (List Nat × List Nat) := (true, [([], []), ([], []), ([1], [1]), ([0, 2], [0, 2]), ([], []), ([4], [4]), ([3, 5, 3], [3, 5]), ([6, 6, 0, 1, 2, 3, 4, 5, 6], [6])])
def furrowref20_all.B1 : List Nat := [0, 0, 2, 7, 0, 16, 63, 127]
theorem furrowref20_all.tab1 : rtab .any (opsOf Tryd.f22 1) = furrowref20_all.T1 := by kernel_rfl
theorem furrowref20_all.bits1 : waitsOk furrowref20_all.T1.2 furrowref20_all.B1 = true := by kernel_rfl
set_option maxHeartbeats 8000000 in
set_option maxRecDepth 100000 in
theorem furrowref20_all.calls (a0_0 : Int) (P0_1_ : Nat → Prop) (A0_1 : Option Addr) (c0_1 : Nat) (l0_1 : List (S65)) (P0_2_ : Nat → Prop) (A0_2 : Option Addr) (c0_2 : Nat) (l0_2 : List (S65)) (r : List (S65)) (w : World) (hs0_1 : Kd.V k65 65 w w.heap.size (fun k_ => P0_1_ k_) (.slice A0_1 l0_1.length c0_1) l0_1) (hs0_2 : Kd.V k65 65 w w.heap.size (fun k_ => P0_2_ k_) (.slice A0_2 l0_2.length c0_2) l0_2) (h : furrowref20_all.f a0_0 l0_1 l0_2 = some r) :
  Calls Tryd.prog 22 #[.agg #[.int .i64 a0_0, .slice A0_1 l0_1.length c0_1, .slice A0_2 l0_2.length c0_2]] w fun e w' => ∃ v0_ : Value, e = .returned (v0_) ∧ Kd.N k65 65 w' w.heap.size (fun k_ => ((P0_1_ k_ ∨ P0_2_ k_) ∨ w.heap.size ≤ k_)) v0_ r ∧ Below w.heap.size w w' := by
 have hu34 := Tryd.underlying34
 have ae := mk0 (show Kd.V k65 65 w w.heap.size (fun k_ => ((P0_1_ k_ ∨ P0_2_ k_) ∨ w.heap.size ≤ k_)) (.slice A0_1 l0_1.length c0_1) l0_1 from Kd.V_mono hs0_1 (fun k_ hk => .inl (.inl hk)))
 have af := mk0 (show Kd.V k65 65 w w.heap.size (fun k_ => ((P0_1_ k_ ∨ P0_2_ k_) ∨ w.heap.size ≤ k_)) (.slice A0_2 l0_2.length c0_2) l0_2 from Kd.V_mono hs0_2 (fun k_ hk => .inl (.inr hk)))
 have HB := mk0 (Below.refl w.heap.size w)
 have H : ((some (([] : List (S65)) : List (S65))).bind fun ah => (if ah.length + l0_1.length < 4398046511104 then ((some (ah ++ l0_1 : List (S65))).bind fun ag => (if ag.length + l0_2.length < 4398046511104 then (some (ag ++ l0_2)) else (none))) else (none))) = some r := h
 clear h
 obtain ⟨ah, ai⟩ : ∃ y_ : List (S65), y_ = (([] : List (S65))) := ⟨_, rfl⟩
 replace H : (if ah.length + l0_1.length < 4398046511104 then ((some (ah ++ l0_1 : List (S65))).bind fun ag => (if ag.length + l0_2.length < 4398046511104 then (some (ag ++ l0_2)) else (none))) else (none)) = some r := by first | (rw [ai]; with_reducible exact H) | (have H2_ := (Option.bind_some _ _).symm.trans H; rw [ai]; with_reducible exact H2_) | (have H2_ := (Option.bind_some _ _).symm.trans H; with_reducible exact H2_) | with_reducible exact H | (rw [ai]; exact H) | exact H
 have aq := mk0 ai
 clear ai
 by_cases c2 : ah.length + l0_1.length < 4398046511104
 ·rw [if_pos c2] at H
  have ar := mk0 c2; clear c2; obtain ⟨ag, aj⟩ : ∃ y_ : List (S65), y_ = (ah ++ l0_1) := ⟨_, rfl⟩; (replace H : (if ag.length + l0_2.length < 4398046511104 then (some (ag ++ l0_2)) else (none)) = some r := by (try rw [aj]); first | with_reducible exact H | with_reducible exact oN H | exact H); have au := mk0 aj; clear aj
  by_cases c3 : ag.length + l0_2.length < 4398046511104
  ·rw [if_pos c3] at H
   have av := mk0 c3; clear c3; obtain ⟨aw, ak⟩ : ∃ y_ : List (S65), y_ = (ag ++ l0_2) := ⟨_, rfl⟩; (replace H : (some aw) = some r := by (try rw [ak]); first | with_reducible exact H | with_reducible exact oN H | exact H); have ax := mk0 ak; clear ak; obtain rfl := Option.some.inj H; go_enter Tryd.func22, Tryd.ntmps22; (try go_wp2_with (first | ((with_reducible refine gate_dst (N := 1) rfl ?_); refine bxE 1 #[.int .i64 a0_0, .slice A0_1 l0_1.length c0_1, .slice A0_2 l0_2.length c0_2] 34 ?_; intro ac hg w4 hbox hb; replace ae := vD ae ac hg hb; replace af := vD af ac hg hb; have aa := mk0 (hbox); have az := gE (uL HB.out) hg; have aA := gE (uL HB.out) hg; replace HB := hbB (uL HB.out) hb; clear hb hbox hg))); replace ae := mk0 (Kd.V_drew ae.out); replace af := mk0 (Kd.V_drew af.out); replace aa := mk0 (blk_drew aa.out); replace HB := mk0 (below_drew1 HB.out); refine start_ (n := 8) (S := fun w' => w'.cell? ⟨ac, 0, none⟩ = some (.int .i64 a0_0) ∧ w'.cell? ⟨ac, 1, none⟩ = some (.slice A0_1 l0_1.length c0_1) ∧ w'.cell? ⟨ac, 2, none⟩ = some (.slice A0_2 l0_2.length c0_2)) (ds := []) (bts 8 0) (by kernel_rfl) rfl rfl ⟨(blk_cell aa.out 0).trans rfl, (blk_cell aa.out 1).trans rfl, (blk_cell aa.out 2).trans rfl⟩ (fun hHeld => ?_); refine with_tabW furrowref20_all.tab1 furrowref20_all.bits1 (fun HT_ HW_ => ?_); generalize w4.drew = w5 at ae af aa HB hHeld ⊢; refine qA 1 2 ?_; refine qA 4 18 ?_; refine qT3 2 22 ?_; refine qT3 5 54 ?_; refine one_ (i := 0) (N := some 3) (bts 8 55) rfl rfl (one_of HT_.out (by kernel_rfl)) (by decide) (fun K hK => ?_); refine Kd.N_lit_step k65 _ 65 ?hg (N' := 3) ?hd (xs := ([] : List (S65))) (inner := []) (ok := (fun k_ => ((P0_1_ k_ ∨ P0_2_ k_) ∨ w.heap.size ≤ k_) ∧ k_ ≠ ac)) (okp := (fun k_ => ((P0_1_ k_ ∨ P0_2_ k_) ∨ w.heap.size ≤ k_) ∧ k_ ≠ ac)) ?hr ?hp (fun _ hk => hk) ((show ∀ k_, w5.heap.size ≤ k_ → (fun k_ => ((P0_1_ k_ ∨ P0_2_ k_) ∨ w.heap.size ≤ k_) ∧ k_ ≠ ac) k_ from fun k_ hk => ⟨(.inr (Nat.le_trans (below_size bH) hk)), fB aa hk⟩) _ (Nat.le_refl _)) (Below.refl _ _) (Nat.le_refl _) (by simp) ?_; (case hd => rfl); (case hg => rfl); (case hr => first | (go_simp; done) | (go_simp; rfl)); (case hp => exact (Reps.none _ _)); intro al w6 ho7 hb hg_ hnew_; clear hg_ hnew_; (first | rw [← aq.out] at ho7 | (simp only [Int.reduceToNat] at ho7; rw [← aq.out] at ho7)); replace ae := mk0 (Kd.V_elder' (uV ae.out) (Kd.N_base ho7) hb); replace af := mk0 (Kd.V_elder' (uV af.out) (Kd.N_base ho7) hb); have am := mk0 (Kd.N_lower ho7 (below_size bH)); replace aa := bB aa hb; replace HB := hbB bH hb; clear hb ho7; refine hK.out _ _ ⟨(blk_cell aa.out 0).trans rfl, (blk_cell aa.out 1).trans rfl, (blk_cell aa.out 2).trans rfl⟩ (fun hHeld => ?_); clear hK K; refine norm_ (a' := ?_) ?_ ?_; rotate_left
   ·show Act.put _ (some 3) _ = _
    simp only [AP, i64_w, i32_w]; rfl
   refine one_ (i := 3) (N := some 6) (bts 8 63) rfl rfl (one_of HT_.out (by kernel_rfl)) (by decide) (fun K hK => ?_); refine Kd.N_append_rows_step k65 (w0 := w) w.heap.size (by rfl) (.tmp 3) (.tmp 5) 32 65 (.agg #[(.slice none 0 0), (.int .i64 0)]) 32 rfl Tryd.underlying32 info65 rfl (by decide) (by omega) al ah l0_1 _ _ _ (fun k_ => ((P0_1_ k_ ∨ P0_2_ k_) ∨ w.heap.size ≤ k_) ∧ k_ ≠ ac) (fun k_ => ((fun k_ => ((P0_1_ k_ ∨ P0_2_ k_) ∨ w.heap.size ≤ k_) ∧ k_ ≠ ac)) k_ ∧ some k_ ≠ (al : Value).ownBlock) rfl rfl ?aO ?aR (fun _ hk => hk) ?aF ?aB ?aS ?aL ?_; (case aR => exact (by skip; exact Kd.V_F (vP (ok' := (fun k_ => ((fun k_ => ((P0_1_ k_ ∨ P0_2_ k_) ∨ w.heap.size ≤ k_) ∧ k_ ≠ ac)) k_ ∧ some k_ ≠ (al : Value).ownBlock)) ae))); (case aB => exact bH); (case aF => exact (fun k_ hk => ⟨(.inr (Nat.le_trans (below_size bH) hk)), fB aa hk⟩)); (case aO => exact (uN am.out)); (case aS => exact (below_size bH)); (case aL => have := ar.out; omega); intro ao w8 ho hb hg hat; rw [← au.out] at ho; have n0_ := mk0 (Kd.V_afterv (ok := (fun k_ => ((P0_1_ k_ ∨ P0_2_ k_) ∨ w.heap.size ≤ k_) ∧ k_ ≠ ac)) (uV ae.out) hg hat); have n1_ := mk0 (Kd.V_afterv (ok := (fun k_ => ((P0_1_ k_ ∨ P0_2_ k_) ∨ w.heap.size ≤ k_) ∧ k_ ≠ ac)) (uV af.out) hg hat); have n2_ := (gB aa hg (Kd.N_ne am.out aa.out (by decide))); have n3_ := mk0 (hb); have n4_ := mk0 (ho); clear ae af aa HB am; have ae := n0_; have af := n1_; have aa := n2_; have HB := n3_; have ap := n4_; clear n0_ n1_ n2_ n3_ n4_; clear ho hb hg hat; refine hK.out _ _ ⟨(blk_cell aa.out 0).trans rfl, (blk_cell aa.out 1).trans rfl, (blk_cell aa.out 2).trans rfl⟩ (fun hHeld => ?_); clear hK K; refine norm_ (a' := ?_) ?_ ?_; rotate_left
   ·show Act.put _ (some 6) _ = _
    simp only [AP, i64_w, i32_w]; rfl
   refine one_ (i := 6) (N := some 9) (bts 8 127) rfl rfl (one_of HT_.out (by kernel_rfl)) (by decide) (fun K hK => ?_); refine Kd.N_append_rows_step k65 (w0 := w) w.heap.size (by rfl) (.tmp 6) (.tmp 8) 32 65 (.agg #[(.slice none 0 0), (.int .i64 0)]) 32 rfl Tryd.underlying32 info65 rfl (by decide) (by omega) ao ag l0_2 _ _ _ (fun k_ => ((P0_1_ k_ ∨ P0_2_ k_) ∨ w.heap.size ≤ k_) ∧ k_ ≠ ac) (fun k_ => ((fun k_ => ((P0_1_ k_ ∨ P0_2_ k_) ∨ w.heap.size ≤ k_) ∧ k_ ≠ ac)) k_ ∧ some k_ ≠ (ao : Value).ownBlock) rfl rfl ?aO ?aR (fun _ hk => hk) ?aF ?aB ?aS ?aL ?_; (case aR => exact (by skip; exact Kd.V_F (vP (ok' := (fun k_ => ((fun k_ => ((P0_1_ k_ ∨ P0_2_ k_) ∨ w.heap.size ≤ k_) ∧ k_ ≠ ac)) k_ ∧ some k_ ≠ (ao : Value).ownBlock)) af))); (case aB => exact bH); (case aF => exact (fun k_ hk => ⟨(.inr (Nat.le_trans (below_size bH) hk)), fB aa hk⟩)); (case aO => exact (uN ap.out)); (case aS => exact (below_size bH)); (case aL => have := av.out; omega); intro aC w9 ho hb hg hat; rw [← ax.out] at ho; have n0_ := mk0 (Kd.V_afterv (ok := (fun k_ => ((P0_1_ k_ ∨ P0_2_ k_) ∨ w.heap.size ≤ k_) ∧ k_ ≠ ac)) (uV ae.out) hg hat); have n1_ := mk0 (Kd.V_afterv (ok := (fun k_ => ((P0_1_ k_ ∨ P0_2_ k_) ∨ w.heap.size ≤ k_) ∧ k_ ≠ ac)) (uV af.out) hg hat); have n2_ := (gB aa hg (Kd.N_ne ap.out aa.out (by decide))); have n3_ := mk0 (hb); have n4_ := mk0 (ho); clear ae af aa HB ap; have ae := n0_; have af := n1_; have aa := n2_; have HB := n3_; have ay := n4_; clear n0_ n1_ n2_ n3_ n4_; clear ho hb hg hat; refine hK.out _ _ ⟨(blk_cell aa.out 0).trans rfl, (blk_cell aa.out 1).trans rfl, (blk_cell aa.out 2).trans rfl⟩ (fun hHeld => ?_); clear hK K; refine norm_ (a' := ?_) ?_ ?_; rotate_left
   ·show Act.put _ (some 9) _ = _
    simp only [AP, i64_w, i32_w]; rfl
   refine qA 7 255 ?_; refine done_ (done_of HT_.out (by kernel_rfl)) ?_; (try go_wp2); go_ret; exact ⟨_, rE, uN (Kd.N_mono ay.out (fun _ hk => hk.1)), bH⟩
  ·exact nO H c3
 ·exact nO H c2

/-! ### furrowref20_beyond: function 23 -/
def furrowref20_beyond.f (a0 : Int) (a1 : Int) : Option (Bool) := if a0 > a1 then (some true) else (some (decide (a0 < (wrap64 (-a1)))))
set_option maxHeartbeats 8000000 in
set_option maxRecDepth 100000 in
theorem furrowref20_beyond.calls (a0 : Int) (a1 : Int) (r : Bool) (w : World) (h : furrowref20_beyond.f a0 a1 = some r) :
  Calls Tryd.prog 23 #[.int .i64 a0, .int .i64 a1] w fun e w' => e = .returned (.bool r) ∧ Drawn0 w w' := by
 have H : (if a0 > a1 then (some true) else (some (decide (a0 < (wrap64 (-a1)))))) = some r := h
 clear h
 by_cases c3 : a0 > a1
 ·rw [if_pos c3] at H
  have c3b0 := decide_eq_true c3; clear c3; obtain rfl := Option.some.inj H; go_enter Tryd.func23, Tryd.ntmps23; go_wp2; go_ret; exact ⟨eK, by repeat (first | exact Drawn0.refl _ | apply Drawn0.step)⟩
 ·rw [if_neg c3] at H
  have c3b0 := decide_eq_false c3; clear c3; obtain rfl := Option.some.inj H; go_enter Tryd.func23, Tryd.ntmps23; go_wp2; go_ret; exact ⟨eK, by repeat (first | exact Drawn0.refl _ | apply Drawn0.step)⟩


/-! ### furrowlaw11_Of: function 24 -/
def furrowlaw11_Of.f (l0_0 : List Int) (a0_1 : Int) : Option (List Int × Int) := some (l0_0, a0_1)
set_option maxHeartbeats 8000000 in
set_option maxRecDepth 100000 in
theorem furrowlaw11_Of.calls (P0_0_ : Nat → Prop) (A0_0 : Option Addr) (c0_0 : Nat) (l0_0 : List Int) (a0_1 : Int) (r1 : List Int) (r2 : Int) (w : World) (hs0_0 : Kd.V (Kd.int .i64) 2 w w.heap.size (fun k_ => P0_0_ k_) (.slice A0_0 l0_0.length c0_0) l0_0) (h : furrowlaw11_Of.f l0_0 a0_1 = some (r1, r2)) :
  Calls Tryd.prog 24 #[.agg #[.slice A0_0 l0_0.length c0_0, .int .i64 a0_1]] w fun e w' => ∃ v0_ : Value, e = .returned (.agg #[v0_, .int .i64 r2]) ∧ Kd.V (Kd.int .i64) 2 w' w.heap.size (fun k_ => (P0_0_ k_ ∨ w.heap.size ≤ k_)) v0_ r1 ∧ Below w.heap.size w w' := by
 have hu59 := Tryd.underlying59
 have hu65 := Tryd.underlying65
 have aa := mk0 (show Kd.V (Kd.int .i64) 2 w w.heap.size (fun k_ => (P0_0_ k_ ∨ w.heap.size ≤ k_)) (.slice A0_0 l0_0.length c0_0) l0_0 from Kd.V_mono hs0_0 (fun k_ hk => .inl hk))
 have HB := mk0 (Below.refl w.heap.size w)
 have H : (some (l0_0, a0_1)) = some (r1, r2) := h
 clear h
 simp only [Option.some.injEq, Prod.mk.injEq] at H
 obtain ⟨rfl, rfl⟩ := H
 go_enter Tryd.func24, Tryd.ntmps24
 go_wp2_with (first | ((with_reducible refine gate_dst (N := 1) rfl ?_); refine bxE 1 #[.slice A0_0 l0_0.length c0_0, .int .i64 a0_1] 59 ?_; intro af hg w2 hbox hb; replace aa := vD aa af hg hb; have ac := mk0 (hbox); have aj := gE (uL HB.out) hg; have ak := gE (uL HB.out) hg; replace HB := hbB (uL HB.out) hb; clear hb hbox hg) | ((with_reducible refine gate_dst (N := 2) rfl ?_); refine bxE 2 #[.slice none 0 0, .int .i64 0] 65 ?_; intro ae hg w3 hbox hb; replace aa := vD aa ae hg hb; have ag := mk0 (hbox); have al := gE bH hg; have am := gE bH hg; replace HB := hbB bH hb; have ah := nL ac hg; have ai := nG ac hg; replace ac := bB ac hb; clear hb hbox hg; have ao := ah.out; have ap := ai.out; obtain ⟨aq, ar, au, av⟩ := cL2 ac; obtain ⟨aw, ax, ay, az⟩ := cL2 ag))
 refine bodyPost_ret (results_cell_row rfl _ _ ae 65 #[.slice A0_0 l0_0.length c0_0, .int .i64 a0_1] (0, 0) _ rfl (kB) Tryd.underlying65 rfl (by kernel_rfl)) rfl ?_
 exact ⟨_, rE, uV (Kd.V_mono (Kd.V_far (p := ⟨ae, 1, none⟩) (Kd.V_far (p := ⟨ae, 0, none⟩) (Kd.V_mono aa.out (fun k_ hk => (⟨hk, by first | exact hk.2 | exact hk.2.2⟩ : _ ∧ k_ ≠ ae))) (fun _ hk => hk.2) (.slice A0_0 l0_0.length c0_0)) (fun _ hk => hk.2) (.int .i64 a0_1)) (fun _ hk => by first | exact hk.1.1.1 | exact hk.1.1)), bH⟩


/-! ### furrowlaw15_Of: function 9 -/
mutual
def furrowlaw15_Of.l0 : Nat → Int → Int → List (S59) → List (S59) → Int → List (S65) → Option (Int × (List (S65)) × (List (S65)))
 | 0, _, _, _, _, _, _ => none
 | k + 1, x4, x351000, x351001, x351002, x353000, x353001 => if x4 < (x351001.length : Int) then (if 0 ≤ x4 then ((furrowlaw11_Of.f ((rd_T59 x351001 x4).f0) ((rd_T59 x351001 x4).f1)).bind fun bt354 => (if x353001.length < 4398046511104 then (furrowlaw15_Of.l0 k (wrap64 (x4 + 1)) x351000 x351001 x351002 x353000 (x353001 ++ [(⟨bt354.1, bt354.2⟩ : S65)])) else (none))) else (none)) else (furrowlaw15_Of.l1 k 0 x351000 x351001 x351002 x353000 x353001 ([] : List (S65)))
def furrowlaw15_Of.l1 : Nat → Int → Int → List (S59) → List (S59) → Int → List (S65) → List (S65) → Option (Int × (List (S65)) × (List (S65)))
 | 0, _, _, _, _, _, _, _ => none
 | k + 1, x5, x351000, x351001, x351002, x353000, x353001, x353002 => if x5 < (x351002.length : Int) then (if 0 ≤ x5 then ((furrowlaw11_Of.f ((rd_T59 x351002 x5).f0) ((rd_T59 x351002 x5).f1)).bind fun bt362 => (if x353002.length < 4398046511104 then (furrowlaw15_Of.l1 k (wrap64 (x5 + 1)) x351000 x351001 x351002 x353000 x353001 (x353002 ++ [(⟨bt362.1, bt362.2⟩ : S65)])) else (none))) else (none)) else (some (x353000, x353001, x353002))
end
def furrowlaw15_Of.f (k : Nat) (a0_0 : Int) (l0_1 : List (S59)) (l0_2 : List (S59)) : Option (Int × (List (S65)) × (List (S65))) := furrowlaw15_Of.l0 k 0 a0_0 l0_1 l0_2 a0_0 ([] : List (S65))
theorem furrowlaw15_Of.mono_l : ∀ k, (∀ y0 y1 y2 y3 y4 y5, LeO (furrowlaw15_Of.l0 k y0 y1 y2 y3 y4 y5) (furrowlaw15_Of.l0 (k + 1) y0 y1 y2 y3 y4 y5)) ∧ (∀ y0 y1 y2 y3 y4 y5 y6, LeO (furrowlaw15_Of.l1 k y0 y1 y2 y3 y4 y5 y6) (furrowlaw15_Of.l1 (k + 1) y0 y1 y2 y3 y4 y5 y6))
 | 0 => by refine ⟨?_, ?_⟩ <;> intros <;> exact fun r h => by simp [furrowlaw15_Of.l0, furrowlaw15_Of.l1] at h
 | k + 1 => by
  obtain ⟨i0_, i1_⟩ := furrowlaw15_Of.mono_l k; refine ⟨?_, ?_⟩ <;> intros
  ·unfold furrowlaw15_Of.l0; exact lO_
  ·unfold furrowlaw15_Of.l1; exact lO_
theorem furrowlaw15_Of.mono : ∀ a0 a1 a2 k, LeO (furrowlaw15_Of.f k a0 a1 a2) (furrowlaw15_Of.f (k + 1) a0 a1 a2) := by
 intro a0 a1 a2 k
 obtain ⟨i0_, i1_⟩ := furrowlaw15_Of.mono_l k; unfold furrowlaw15_Of.f; exact lO_
def furrowlaw15_Of.T5 : Bool × List (List Nat × List Nat) := (true, [([], []), ([0], [0]), ([], []), ([2], [2]), ([], []), ([3, 4], [3, 4]), ([5], [5]), ([6], [6]), ([7], [7]), ([1, 8, 7], [1, 8]), ([0, 1, 2, 3, 4, 5, 6, 7, 8, 9], []), ([10, 9, 9, 0, 1, 2, 3, 4, 5, 6, 7, 8, 9], [9, 10])])
def furrowlaw15_Of.B5 : List Nat := [0, 1, 0, 4, 0, 28, 60, 124, 252, 511, 1023, 2047]
theorem furrowlaw15_Of.tab5 : rtab .any (opsOf Tryd.f9 5) = furrowlaw15_Of.T5 := by kernel_rfl
theorem furrowlaw15_Of.bits5 : waitsOk furrowlaw15_Of.T5.2 furrowlaw15_Of.B5 = true := by kernel_rfl
def furrowlaw15_Of.T9 : Bool × List (List Nat × List Nat) := (true, [([], []), ([0], [0]), ([], []), ([2], [2]), ([], []), ([3, 4], [3, 4]), ([5], [5]), ([6], [6]), ([7], [7]), ([1, 8, 7], [1, 8]), ([0, 1, 2, 3, 4, 5, 6, 7, 8, 9], []), ([10, 9, 9, 0, 1, 2, 3, 4, 5, 6, 7, 8, 9], [9, 10])])
def furrowlaw15_Of.B9 : List Nat := [0, 1, 0, 4, 0, 28, 60, 124, 252, 511, 1023, 2047]
theorem furrowlaw15_Of.tab9 : rtab .any (opsOf Tryd.f9 9) = furrowlaw15_Of.T9 := by kernel_rfl
theorem furrowlaw15_Of.bits9 : waitsOk furrowlaw15_Of.T9.2 furrowlaw15_Of.B9 = true := by kernel_rfl
set_option maxHeartbeats 8000000 in
set_option maxRecDepth 100000 in
theorem furrowlaw15_Of.calls (k : Nat) (a0_0 : Int) (P0_1_ : Nat → Prop) (A0_1 : Option Addr) (c0_1 : Nat) (l0_1 : List (S59)) (P0_2_ : Nat → Prop) (A0_2 : Option Addr) (c0_2 : Nat) (l0_2 : List (S59)) (r1 : Int) (r2 : List (S65)) (r3 : List (S65)) (w : World) (hs0_1 : Kd.V k59 59 w w.heap.size (fun k_ => P0_1_ k_) (.slice A0_1 l0_1.length c0_1) l0_1) (hs0_2 : Kd.V k59 59 w w.heap.size (fun k_ => P0_2_ k_) (.slice A0_2 l0_2.length c0_2) l0_2) (h : furrowlaw15_Of.f k a0_0 l0_1 l0_2 = some (r1, r2, r3)) :
  Calls Tryd.prog 9 #[.agg #[.int .i64 a0_0, .slice A0_1 l0_1.length c0_1, .slice A0_2 l0_2.length c0_2]] w fun e w' => ∃ v1_ v2_ : Value, e = .returned (.agg #[.int .i64 r1, v1_, v2_]) ∧ Kd.N k65 65 w' w.heap.size (fun k_ => ((P0_1_ k_ ∨ P0_2_ k_) ∨ w.heap.size ≤ k_) ∧ some k_ ≠ (v2_ : Value).ownBlock) v1_ r2 ∧ Kd.N k65 65 w' w.heap.size (fun k_ => ((P0_1_ k_ ∨ P0_2_ k_) ∨ w.heap.size ≤ k_) ∧ some k_ ≠ (v1_ : Value).ownBlock) v2_ r3 ∧ Below w.heap.size w w' := by
 have hu24 := Tryd.underlying24
 have hu34 := Tryd.underlying34
 have hu59 := Tryd.underlying59
 have ar := mk0 (show Kd.V k59 59 w w.heap.size (fun k_ => ((P0_1_ k_ ∨ P0_2_ k_) ∨ w.heap.size ≤ k_)) (.slice A0_1 l0_1.length c0_1) l0_1 from Kd.V_mono hs0_1 (fun k_ hk => .inl (.inl hk)))
 have au := mk0 (show Kd.V k59 59 w w.heap.size (fun k_ => ((P0_1_ k_ ∨ P0_2_ k_) ∨ w.heap.size ≤ k_)) (.slice A0_2 l0_2.length c0_2) l0_2 from Kd.V_mono hs0_2 (fun k_ hk => .inl (.inr hk)))
 have HB := mk0 (Below.refl w.heap.size w)
 have H : (furrowlaw15_Of.l0 k 0 a0_0 l0_1 l0_2 a0_0 ([] : List (S65))) = some (r1, r2, r3) := h
 clear h
 have H' := mk0 H
 clear H
 go_enter Tryd.func9, Tryd.ntmps9
 go_wp2_with (first | ((with_reducible refine gate_dst (N := 1) rfl ?_); refine bxE 1 #[.int .i64 a0_0, .slice A0_1 l0_1.length c0_1, .slice A0_2 l0_2.length c0_2] 24 ?_; intro ag hg w2 hbox hb; replace ar := vD ar ag hg hb; replace au := vD au ag hg hb; have aa := mk0 (hbox); have cN := gE (uL HB.out) hg; have cO := gE (uL HB.out) hg; replace HB := hbB (uL HB.out) hb; clear hb hbox hg) | ((with_reducible refine gate_dst (N := 2) rfl ?_); refine bxE 2 #[.int .i64 0, .slice none 0 0, .slice none 0 0] 34 ?_; intro af hg w3 hbox hb; replace ar := vD ar af hg hb; replace au := vD au af hg hb; have ah := mk0 (hbox); have cP := gE bH hg; have cQ := gE bH hg; replace HB := hbB bH hb; have aH := nL aa hg; have aI := nG aa hg; replace aa := bB aa hb; clear hb hbox hg; have cR := aH.out; have cS := aI.out; obtain ⟨bu, bv, bw, bx, bz, bC⟩ := cL3 aa) | ((with_reducible refine gate_dst (N := 3) rfl ?_); refine bxE 3 #[.int .i64 0, .slice none 0 0, .slice none 0 0] 34 ?_; intro ae hg w6 hbox hb; replace ar := vD ar ae hg hb; replace au := vD au ae hg hb; have ac := mk0 (hbox); have cT := gE bH hg; have cU := gE bH hg; replace HB := hbB bH hb; have av := nL aa hg; have aw := nG aa hg; replace aa := bB aa hb; have aW := nL ah hg; have aX := nG ah hg; replace ah := bB ah hb; clear hb hbox hg; have cV := aw.out; have cW := av.out; have cX := aX.out; have cY := aW.out; obtain ⟨bE, bF, bG, bI, bJ, bK⟩ := cL3 ac))
 go_loopg [4] k (fun kq v4 w' => ∃ (x4_1 : Int) (ap : List (S65)) (ai : Value), v4 = .int .i64 x4_1 ∧ Aside0 (furrowlaw15_Of.l0 kq x4_1 a0_0 l0_1 l0_2 a0_0 ap = some (r1, r2, r3)) ∧ Aside0 (kq ≤ k) ∧ Aside0 (Kd.V k59 59 w' w.heap.size (fun k_ => ((P0_1_ k_ ∨ P0_2_ k_) ∨ w.heap.size ≤ k_) ∧ some k_ ≠ (ai : Value).ownBlock ∧ k_ ≠ ag ∧ k_ ≠ af ∧ k_ ≠ ae) (.slice A0_1 l0_1.length c0_1) l0_1) ∧ Aside0 (Kd.V k59 59 w' w.heap.size (fun k_ => ((P0_1_ k_ ∨ P0_2_ k_) ∨ w.heap.size ≤ k_) ∧ some k_ ≠ (ai : Value).ownBlock ∧ k_ ≠ ag ∧ k_ ≠ af ∧ k_ ≠ ae) (.slice A0_2 l0_2.length c0_2) l0_2) ∧ Aside0 (Kd.N k65 65 w' w.heap.size (fun k_ => ((P0_1_ k_ ∨ P0_2_ k_) ∨ w.heap.size ≤ k_) ∧ k_ ≠ ag ∧ k_ ≠ af ∧ k_ ≠ ae) ai ap) ∧ Aside0 (w'.heap[ag]? = some (.cells #[.int .i64 a0_0, (.slice A0_1 l0_1.length c0_1), (.slice A0_2 l0_2.length c0_2)] 24 (0, 0))) ∧ Aside0 (w'.heap[af]? = some (.cells #[.int .i64 0, (.slice none 0 0), (.slice none 0 0)] 34 (0, 0))) ∧ Aside0 (w'.heap[ae]? = some (.cells #[.int .i64 a0_0, ai, (.slice none 0 0)] 34 (0, 0))) ∧ Aside0 (Below w.heap.size w w'))
 case atStart => exact ⟨(0), (([] : List (S65))), (.slice none 0 0), eK, H', ⟨Nat.le_refl _⟩, ⟨uV (Kd.V_mono (Kd.V_far (p := ⟨ae, 2, none⟩) (Kd.V_far (p := ⟨ae, 1, none⟩) (Kd.V_far (p := ⟨ae, 0, none⟩) (Kd.V_mono ar.out (fun k_ hk => (⟨hk, hk.2⟩ : _ ∧ k_ ≠ ae))) (fun _ hk => hk.2) (.int .i64 a0_0)) (fun _ hk => hk.2) (.slice none 0 0)) (fun _ hk => hk.2) (.slice none 0 0)) (fun _ hk => ⟨hk.1.1.1.1, ⟨(by simp [Value.ownBlock]), ⟨hk.1.1.1.2, ⟨hk.1.1.2, hk.1.2⟩⟩⟩⟩))⟩, ⟨uV (Kd.V_mono (Kd.V_far (p := ⟨ae, 2, none⟩) (Kd.V_far (p := ⟨ae, 1, none⟩) (Kd.V_far (p := ⟨ae, 0, none⟩) (Kd.V_mono au.out (fun k_ hk => (⟨hk, hk.2⟩ : _ ∧ k_ ≠ ae))) (fun _ hk => hk.2) (.int .i64 a0_0)) (fun _ hk => hk.2) (.slice none 0 0)) (fun _ hk => hk.2) (.slice none 0 0)) (fun _ hk => ⟨hk.1.1.1.1, ⟨(by simp [Value.ownBlock]), ⟨hk.1.1.1.2, ⟨hk.1.1.2, hk.1.2⟩⟩⟩⟩))⟩, ⟨nK⟩, ⟨kB⟩, ⟨kB⟩, ⟨kB⟩, ⟨bH⟩⟩
 case round =>
  clear H'; (try clear bu bv bw bE bF bG bx bz bC bI bJ bK); obtain ⟨x4_1, ap, ai, rfl, HA, aY, ak, al, aj, aa, ah, ac, HB⟩ := hrel
  cases gk with
  | zero => exact absurd HA.out (by simp [furrowlaw15_Of.l0])
  | succ k1 =>
   have H := HA.out; clear HA; simp only [furrowlaw15_Of.l0] at H
   by_cases ax : x4_1 < (l0_1.length : Int)
   ·rw [if_pos ax] at H
    have bL := decide_eq_true ax; clear ax
    by_cases aZ : 0 ≤ x4_1
    ·rw [if_pos aZ] at H
     have cZ := decide_eq_true aZ; clear aZ; replace H := Option.bind_eq_some_iff.mp H; obtain ⟨⟨aJ, aK⟩, bM, H⟩ := H; dsimp only at H; have ce := mk0 bM; clear bM
     by_cases a6 : ap.length < 4398046511104
     ·rw [if_pos a6] at H
      have cf := mk0 a6; clear a6; obtain ⟨aC, bh⟩ : ∃ y_ : List (S65), y_ = (ap ++ [(⟨aJ, aK⟩ : S65)]) := ⟨_, rfl⟩; (replace H : (furrowlaw15_Of.l0 k1 (wrap64 (x4_1 + 1)) a0_0 l0_1 l0_2 a0_0 aC) = some (r1, r2, r3) := by (try rw [bh]); first | with_reducible exact H | with_reducible exact oN H | exact H); have cg := mk0 bh; clear bh; have H' := mk0 H; clear H; have c_ := aH.out; have da := aI.out; have db := av.out; have dc := aw.out; obtain ⟨dd, de, df, dg, dh, di⟩ := cL3 aa; (try go_wp2); replace ak := mk0 (Kd.V_drew ak.out); replace al := mk0 (Kd.V_drew al.out); replace aj := mk0 (Kd.N_drew aj.out); replace aa := mk0 (blk_drew aa.out); replace ah := mk0 (blk_drew ah.out); replace ac := mk0 (blk_drew ac.out); replace HB := mk0 (below_drew1 HB.out); have a7 : 0 ≤ (x4_1 : Int) := dY; have a8 : x4_1 < (l0_1.length : Int) := dY; obtain ⟨aM, bO, bP, ch, bi, bQ, bR, bT⟩ := at_T59 (Kd.V_reads' ak.out).2.2 x4_1 a7 a8
      cases ch
      obtain ⟨dj, cj, ck, bU⟩ := Kd.V_get ak.out z59 x4_1 a7 (by first | exact a8 | exact dY | (have e_ := (Kd.V_reads' ak.out).1; omega)); obtain ⟨dk, dl, rfl, bj, bk⟩ := k59_openF ck; have a9 := bU 0 _ rfl; rw [Nat.add_zero] at a9; replace a9 := Option.some.inj (a9.symm.trans bi); injection a9 with hva_ hvn_ hvc_; rw [hva_] at bk; rw [hvc_] at bj; have ay := mk0 (show Kd.V (Kd.int .i64) 2 _ w.heap.size _ _ ((rd_T59 l0_1 x4_1).f0) from Kd.V_mk bj bk); clear hva_ hvn_ hvc_ bk bj; clear bU cj; have cl := mk0 bT; have dn := mk0 bR; clear bT bR; replace a7 := eq_true a7; replace a8 := eq_true a8; refine start_ (n := 12) (S := fun w' => w'.cell? ⟨ae, 0, none⟩ = some (.int .i64 a0_0) ∧ w'.cell? ⟨ae, 1, none⟩ = some (ai) ∧ w'.cell? ⟨ae, 2, none⟩ = some (.slice none 0 0) ∧ w'.cell? ⟨ag, 0, none⟩ = some (.int .i64 a0_0) ∧ w'.cell? ⟨ag, 1, none⟩ = some (.slice (some aM) l0_1.length c0_1) ∧ w'.cell? ⟨ag, 2, none⟩ = some (.slice A0_2 l0_2.length c0_2) ∧ w'.cell? (aM.add ((x4_1).toNat * 2)) = some (.slice bO ((rd_T59 l0_1 x4_1).f0).length bP) ∧ w'.cell? ⟨(aM.add ((x4_1).toNat * 2)).block, (aM.add ((x4_1).toNat * 2)).off + 1, none⟩ = some (.int .i64 ((rd_T59 l0_1 x4_1).f1))) (ds := [9, 11]) (bts 12 0) (by kernel_rfl) rfl rfl ⟨(blk_cell ac.out 0).trans rfl, (blk_cell ac.out 1).trans rfl, (blk_cell ac.out 2).trans rfl, (blk_cell aa.out 0).trans rfl, (blk_cell aa.out 1).trans rfl, (blk_cell aa.out 2).trans rfl, bi, bQ⟩ (fun hHeld => ?_); refine with_tabW furrowlaw15_Of.tab5 furrowlaw15_Of.bits5 (fun HT_ HW_ => ?_); generalize wr.drew = dp at ak al aj aa ah ac HB ay cl bi bQ hHeld ⊢; refine qA 0 1 ?_; refine qA 2 5 ?_; refine qA 4 21 ?_; refine qT8 1 23 ?_; refine qT8 3 31 ?_; refine qA 5 63 ?_; refine qT8 6 127 ?_; refine one_ (i := 7) (N := some 23) (bts 12 255) rfl rfl (one_of HT_.out (by kernel_rfl)) (by decide) (fun K hK => ?_); refine goes_ Tryd.func24 (by kernel_rfl) rfl #[.agg #[.slice bO ((rd_T59 l0_1 x4_1).f0).length bP, .int .i64 ((rd_T59 l0_1 x4_1).f1)]] (by rfl) rfl rfl (by (try simp only [List.map_toArray, List.map_cons, List.map_nil]); first | done | rfl | (simp only [List.length_drop, List.length_take]; rfl)) ?_; (with_reducible refine (furrowlaw11_Of.calls (fun k_ => (((P0_1_ k_ ∨ P0_2_ k_) ∨ w.heap.size ≤ k_) ∧ (some k_ ≠ (ai : Value).ownBlock ∧ (k_ ≠ ag ∧ (k_ ≠ af ∧ k_ ≠ ae))))) _ _ ((rd_T59 l0_1 x4_1).f0) ((rd_T59 l0_1 x4_1).f1) aJ aK _ ?side1 ce.out).mono ?_); (case side1 => exact ay.out); rintro e dq ⟨dr, rfl, ho0, hb⟩; have HS6_ := (hb.cell (World.block_lt_of_cell? _ _ (hHeld.2.2.2.2.2.2.1))).trans (hHeld.2.2.2.2.2.2.1); have HS7_ := (hb.cell (World.block_lt_of_cell? _ _ (hHeld.2.2.2.2.2.2.2))).trans (hHeld.2.2.2.2.2.2.2); refine ⟨_, rfl, ?_⟩; replace ak := vB ak hb; replace al := vB al hb; replace ay := vB ay hb; have aD := mk0 (Kd.V_lower (Kd.V_mono (ok' := fun k_ => ((P0_1_ k_ ∨ P0_2_ k_) ∨ w.heap.size ≤ k_) ∧ some k_ ≠ (ai : Value).ownBlock ∧ k_ ≠ ag ∧ k_ ≠ af ∧ k_ ≠ ae) ho0 (fun k_ hk_ => ⟨Or.elim hk_ (fun hs_ => hs_.1) (fun hn_ => (.inr (Nat.le_trans (below_size bH) hn_))), Or.elim hk_ (fun hs_ => hs_.2.1) (fun hn_ => (Kd.fresh' (Kd.N_lt (uN aj.out)) k_ hn_)), Or.elim hk_ (fun hs_ => hs_.2.2.1) (fun hn_ => (Kd.freshB (g := ag) (o := .cells #[.int .i64 a0_0, .slice (some aM) l0_1.length c0_1, .slice A0_2 l0_2.length c0_2] 24 (0, 0)) (uB aa.out) k_ hn_)), Or.elim hk_ (fun hs_ => hs_.2.2.2.1) (fun hn_ => (Kd.freshB (g := af) (o := .cells #[.int .i64 0, .slice none 0 0, .slice none 0 0] 34 (0, 0)) (uB ah.out) k_ hn_)), Or.elim hk_ (fun hs_ => hs_.2.2.2.2) (fun hn_ => (Kd.freshB (g := ae) (o := .cells #[.int .i64 a0_0, ai, .slice none 0 0] 34 (0, 0)) (uB ac.out) k_ hn_))⟩)) (below_size bH)); replace aj := nB aj hb; replace aa := bB aa hb; replace ah := bB ah hb; replace ac := bB ac hb; replace HB := hbB bH hb; (try clear hb hk ho0); obtain ⟨cm, cn, bV⟩ := Kd.V_slice aD.out; (first | subst bV | (injection bV with f1_ f2_ f3_; have f4_ := f1_.symm; have f5_ := f3_.symm; clear f1_ f2_ f3_; subst f4_; subst f5_)); refine hK.out _ _ ⟨(blk_cell ac.out 0).trans rfl, (blk_cell ac.out 1).trans rfl, (blk_cell ac.out 2).trans rfl, (blk_cell aa.out 0).trans rfl, (blk_cell aa.out 1).trans rfl, (blk_cell aa.out 2).trans rfl, HS6_, HS7_⟩ (fun hHeld => ?_); clear hK K; refine norm_ (a' := ?_) ?_ ?_; rotate_left
      ·show Act.put _ (some 23) _ = _
       simp only [AP, i64_w, i32_w]; rfl
      refine one_ (i := 8) (N := some 24) (bts 12 511) rfl rfl (one_of HT_.out (by kernel_rfl)) (by decide) (fun K hK => ?_); refine value_ (w1 := ?_) (v := ?_) (by rfl) rfl ?_ ?_; rotate_left 2
      ·go_simp
       constructor
       ·rfl
       ·rfl
      refine hK.out _ _ ⟨(blk_cell (blk_alloc ac.out _) 0).trans rfl, (blk_cell (blk_alloc ac.out _) 1).trans rfl, (blk_cell (blk_alloc ac.out _) 2).trans rfl, (blk_cell (blk_alloc aa.out _) 0).trans rfl, (blk_cell (blk_alloc aa.out _) 1).trans rfl, (blk_cell (blk_alloc aa.out _) 2).trans rfl, (World.cell?_alloc_lt _ _ _ (World.block_lt_of_cell? _ _ (hHeld.2.2.2.2.2.2.1))).trans (hHeld.2.2.2.2.2.2.1), (World.cell?_alloc_lt _ _ _ (World.block_lt_of_cell? _ _ (hHeld.2.2.2.2.2.2.2))).trans (hHeld.2.2.2.2.2.2.2)⟩ (fun hHeld => ?_); clear hK K; refine norm_ (a' := ?_) ?_ ?_; rotate_left
      ·show Act.put _ (some 24) _ = _
       simp only [AP, i64_w, i32_w]; rfl
      refine last_ (i := 9) (N := some 25) (bts 12 1023) rfl rfl (one_of HT_.out (by kernel_rfl)) (by decide) (fun K hK => ?_); refine Kd.N_append_step k65 (w0 := w) w.heap.size (by rfl) (.tmp 17) (.tmp 24) 32 65 (.agg #[(.slice none 0 0), (.int .i64 0)]) 32 rfl Tryd.underlying32 info65 rfl (by decide) (by omega) ai ap (⟨aJ, aK⟩ : S65) [.slice cm aJ.length cn, .int .i64 aK] (fun k_ => ((P0_1_ k_ ∨ P0_2_ k_) ∨ w.heap.size ≤ k_) ∧ k_ ≠ ag ∧ k_ ≠ af ∧ k_ ≠ ae) (fun k_ => ((fun k_ => ((P0_1_ k_ ∨ P0_2_ k_) ∨ w.heap.size ≤ k_) ∧ k_ ≠ ag ∧ k_ ≠ af ∧ k_ ≠ ae)) k_ ∧ some k_ ≠ (ai : Value).ownBlock) rfl rfl ?aP (fun _ hk => hk) ?aF ?aO ?aB ?aS ?aL ?_; (case aP => exact (k65_mkF _ _ (⟨aJ, aK⟩ : S65) (Kd.V_reads' (vP (ok' := (fun k_ => ((fun k_ => ((P0_1_ k_ ∨ P0_2_ k_) ∨ w.heap.size ≤ k_) ∧ k_ ≠ ag ∧ k_ ≠ af ∧ k_ ≠ ae)) k_ ∧ some k_ ≠ (ai : Value).ownBlock)) aD)).2.1 (Kd.V_F (vP (ok' := (fun k_ => ((fun k_ => ((P0_1_ k_ ∨ P0_2_ k_) ∨ w.heap.size ≤ k_) ∧ k_ ≠ ag ∧ k_ ≠ af ∧ k_ ≠ ae)) k_ ∧ some k_ ≠ (ai : Value).ownBlock)) aD)))); (case aB => exact bH); (case aF => exact (fun k_ hk => ⟨(.inr (Nat.le_trans (below_size bH) hk)), fB aa hk, fB ah hk, fB ac hk⟩)); (case aO => exact (uN aj.out)); (case aS => exact (below_size bH)); (case aL => have := cf.out; omega); intro dt cp ho hb hg hat; rw [← cg.out] at ho; have n0_ := vA ak hg hat; have n1_ := vA al hg hat; have n2_ := (gB aa hg (Kd.N_ne aj.out aa.out (by decide))); have n3_ := (gB ah hg (Kd.N_ne aj.out ah.out (by decide))); have n4_ := (gB ac hg (Kd.N_ne aj.out ac.out (by decide))); have n5_ := vA ay hg hat; have n6_ := vA aD hg hat; have n7_ := mk0 (hb); have n8_ := mk0 (ho); clear ak al aa ah ac ay aD HB aj; have ak := n0_; have al := n1_; have aa := n2_; have ah := n3_; have ac := n4_; have ay := n5_; have aD := n6_; have HB := n7_; have bW := n8_; clear n0_ n1_ n2_ n3_ n4_ n5_ n6_ n7_ n8_; clear ho hb hg hat; obtain ⟨a_, ba, bX⟩ := Kd.N_slice bW.out; (first | subst bX | (injection bX with f1_ f2_ f3_; have f4_ := f1_.symm; have f5_ := f3_.symm; clear f1_ f2_ f3_; subst f4_; subst f5_)); refine hK.out _ _ ?_; clear hK K; refine norm_ (a' := ?_) ?_ ?_; rotate_left
      ·show Act.put _ (some 25) _ = _
       simp only [AP, i64_w, i32_w]; rfl
      refine qA 10 2047 ?_; refine last_ (i := 11) (N := none) (bts 12 4095) rfl rfl (one_of HT_.out (by kernel_rfl)) (by decide) (fun K hK => ?_); have hs22 : cp.cell? ⟨ae, 1, none⟩ = some (ai) := (blk_cell ac.out 1).trans rfl; have hfs22 := blk_frozen ac.out 1; have du := av.out; have dv := aW.out; have dw := aw.out; have dx := aX.out; refine skip_ (w1 := ?_) (by rfl) rfl ?_ ?_; rotate_left
      ·go_simp
       rfl
      refine hK.out _ _ ?_; clear hK K; refine done_ (done_of HT_.out (by kernel_rfl)) ?_; (try go_wp2)
      go_roundg k1
      case measure => have := aY.out; omega
      case rel => exact ⟨(wrap64 (x4_1 + 1)), (aC), (.slice a_ aC.length ba), eK, H', ⟨by have := aY.out; omega⟩, ⟨uV (vF ⟨ae, 1, none⟩ (.slice a_ aC.length ba) ak)⟩, ⟨uV (vF ⟨ae, 1, none⟩ (.slice a_ aC.length ba) al)⟩, ⟨uN (nF ⟨ae, 1, none⟩ (.slice a_ aC.length ba) bW)⟩, ⟨kB⟩, ⟨kB⟩, ⟨kB⟩, ⟨bH⟩⟩
     ·exact nO H a6
    ·exact nO H aZ
   ·rw [if_neg ax] at H
    have bL := decide_eq_false ax; clear ax; have H' := mk0 H; clear H; have dy := aH.out; have dz := aI.out; have dA := av.out; have dB := aw.out; obtain ⟨cq, cr, ct, cu, cv, cw⟩ := cL3 aa; go_wp2
    go_loopg [5] k1 (fun kq v5 w' => ∃ (x5_2 : Int) (aq : List (S65)) (am : Value), v5 = .int .i64 x5_2 ∧ Aside0 (furrowlaw15_Of.l1 kq x5_2 a0_0 l0_1 l0_2 a0_0 ap aq = some (r1, r2, r3)) ∧ Aside0 (kq ≤ k1) ∧ Aside0 (Kd.V k59 59 w' w.heap.size (fun k_ => ((P0_1_ k_ ∨ P0_2_ k_) ∨ w.heap.size ≤ k_) ∧ some k_ ≠ (ai : Value).ownBlock ∧ some k_ ≠ (am : Value).ownBlock ∧ k_ ≠ ag ∧ k_ ≠ af ∧ k_ ≠ ae) (.slice A0_1 l0_1.length c0_1) l0_1) ∧ Aside0 (Kd.V k59 59 w' w.heap.size (fun k_ => ((P0_1_ k_ ∨ P0_2_ k_) ∨ w.heap.size ≤ k_) ∧ some k_ ≠ (ai : Value).ownBlock ∧ some k_ ≠ (am : Value).ownBlock ∧ k_ ≠ ag ∧ k_ ≠ af ∧ k_ ≠ ae) (.slice A0_2 l0_2.length c0_2) l0_2) ∧ Aside0 (Kd.N k65 65 w' w.heap.size (fun k_ => ((P0_1_ k_ ∨ P0_2_ k_) ∨ w.heap.size ≤ k_) ∧ some k_ ≠ (am : Value).ownBlock ∧ k_ ≠ ag ∧ k_ ≠ af ∧ k_ ≠ ae) ai ap) ∧ Aside0 (Kd.N k65 65 w' w.heap.size (fun k_ => ((P0_1_ k_ ∨ P0_2_ k_) ∨ w.heap.size ≤ k_) ∧ some k_ ≠ (ai : Value).ownBlock ∧ k_ ≠ ag ∧ k_ ≠ af ∧ k_ ≠ ae) am aq) ∧ Aside0 (w'.heap[ag]? = some (.cells #[.int .i64 a0_0, (.slice A0_1 l0_1.length c0_1), (.slice A0_2 l0_2.length c0_2)] 24 (0, 0))) ∧ Aside0 (w'.heap[af]? = some (.cells #[.int .i64 0, (.slice none 0 0), (.slice none 0 0)] 34 (0, 0))) ∧ Aside0 (w'.heap[ae]? = some (.cells #[.int .i64 a0_0, ai, am] 34 (0, 0))) ∧ Aside0 (Below w.heap.size w w'))
    case atStart => exact ⟨(0), (([] : List (S65))), (.slice none 0 0), eK, H', ⟨Nat.le_refl _⟩, ⟨uV (Kd.V_mono ak.out (fun _ hk => ⟨hk.1, ⟨hk.2.1, ⟨(by simp [Value.ownBlock]), ⟨hk.2.2.1, ⟨hk.2.2.2.1, hk.2.2.2.2⟩⟩⟩⟩⟩))⟩, ⟨uV (Kd.V_mono al.out (fun _ hk => ⟨hk.1, ⟨hk.2.1, ⟨(by simp [Value.ownBlock]), ⟨hk.2.2.1, ⟨hk.2.2.2.1, hk.2.2.2.2⟩⟩⟩⟩⟩))⟩, ⟨uN (Kd.N_mono aj.out (fun _ hk => ⟨hk.1, ⟨(by simp [Value.ownBlock]), ⟨hk.2.1, ⟨hk.2.2.1, hk.2.2.2⟩⟩⟩⟩))⟩, ⟨nK⟩, ⟨uB aa.out⟩, ⟨uB ah.out⟩, ⟨uB ac.out⟩, ⟨bH⟩⟩
    case round =>
     clear H'; (try clear ax bL cq cr ct bu bv bw bE bF bG cu cv cw bx bz bC bI bJ bK); obtain ⟨x5_2, aq, am, rfl, HA, bY, ak, al, aj, ao, aa, ah, ac, HB⟩ := hrel
     cases gk with
     | zero => exact absurd HA.out (by simp [furrowlaw15_Of.l1])
     | succ k2 =>
      have H := HA.out; clear HA; simp only [furrowlaw15_Of.l1] at H
      by_cases aE : x5_2 < (l0_2.length : Int)
      ·rw [if_pos aE] at H
       have cy := decide_eq_true aE; clear aE
       by_cases bb : 0 ≤ x5_2
       ·rw [if_pos bb] at H
        have dC := decide_eq_true bb; clear bb; replace H := Option.bind_eq_some_iff.mp H; obtain ⟨⟨aN, aQ⟩, bZ, H⟩ := H; dsimp only at H; have cz := mk0 bZ; clear bZ
        by_cases bc : aq.length < 4398046511104
        ·rw [if_pos bc] at H
         have cA := mk0 bc; clear bc; obtain ⟨az, bl⟩ : ∃ y_ : List (S65), y_ = (aq ++ [(⟨aN, aQ⟩ : S65)]) := ⟨_, rfl⟩; (replace H : (furrowlaw15_Of.l1 k2 (wrap64 (x5_2 + 1)) a0_0 l0_1 l0_2 a0_0 ap az) = some (r1, r2, r3) := by (try rw [bl]); first | with_reducible exact H | with_reducible exact oN H | exact H); have cD := mk0 bl; clear bl; have H' := mk0 H; clear H; have dD := aH.out; have dE := aI.out; have dF := av.out; have dG := aw.out; obtain ⟨dH, dI, dJ, dK, dL, dM⟩ := cL3 aa; (try go_wp2); replace ak := mk0 (Kd.V_drew ak.out); replace al := mk0 (Kd.V_drew al.out); replace aj := mk0 (Kd.N_drew aj.out); replace ao := mk0 (Kd.N_drew ao.out); replace aa := mk0 (blk_drew aa.out); replace ah := mk0 (blk_drew ah.out); replace ac := mk0 (blk_drew ac.out); replace HB := mk0 (below_drew1 HB.out); have bd : 0 ≤ (x5_2 : Int) := dY; have bf : x5_2 < (l0_2.length : Int) := dY; obtain ⟨aT, b3, b4, cE, bm, b5, b6, b7⟩ := at_T59 (Kd.V_reads' al.out).2.2 x5_2 bd bf
         cases cE
         obtain ⟨dN, cF, cG, b8⟩ := Kd.V_get al.out z59 x5_2 bd (by first | exact bf | exact dY | (have e_ := (Kd.V_reads' al.out).1; omega)); obtain ⟨dO, dP, rfl, bn, bo⟩ := k59_openF cG; have bg := b8 0 _ rfl; rw [Nat.add_zero] at bg; replace bg := Option.some.inj (bg.symm.trans bm); injection bg with hva_ hvn_ hvc_; rw [hva_] at bo; rw [hvc_] at bn; have aA := mk0 (show Kd.V (Kd.int .i64) 2 _ w.heap.size _ _ ((rd_T59 l0_2 x5_2).f0) from Kd.V_mk bn bo); clear hva_ hvn_ hvc_ bo bn; clear b8 cF; have cH := mk0 b7; have dQ := mk0 b6; clear b7 b6; replace bd := eq_true bd; replace bf := eq_true bf; refine start_ (n := 12) (S := fun w' => w'.cell? ⟨ae, 0, none⟩ = some (.int .i64 a0_0) ∧ w'.cell? ⟨ae, 1, none⟩ = some (ai) ∧ w'.cell? ⟨ae, 2, none⟩ = some (am) ∧ w'.cell? ⟨ag, 0, none⟩ = some (.int .i64 a0_0) ∧ w'.cell? ⟨ag, 1, none⟩ = some (.slice A0_1 l0_1.length c0_1) ∧ w'.cell? ⟨ag, 2, none⟩ = some (.slice (some aT) l0_2.length c0_2) ∧ w'.cell? (aT.add ((x5_2).toNat * 2)) = some (.slice b3 ((rd_T59 l0_2 x5_2).f0).length b4) ∧ w'.cell? ⟨(aT.add ((x5_2).toNat * 2)).block, (aT.add ((x5_2).toNat * 2)).off + 1, none⟩ = some (.int .i64 ((rd_T59 l0_2 x5_2).f1))) (ds := [9, 11]) (bts 12 0) (by kernel_rfl) rfl rfl ⟨(blk_cell ac.out 0).trans rfl, (blk_cell ac.out 1).trans rfl, (blk_cell ac.out 2).trans rfl, (blk_cell aa.out 0).trans rfl, (blk_cell aa.out 1).trans rfl, (blk_cell aa.out 2).trans rfl, bm, b5⟩ (fun hHeld => ?_); refine with_tabW furrowlaw15_Of.tab9 furrowlaw15_Of.bits9 (fun HT_ HW_ => ?_); generalize wr.drew = dR at ak al aj ao aa ah ac HB aA cH bm b5 hHeld ⊢; refine qA 0 1 ?_; refine qA 2 5 ?_; refine qA 4 21 ?_; refine qT8 1 23 ?_; refine qT8 3 31 ?_; refine qA 5 63 ?_; refine qT8 6 127 ?_; refine one_ (i := 7) (N := some 41) (bts 12 255) rfl rfl (one_of HT_.out (by kernel_rfl)) (by decide) (fun K hK => ?_); refine goes_ Tryd.func24 (by kernel_rfl) rfl #[.agg #[.slice b3 ((rd_T59 l0_2 x5_2).f0).length b4, .int .i64 ((rd_T59 l0_2 x5_2).f1)]] (by rfl) rfl rfl (by (try simp only [List.map_toArray, List.map_cons, List.map_nil]); first | done | rfl | (simp only [List.length_drop, List.length_take]; rfl)) ?_; (with_reducible refine (furrowlaw11_Of.calls (fun k_ => (((P0_1_ k_ ∨ P0_2_ k_) ∨ w.heap.size ≤ k_) ∧ (some k_ ≠ (ai : Value).ownBlock ∧ (some k_ ≠ (am : Value).ownBlock ∧ (k_ ≠ ag ∧ (k_ ≠ af ∧ k_ ≠ ae)))))) _ _ ((rd_T59 l0_2 x5_2).f0) ((rd_T59 l0_2 x5_2).f1) aN aQ _ ?side1 cz.out).mono ?_); (case side1 => exact aA.out); rintro e dS ⟨dT, rfl, ho0, hb⟩; have HS6_ := (hb.cell (World.block_lt_of_cell? _ _ (hHeld.2.2.2.2.2.2.1))).trans (hHeld.2.2.2.2.2.2.1); have HS7_ := (hb.cell (World.block_lt_of_cell? _ _ (hHeld.2.2.2.2.2.2.2))).trans (hHeld.2.2.2.2.2.2.2); refine ⟨_, rfl, ?_⟩; replace ak := vB ak hb; replace al := vB al hb; replace aA := vB aA hb; have aG := mk0 (Kd.V_lower (Kd.V_mono (ok' := fun k_ => ((P0_1_ k_ ∨ P0_2_ k_) ∨ w.heap.size ≤ k_) ∧ some k_ ≠ (ai : Value).ownBlock ∧ some k_ ≠ (am : Value).ownBlock ∧ k_ ≠ ag ∧ k_ ≠ af ∧ k_ ≠ ae) ho0 (fun k_ hk_ => ⟨Or.elim hk_ (fun hs_ => hs_.1) (fun hn_ => (.inr (Nat.le_trans (below_size bH) hn_))), Or.elim hk_ (fun hs_ => hs_.2.1) (fun hn_ => (Kd.fresh' (Kd.N_lt (uN aj.out)) k_ hn_)), Or.elim hk_ (fun hs_ => hs_.2.2.1) (fun hn_ => (Kd.fresh' (Kd.N_lt (uN ao.out)) k_ hn_)), Or.elim hk_ (fun hs_ => hs_.2.2.2.1) (fun hn_ => (Kd.freshB (g := ag) (o := .cells #[.int .i64 a0_0, .slice A0_1 l0_1.length c0_1, .slice (some aT) l0_2.length c0_2] 24 (0, 0)) (uB aa.out) k_ hn_)), Or.elim hk_ (fun hs_ => hs_.2.2.2.2.1) (fun hn_ => (Kd.freshB (g := af) (o := .cells #[.int .i64 0, .slice none 0 0, .slice none 0 0] 34 (0, 0)) (uB ah.out) k_ hn_)), Or.elim hk_ (fun hs_ => hs_.2.2.2.2.2) (fun hn_ => (Kd.freshB (g := ae) (o := .cells #[.int .i64 a0_0, ai, am] 34 (0, 0)) (uB ac.out) k_ hn_))⟩)) (below_size bH)); replace aj := nB aj hb; replace ao := nB ao hb; replace aa := bB aa hb; replace ah := bB ah hb; replace ac := bB ac hb; replace HB := hbB bH hb; (try clear hb hk ho0); obtain ⟨cI, cJ, b9⟩ := Kd.V_slice aG.out; (first | subst b9 | (injection b9 with f1_ f2_ f3_; have f4_ := f1_.symm; have f5_ := f3_.symm; clear f1_ f2_ f3_; subst f4_; subst f5_)); refine hK.out _ _ ⟨(blk_cell ac.out 0).trans rfl, (blk_cell ac.out 1).trans rfl, (blk_cell ac.out 2).trans rfl, (blk_cell aa.out 0).trans rfl, (blk_cell aa.out 1).trans rfl, (blk_cell aa.out 2).trans rfl, HS6_, HS7_⟩ (fun hHeld => ?_); clear hK K; refine norm_ (a' := ?_) ?_ ?_; rotate_left
         ·show Act.put _ (some 41) _ = _
          simp only [AP, i64_w, i32_w]; rfl
         refine one_ (i := 8) (N := some 42) (bts 12 511) rfl rfl (one_of HT_.out (by kernel_rfl)) (by decide) (fun K hK => ?_); refine value_ (w1 := ?_) (v := ?_) (by rfl) rfl ?_ ?_; rotate_left 2
         ·go_simp
          constructor
          ·rfl
          ·rfl
         refine hK.out _ _ ⟨(blk_cell (blk_alloc ac.out _) 0).trans rfl, (blk_cell (blk_alloc ac.out _) 1).trans rfl, (blk_cell (blk_alloc ac.out _) 2).trans rfl, (blk_cell (blk_alloc aa.out _) 0).trans rfl, (blk_cell (blk_alloc aa.out _) 1).trans rfl, (blk_cell (blk_alloc aa.out _) 2).trans rfl, (World.cell?_alloc_lt _ _ _ (World.block_lt_of_cell? _ _ (hHeld.2.2.2.2.2.2.1))).trans (hHeld.2.2.2.2.2.2.1), (World.cell?_alloc_lt _ _ _ (World.block_lt_of_cell? _ _ (hHeld.2.2.2.2.2.2.2))).trans (hHeld.2.2.2.2.2.2.2)⟩ (fun hHeld => ?_); clear hK K; refine norm_ (a' := ?_) ?_ ?_; rotate_left
         ·show Act.put _ (some 42) _ = _
          simp only [AP, i64_w, i32_w]; rfl
         refine last_ (i := 9) (N := some 43) (bts 12 1023) rfl rfl (one_of HT_.out (by kernel_rfl)) (by decide) (fun K hK => ?_); refine Kd.N_append_step k65 (w0 := w) w.heap.size (by rfl) (.tmp 35) (.tmp 42) 32 65 (.agg #[(.slice none 0 0), (.int .i64 0)]) 32 rfl Tryd.underlying32 info65 rfl (by decide) (by omega) am aq (⟨aN, aQ⟩ : S65) [.slice cI aN.length cJ, .int .i64 aQ] (fun k_ => ((P0_1_ k_ ∨ P0_2_ k_) ∨ w.heap.size ≤ k_) ∧ some k_ ≠ (ai : Value).ownBlock ∧ k_ ≠ ag ∧ k_ ≠ af ∧ k_ ≠ ae) (fun k_ => ((fun k_ => ((P0_1_ k_ ∨ P0_2_ k_) ∨ w.heap.size ≤ k_) ∧ some k_ ≠ (ai : Value).ownBlock ∧ k_ ≠ ag ∧ k_ ≠ af ∧ k_ ≠ ae)) k_ ∧ some k_ ≠ (am : Value).ownBlock) rfl rfl ?aP (fun _ hk => hk) ?aF ?aO ?aB ?aS ?aL ?_; (case aP => exact (k65_mkF _ _ (⟨aN, aQ⟩ : S65) (Kd.V_reads' (vP (ok' := (fun k_ => ((fun k_ => ((P0_1_ k_ ∨ P0_2_ k_) ∨ w.heap.size ≤ k_) ∧ some k_ ≠ (ai : Value).ownBlock ∧ k_ ≠ ag ∧ k_ ≠ af ∧ k_ ≠ ae)) k_ ∧ some k_ ≠ (am : Value).ownBlock)) aG)).2.1 (Kd.V_F (vP (ok' := (fun k_ => ((fun k_ => ((P0_1_ k_ ∨ P0_2_ k_) ∨ w.heap.size ≤ k_) ∧ some k_ ≠ (ai : Value).ownBlock ∧ k_ ≠ ag ∧ k_ ≠ af ∧ k_ ≠ ae)) k_ ∧ some k_ ≠ (am : Value).ownBlock)) aG)))); (case aB => exact bH); (case aF => exact (fun k_ hk => ⟨(.inr (Nat.le_trans (below_size bH) hk)), Kd.fresh' (Kd.N_lt (uN aj.out)) k_ hk, fB aa hk, fB ah hk, fB ac hk⟩)); (case aO => exact (uN ao.out)); (case aS => exact (below_size bH)); (case aL => have := cA.out; omega); intro dU cK ho hb hg hat; rw [← cD.out] at ho; have n0_ := vA ak hg hat; have n1_ := vA al hg hat; have n2_ := nA aj hg hat; have n3_ := (gB aa hg (Kd.N_ne ao.out aa.out (by decide))); have n4_ := (gB ah hg (Kd.N_ne ao.out ah.out (by decide))); have n5_ := (gB ac hg (Kd.N_ne ao.out ac.out (by decide))); have n6_ := vA aA hg hat; have n7_ := vA aG hg hat; have n8_ := mk0 (hb); have n9_ := mk0 (ho); clear ak al aj aa ah ac aA aG HB ao; have ak := n0_; have al := n1_; have aj := n2_; have aa := n3_; have ah := n4_; have ac := n5_; have aA := n6_; have aG := n7_; have HB := n8_; have ca := n9_; clear n0_ n1_ n2_ n3_ n4_ n5_ n6_ n7_ n8_ n9_; clear ho hb hg hat; obtain ⟨aU, aV, cd⟩ := Kd.N_slice ca.out; (first | subst cd | (injection cd with f1_ f2_ f3_; have f4_ := f1_.symm; have f5_ := f3_.symm; clear f1_ f2_ f3_; subst f4_; subst f5_)); refine hK.out _ _ ?_; clear hK K; refine norm_ (a' := ?_) ?_ ?_; rotate_left
         ·show Act.put _ (some 43) _ = _
          simp only [AP, i64_w, i32_w]; rfl
         refine qA 10 2047 ?_; refine last_ (i := 11) (N := none) (bts 12 4095) rfl rfl (one_of HT_.out (by kernel_rfl)) (by decide) (fun K hK => ?_); have hs38 : cK.cell? ⟨ae, 2, none⟩ = some (am) := (blk_cell ac.out 2).trans rfl; have hfs38 := blk_frozen ac.out 2; have dV := av.out; have dW := aW.out; have dX := aw.out; have dZ := aX.out; refine skip_ (w1 := ?_) (by rfl) rfl ?_ ?_; rotate_left
         ·go_simp
          rfl
         refine hK.out _ _ ?_; clear hK K; refine done_ (done_of HT_.out (by kernel_rfl)) ?_; (try go_wp2)
         go_roundg k2
         case measure => have := aY.out; have := bY.out; omega
         case rel => exact ⟨(wrap64 (x5_2 + 1)), (az), (.slice aU az.length aV), eK, H', ⟨by have := aY.out; have := bY.out; omega⟩, ⟨uV (vF ⟨ae, 2, none⟩ (.slice aU az.length aV) ak)⟩, ⟨uV (vF ⟨ae, 2, none⟩ (.slice aU az.length aV) al)⟩, ⟨uN (nF ⟨ae, 2, none⟩ (.slice aU az.length aV) aj)⟩, ⟨uN (nF ⟨ae, 2, none⟩ (.slice aU az.length aV) ca)⟩, ⟨kB⟩, ⟨kB⟩, ⟨kB⟩, ⟨bH⟩⟩
        ·exact nO H bc
       ·exact nO H bb
      ·rw [if_neg aE] at H
       have cy := decide_eq_false aE; clear aE; simp only [Option.some.injEq, Prod.mk.injEq] at H; obtain ⟨rfl, rfl, rfl⟩ := H; have d4 := aH.out; have d5 := aI.out; have d6 := av.out; have d7 := aw.out; obtain ⟨d8, d9, d_, ea, eb, ec⟩ := cL3 aa; have ed := aX.out; have ee := aW.out; obtain ⟨ef, eh, ei, ej, ek, em⟩ := cL3 ac; obtain ⟨en, eo, ep, eq, er, es⟩ := cL3 ah; obtain ⟨bp, bq, cL⟩ := Kd.N_slice aj.out; subst cL; obtain ⟨br, bs, cM⟩ := Kd.N_slice ao.out; subst cM; go_wp2; refine bodyPost_ret (results_cell_row rfl _ _ af 34 #[.int .i64 a0_0, .slice bp ap.length bq, .slice br aq.length bs] (0, 0) _ rfl (kB) Tryd.underlying34 rfl (by kernel_rfl)) rfl ?_; exact ⟨_, _, rE, uN (Kd.N_mono (Kd.N_far (p := ⟨af, 2, none⟩) (Kd.N_far (p := ⟨af, 1, none⟩) (Kd.N_far (p := ⟨af, 0, none⟩) (Kd.N_mono aj.out (fun k_ hk => (⟨hk, hk.2.2.2.1⟩ : _ ∧ k_ ≠ af))) (fun _ hk => hk.2) (.int .i64 a0_0)) (fun _ hk => hk.2) (.slice bp ap.length bq)) (fun _ hk => hk.2) (.slice br aq.length bs)) (fun _ hk => ⟨hk.1.1, hk.1.2.1⟩)), uN (Kd.N_mono (Kd.N_far (p := ⟨af, 2, none⟩) (Kd.N_far (p := ⟨af, 1, none⟩) (Kd.N_far (p := ⟨af, 0, none⟩) (Kd.N_mono ao.out (fun k_ hk => (⟨hk, hk.2.2.2.1⟩ : _ ∧ k_ ≠ af))) (fun _ hk => hk.2) (.int .i64 a0_0)) (fun _ hk => hk.2) (.slice bp ap.length bq)) (fun _ hk => hk.2) (.slice br aq.length bs)) (fun _ hk => ⟨hk.1.1, hk.1.2.1⟩)), bH⟩

end Go.Proofs.YtkkpgjkjkcmcbaaDoor.X
