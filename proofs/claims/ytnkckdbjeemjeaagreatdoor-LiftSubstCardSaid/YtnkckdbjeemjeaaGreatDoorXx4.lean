-- PRINTED by print.py (a twelfth state) out of the translation. Not trusted: Lean checks it.
import Derived.Test.YtnkckdbjeemjeaaGreatDoorXx0
import Derived.Test.YtnkckdbjeemjeaaGreatDoorXx3
namespace Go.Proofs.YtnkckdbjeemjeaaGreatDoor.X
open Go.Proofs.YtnkckdbjeemjeaaGreatDoor.Flt Go.Proofs.YtnkckdbjeemjeaaGreatDoor.H Go.RowKit Go.Proofs.YtnkckdbjeemjeaaGreatDoorW.PrintWords Go.Proofs.YtnkckdbjeemjeaaGreatDoorW.PrintLast Go.Proofs.YtnkckdbjeemjeaaGreatDoorW.PrintMore
attribute [local go_sem] max2_int min2_int max_two min_two max_three min_three max_four min_four   -- for this text's walks alone
set_option linter.unusedVariables false
set_option linter.unusedSimpArgs false

/-! ### lin_Same: function 94 -/
mutual
def lin_Same.l0 : Nat → Int → Int → List Int → Int → List Int → Int → Option (Bool)
 | 0, _, _, _, _, _, _ => none
 | k + 1, x14, x15, x135000, x135001, x136000, x136001 => if x15 < x14 then (if x15 < (x135000.length : Int) then (if 0 ≤ x15 then (lin_Same.j1 k x15 (rd x135000 x15) 0 x14 x15 x135000 x135001 x136000 x136001) else (none)) else (lin_Same.j1 k x15 0 0 x14 x15 x135000 x135001 x136000 x136001)) else (some (x135001 == x136001))
def lin_Same.j1 : Nat → Int → Int → Int → Int → Int → List Int → Int → List Int → Int → Option (Bool)
 | 0, _, _, _, _, _, _, _, _, _ => none
 | k + 1, x5, x6, x7, x14, x15, x135000, x135001, x136000, x136001 => if x5 < (x136000.length : Int) then (if 0 ≤ x5 then (if x6 = (rd x136000 x5) then (lin_Same.l0 k x14 (wrap64 (x15 + 1)) x135000 x135001 x136000 x136001) else (some false)) else (none)) else (if x6 = x7 then (lin_Same.l0 k x14 (wrap64 (x15 + 1)) x135000 x135001 x136000 x136001) else (some false))
end
def lin_Same.f (k : Nat) (l0_0 : List Int) (a0_1 : Int) (l1_0 : List Int) (a1_1 : Int) : Option (Bool) := lin_Same.l0 k (mx (l0_0.length : Int) (l1_0.length : Int)) 0 l0_0 a0_1 l1_0 a1_1
theorem lin_Same.mono_l : ∀ k, (∀ y0 y1 y2 y3 y4 y5, LeO (lin_Same.l0 k y0 y1 y2 y3 y4 y5) (lin_Same.l0 (k + 1) y0 y1 y2 y3 y4 y5)) ∧ (∀ y0 y1 y2 y3 y4 y5 y6 y7 y8, LeO (lin_Same.j1 k y0 y1 y2 y3 y4 y5 y6 y7 y8) (lin_Same.j1 (k + 1) y0 y1 y2 y3 y4 y5 y6 y7 y8))
 | 0 => by refine ⟨?_, ?_⟩ <;> intros <;> exact fun r h => by simp [lin_Same.l0, lin_Same.j1] at h
 | k + 1 => by
  obtain ⟨i0_, i1_⟩ := lin_Same.mono_l k; refine ⟨?_, ?_⟩ <;> intros
  ·unfold lin_Same.l0; exact lO_
  ·unfold lin_Same.j1; exact lO_
theorem lin_Same.mono : ∀ a0 a1 a2 a3 k, LeO (lin_Same.f k a0 a1 a2 a3) (lin_Same.f (k + 1) a0 a1 a2 a3) := by
 intro a0 a1 a2 a3 k
 obtain ⟨i0_, i1_⟩ := lin_Same.mono_l k; unfold lin_Same.f; exact lO_
set_option maxHeartbeats 8000000 in
set_option maxRecDepth 100000 in
theorem lin_Same.calls (k : Nat) (A0_0 : Option Addr) (c0_0 : Nat) (l0_0 : List Int) (a0_1 : Int) (A1_0 : Option Addr) (c1_0 : Nat) (l1_0 : List Int) (a1_1 : Int) (r : Bool) (w : World) (hr0_0 : Kd.C (Kd.int .i64) w A0_0 l0_0.length l0_0) (hc0_0 : l0_0.length ≤ c0_0) (hr1_0 : Kd.C (Kd.int .i64) w A1_0 l1_0.length l1_0) (hc1_0 : l1_0.length ≤ c1_0) (h : lin_Same.f k l0_0 a0_1 l1_0 a1_1 = some r) :
  Calls Tryz.prog 94 #[.agg #[.slice A0_0 l0_0.length c0_0, .int .i64 a0_1], .agg #[.slice A1_0 l1_0.length c1_0, .int .i64 a1_1]] w fun e w' => e = .returned (.bool r) ∧ Below w.heap.size w w' := by
 have hu46 := Tryz.underlying46
 have aT := mk0 hr0_0
 have bj := mk0 hc0_0
 clear hr0_0 hc0_0
 have az := mk0 hr1_0
 have bk := mk0 hc1_0
 clear hr1_0 hc1_0
 have HB := mk0 (Below.refl w.heap.size w)
 have H : (lin_Same.l0 k (mx (l0_0.length : Int) (l1_0.length : Int)) 0 l0_0 a0_1 l1_0 a1_1) = some r := h
 clear h
 obtain ⟨ji3, hji3⟩ : ∃ j_ : Int, (mx (l0_0.length : Int) (l1_0.length : Int)) = j_ := ⟨_, rfl⟩
 replace H : (lin_Same.l0 k ji3 0 l0_0 a0_1 l1_0 a1_1) = some r := by first | (rw [hji3] at H; exact H) | (simp only [hji3] at H ⊢; exact H)
 (try (have hji3l : 0 ≤ ji3 := by (rw [← hji3]; unfold mx; (repeat' split) <;> omega)))
 (try (have hji3m : 0 ≤ ji3 := by omega))
 have hji3_ : (if (l0_0.length : Int) < (l1_0.length : Int) then (l1_0.length : Int) else (l0_0.length : Int)) = ji3 := hji3
 have hji3n : (if l0_0.length < l1_0.length then (l1_0.length : Int) else (l0_0.length : Int)) = ji3 := by (have h_ := hji3_; simp only [Int.ofNat_lt] at h_; exact h_)
 have H' := mk0 H
 clear H
 go_enter Tryz.func94, Tryz.ntmps94
 go_wp2_with (first | ((with_reducible refine gate_dst (N := 2) rfl ?_); refine bxE 2 #[.slice A0_0 l0_0.length c0_0, .int .i64 a0_1] 46 ?_; intro aA hg w4 hbox hb; have ab := mk0 (hbox); have bl := gE (uL HB.out) hg; have bm := gE (uL HB.out) hg; replace HB := hbB (uL HB.out) hb; clear hb hbox hg) | ((with_reducible refine gate_dst (N := 3) rfl ?_); refine bxE 3 #[.slice A1_0 l1_0.length c1_0, .int .i64 a1_1] 46 ?_; intro aC hg w5 hbox hb; have ac := mk0 (hbox); have bn := gE bH hg; have bo := gE bH hg; replace HB := hbB bH hb; have ae := nL ab hg; have af := nG ab hg; replace ab := bB ab hb; clear hb hbox hg; have bp := ae.out; have bq := af.out; obtain ⟨aD, aE, aG, aH⟩ := cL2 ab; obtain ⟨aI, aJ, aK, aM⟩ := cL2 ac))
 go_loopg [15] k (fun kq v15 w' => ∃ (aa : Int), v15 = .int .i64 aa ∧ Aside0 (lin_Same.l0 kq ji3 aa l0_0 a0_1 l1_0 a1_1 = some r) ∧ Aside0 (kq ≤ k) ∧ Aside0 (w'.heap[aA]? = some (.cells #[(.slice A0_0 l0_0.length c0_0), .int .i64 a0_1] 46 (0, 0))) ∧ Aside0 (w'.heap[aC]? = some (.cells #[(.slice A1_0 l1_0.length c1_0), .int .i64 a1_1] 46 (0, 0))) ∧ Aside0 (Below w.heap.size w w'))
 case atStart => exact ⟨(0), eK, H', ⟨Nat.le_refl _⟩, ⟨uB ab.out⟩, ⟨uB ac.out⟩, ⟨bH⟩⟩
 case round =>
  clear H'; (try clear aD aE aI aJ aG aH aK aM); obtain ⟨aa, rfl, HA, ak, ab, ac, HB⟩ := hrel
  cases gk with
  | zero => exact absurd HA.out (by simp [lin_Same.l0])
  | succ k1 =>
   have H := HA.out; clear HA; simp only [lin_Same.l0] at H
   by_cases c9 : aa < ji3
   ·rw [if_pos c9] at H
    have aN := decide_eq_true c9; clear c9; have av := mk0 H; clear H; have br := ae.out; have bs := af.out; obtain ⟨aU, aV, aW, aX⟩ := cL2 ab
    go_upto_if 22 with (fail)
    go_cut [6] (fun v6 wc => ∃ (kq : Nat) (x6_9 : Int), v6 = .int .i64 x6_9 ∧ Aside0 (lin_Same.j1 kq aa x6_9 0 ji3 aa l0_0 a0_1 l1_0 a1_1 = some r) ∧ Aside0 (kq ≤ k1) ∧ Aside0 (wc.heap[aA]? = some (.cells #[(.slice A0_0 l0_0.length c0_0), .int .i64 a0_1] 46 (0, 0))) ∧ Aside0 (wc.heap[aC]? = some (.cells #[(.slice A1_0 l1_0.length c1_0), .int .i64 a1_1] 46 (0, 0))) ∧ Aside0 (Below w.heap.size w wc))
    case first =>
     have H := av.out; clear av
     by_cases al : aa < (l0_0.length : Int)
     ·rw [if_pos al] at H
      have ao := decide_eq_true al; clear al; (first | rw [ao] | (simp only [i64_w, i32_w]; rw [ao]) | skip)
      by_cases aq : 0 ≤ aa
      ·rw [if_pos aq] at H
       have bu := decide_eq_true aq; clear aq; have H' := mk0 H; clear H; have bv := ae.out; have bw := af.out; obtain ⟨bz, bC, bE, bF⟩ := cL2 ab; have aw : 0 ≤ (aa : Int) := dY; have ax : aa < (l0_0.length : Int) := dY; obtain ⟨bG, aY, aQ⟩ := Kd.at_int aT.out aa aw ax
       cases aY
       replace aQ := oC HB aQ; replace aw := eq_true aw; replace ax := eq_true ax; go_wp2
       go_meet
       case rel => exact ⟨_, (rd l0_0 aa), eK, H', ⟨by have := ak.out; first | omega | exact Nat.le_refl _⟩, ⟨uB ab.out⟩, ⟨uB ac.out⟩, ⟨bH⟩⟩
      ·exact nO H aq
     ·rw [if_neg al] at H
      have ao := decide_eq_false al; clear al; (first | rw [ao] | (simp only [i64_w, i32_w]; rw [ao]) | skip); have H' := mk0 H; clear H; go_wp2
      go_meet
      case rel => exact ⟨_, (0), eK, H', ⟨by have := ak.out; first | omega | exact Nat.le_refl _⟩, ⟨uB ab.out⟩, ⟨uB ac.out⟩, ⟨bH⟩⟩
    case rest =>
     clear av; (try clear c9 aN aU aV aD aE aI aJ aW aX aG aH aK aM); obtain ⟨kq, x6_9, rfl, HA, ar, ab, ac, HB⟩ := hcut
     cases kq with
     | zero => exact absurd HA.out (by simp [lin_Same.j1])
     | succ kj9 =>
      have H := HA.out; clear HA; simp only [lin_Same.j1] at H
      by_cases am : aa < (l1_0.length : Int)
      ·rw [if_pos am] at H
       have aZ := decide_eq_true am; clear am
       by_cases au : 0 ≤ aa
       ·rw [if_pos au] at H
        have bI := decide_eq_true au; clear au
        by_cases ag : x6_9 = (rd l1_0 aa)
        ·rw [if_pos ag] at H
         have a_ : (x6_9 == (rd l1_0 aa)) = true := beq_iff_eq.mpr ag; have bf : (x6_9 != (rd l1_0 aa)) = false := bne_eq_false_iff_eq.mpr ag; clear ag; have H' := mk0 H; clear H; have bJ := af.out; have bK := ae.out; obtain ⟨bL, bM, bO, bP⟩ := cL2 ac; have ah : 0 ≤ (aa : Int) := dY; have ai : aa < (l1_0.length : Int) := dY; obtain ⟨bg, ay, ap⟩ := Kd.at_int az.out aa ah ai
         cases ay
         replace ap := oC HB ap; replace ah := eq_true ah; replace ai := eq_true ai; go_wp2
         go_roundg kj9
         case measure => have := ak.out; have := ar.out; omega
         case rel => exact ⟨(wrap64 (aa + 1)), eK, H', ⟨by have := ak.out; have := ar.out; omega⟩, ⟨uB ab.out⟩, ⟨uB ac.out⟩, ⟨bH⟩⟩
        ·rw [if_neg ag] at H
         have a_ : (x6_9 == (rd l1_0 aa)) = false := beq_eq_false_iff_ne.mpr ag; have bf : (x6_9 != (rd l1_0 aa)) = true := bne_iff_ne.mpr ag; obtain rfl := Option.some.inj H; have bQ := af.out; have bR := ae.out; obtain ⟨bT, bU, bV, bW⟩ := cL2 ac; have ah : 0 ≤ (aa : Int) := dY; have ai : aa < (l1_0.length : Int) := dY; obtain ⟨bg, ay, ap⟩ := Kd.at_int az.out aa ah ai
         cases ay
         replace ap := oC HB ap; replace ah := eq_true ah; replace ai := eq_true ai; go_wp2; go_ret; exact ⟨by first | rfl | (simp [errW_none, errW_some] <;> rfl) | (simp only [← hji3]; first | rfl | (simp [errW_none, errW_some] <;> rfl)) | (simp [*, errW_none, errW_some] <;> rfl), bH⟩
       ·exact nO H au
      ·rw [if_neg am] at H
       have aZ := decide_eq_false am; clear am
       by_cases aj : x6_9 = 0
       ·rw [if_pos aj] at H
        have bh : (x6_9 == 0) = true := beq_iff_eq.mpr aj; have bi : (x6_9 != 0) = false := bne_eq_false_iff_eq.mpr aj; clear aj; have H' := mk0 H; clear H; have bX := af.out; have bY := ae.out; obtain ⟨bZ, b4, b5, b6⟩ := cL2 ac; go_wp2
        go_roundg kj9
        case measure => have := ak.out; have := ar.out; omega
        case rel => exact ⟨(wrap64 (aa + 1)), eK, H', ⟨by have := ak.out; have := ar.out; omega⟩, ⟨uB ab.out⟩, ⟨uB ac.out⟩, ⟨bH⟩⟩
       ·rw [if_neg aj] at H
        have bh : (x6_9 == 0) = false := beq_eq_false_iff_ne.mpr aj; have bi : (x6_9 != 0) = true := bne_iff_ne.mpr aj; obtain rfl := Option.some.inj H; have b7 := af.out; have b8 := ae.out; obtain ⟨b9, cd, ce, cf⟩ := cL2 ac; go_wp2; go_ret; exact ⟨by first | rfl | (simp [errW_none, errW_some] <;> rfl) | (simp only [← hji3]; first | rfl | (simp [errW_none, errW_some] <;> rfl)) | (simp [*, errW_none, errW_some] <;> rfl), bH⟩
   ·rw [if_neg c9] at H
    have aN := decide_eq_false c9; clear c9; obtain rfl := Option.some.inj H; have cg := ae.out; have ch := af.out; obtain ⟨ci, cj, ck, cl⟩ := cL2 ab; obtain ⟨cm, cn, cp, cq⟩ := cL2 ac; go_wp2; go_ret; exact ⟨by first | rfl | (simp [errW_none, errW_some] <;> rfl) | (simp only [← hji3]; first | rfl | (simp [errW_none, errW_some] <;> rfl)) | (simp [*, errW_none, errW_some] <;> rfl), bH⟩

/-! ### lift_constant: function 81 -/
def lift_constant.f (k : Nat) (l0_0 : List Int) (a0_1 : Int) : Option (Bool) := (lin_Const.f 0 a0_1).bind fun bt139 => ((lin_Same.f k l0_0 a0_1 bt139.1 bt139.2).bind fun t143 => (some t143))
theorem lift_constant.mono : ∀ a0 a1 k, LeO (lift_constant.f k a0 a1) (lift_constant.f (k + 1) a0 a1) := by
 intro a0 a1 k
 have m0_ := @lin_Same.mono; unfold lift_constant.f; exact lO_
set_option maxHeartbeats 8000000 in
set_option maxRecDepth 100000 in
theorem lift_constant.calls (k : Nat) (A0_0 : Option Addr) (c0_0 : Nat) (l0_0 : List Int) (a0_1 : Int) (r : Bool) (w : World) (hr0_0 : Kd.C (Kd.int .i64) w A0_0 l0_0.length l0_0) (hc0_0 : l0_0.length ≤ c0_0) (h : lift_constant.f k l0_0 a0_1 = some r) :
  Calls Tryz.prog 81 #[.agg #[.slice A0_0 l0_0.length c0_0, .int .i64 a0_1]] w fun e w' => e = .returned (.bool r) ∧ Below w.heap.size w w' := by
 have hu46 := Tryz.underlying46
 have al := mk0 hr0_0
 have am := mk0 hc0_0
 clear hr0_0 hc0_0
 have HB := mk0 (Below.refl w.heap.size w)
 have H : ((lin_Const.f 0 a0_1).bind fun ag => ((lin_Same.f k l0_0 a0_1 ag.1 ag.2).bind fun ab => (some ab))) = some r := h
 clear h
 replace H := Option.bind_eq_some_iff.mp H
 obtain ⟨⟨ac, ae⟩, ah, H⟩ := H
 dsimp only at H
 have A2 := mk0 ah
 clear ah
 replace H := Option.bind_eq_some_iff.mp H
 obtain ⟨ab, ai, H⟩ := H
 have A3 := mk0 ai
 clear ai
 obtain rfl := Option.some.inj H
 go_enter Tryz.func81, Tryz.ntmps81
 try go_wp2_with (first | ((with_reducible refine gate_dst (N := 1) rfl ?_); refine bxE 1 #[.slice A0_0 l0_0.length c0_0, .int .i64 a0_1] 46 ?_; intro aj hg w4 hbox hb; have aa := mk0 (hbox); have aq := gE (uL HB.out) hg; have ar := gE (uL HB.out) hg; replace HB := hbB (uL HB.out) hb; clear hb hbox hg))
 replace aa := mk0 (blk_drew aa.out)
 replace HB := mk0 (below_drew1 HB.out)
 refine start_ (n := 6) (S := fun w' => w'.cell? ⟨aj, 0, none⟩ = some (.slice A0_0 l0_0.length c0_0) ∧ w'.cell? ⟨aj, 1, none⟩ = some (.int .i64 a0_1)) (ds := []) (bts 6 0) (by kernel_rfl) rfl rfl ⟨(blk_cell aa.out 0).trans rfl, (blk_cell aa.out 1).trans rfl⟩ (fun hHeld => ?_)
 generalize w4.drew = w5 at aa HB hHeld ⊢
 refine pure_ (i := 1) (N := some 4) (v := ?_) (a' := ?_) (bts 6 2) rfl rfl (by kernel_rfl) (fun _ _ _ h => h) (Or.inl ⟨by rfl, ?_⟩) ?_ ?_
 rotate_left
 ·intro w'
  go_simp; (with_reducible rfl)
 rotate_left
 ·simp only [AP, i64_w, i32_w]
  rfl
 refine take_ (i := 0) (N := some 3) (v := ?_) (a' := ?_) (bts 6 3) rfl rfl (by kernel_rfl) (fun _ _ _ h => h) (Or.inl ⟨by rfl, ?_⟩) hHeld ?_ ?_
 rotate_left
 ·rintro w' ⟨s0, s1⟩
  go_simp; (with_reducible rfl)
 rotate_left
 ·simp only [AP, i64_w, i32_w]
  rfl
 refine take_ (i := 2) (N := some 5) (v := ?_) (a' := ?_) (bts 6 7) rfl rfl (by kernel_rfl) (fun _ _ _ h => h) (Or.inl ⟨by rfl, ?_⟩) hHeld ?_ ?_
 rotate_left
 ·rintro w' ⟨s0, s1⟩
  go_simp; (with_reducible rfl)
 rotate_left
 ·simp only [AP, i64_w, i32_w]
  rfl
 refine one_ (i := 3) (N := some 6) (bts 6 15) rfl rfl (by kernel_rfl) (by decide) (fun K hK => ?_)
 refine goes_ Tryz.func52 (by kernel_rfl) rfl #[.int .i64 0, .int .i64 a0_1] (by rfl) rfl rfl (by (try simp only [List.map_toArray, List.map_cons, List.map_nil]); first | done | rfl | (simp only [List.length_drop, List.length_take]; rfl)) ?_
 with_reducible refine (lin_Const.calls 0 a0_1 ac ae _ A2.out).mono ?_
 rintro e w6 ⟨au, rfl, ho0, hb⟩
 refine ⟨_, rfl, ?_⟩
 have af := mk0 (Kd.R_lower ho0 (below_size bH))
 replace aa := bB aa hb
 replace HB := hbB bH hb
 (try clear hb)
 (try clear ho0)
 obtain ⟨ao, ap, ak⟩ := Kd.R_slice af.out
 (first | subst ak | (injection ak with f1_ f2_ f3_; have f4_ := f1_.symm; have f5_ := f3_.symm; clear f1_ f2_ f3_; subst f4_; subst f5_))
 refine hK.out _ _ ⟨(blk_cell aa.out 0).trans rfl, (blk_cell aa.out 1).trans rfl⟩ (fun hHeld => ?_)
 clear hK K
 refine norm_ (a' := ?_) ?_ ?_
 rotate_left
 ·show Act.put _ (some 6) _ = _
  simp only [AP, i64_w, i32_w]; rfl
 refine one_ (i := 4) (N := some 7) (bts 6 31) rfl rfl (by kernel_rfl) (by decide) (fun K hK => ?_)
 refine goes_ Tryz.func94 (by kernel_rfl) rfl #[.agg #[.slice A0_0 l0_0.length c0_0, .int .i64 a0_1], .agg #[.slice ao ac.length ap, .int .i64 ae]] (by rfl) rfl rfl (by (try simp only [List.map_toArray, List.map_cons, List.map_nil]); first | done | rfl | (simp only [List.length_drop, List.length_take]; rfl)) ?_
 with_reducible refine (lin_Same.calls k _ _ l0_0 a0_1 _ _ ac ae ab _ ?side1 ?side2 ?side3 ?side4 A3.out).mono ?_
 (case side1 => exact uC (Kd.C_below al.out HB.out))
 (case side2 => exact am.out)
 (case side3 => exact uC ((Kd.R_reads' af.out).2.2))
 (case side4 => exact (Kd.R_reads' af.out).2.1)
 rintro e w8 ⟨rfl, hb⟩
 refine ⟨_, rfl, ?_⟩
 replace aa := bB aa hb
 replace HB := hbB bH hb
 (try clear hb)
 refine hK.out _ _ ⟨(blk_cell aa.out 0).trans rfl, (blk_cell aa.out 1).trans rfl⟩ (fun hHeld => ?_)
 clear hK K
 refine norm_ (a' := ?_) ?_ ?_
 rotate_left
 ·show Act.put _ (some 7) _ = _
  simp only [AP, i64_w, i32_w]; rfl
 refine pure_ (i := 5) (N := some 2) (v := ?_) (a' := ?_) (bts 6 63) rfl rfl (by kernel_rfl) (fun _ _ _ h => h) (Or.inl ⟨by rfl, ?_⟩) ?_ ?_
 rotate_left
 ·intro w'
  go_simp; (with_reducible rfl)
 rotate_left
 ·simp only [AP, i64_w, i32_w]
  rfl
 refine done_ (by kernel_rfl) ?_
 try go_wp2
 go_ret
 exact ⟨rE, bH⟩

/-! ### num_Sub: function 85 -/
def num_Sub.f (a0 : Int) (a1 : Int) : Option (Int × Bool) := if ((decide (a0 < 0)) != (decide (a1 < 0))) = true then (if ((decide ((wrap64 (a0 - a1)) < 0)) != (decide (a0 < 0))) = true then (some (0, false)) else (some (wrap64 (a0 - a1), true))) else (some (wrap64 (a0 - a1), true))
set_option maxHeartbeats 8000000 in
set_option maxRecDepth 100000 in
theorem num_Sub.calls (a0 : Int) (a1 : Int) (r1 : Int) (r2 : Bool) (w : World) (h : num_Sub.f a0 a1 = some (r1, r2)) :
  Calls Tryz.prog 85 #[.int .i64 a0, .int .i64 a1] w fun e w' => e = .returned (.tuple #[.int .i64 r1, .bool r2]) ∧ Drawn0 w w' := by
 have H : (if ((decide (a0 < 0)) != (decide (a1 < 0))) = true then (if ((decide ((wrap64 (a0 - a1)) < 0)) != (decide (a0 < 0))) = true then (some (0, false)) else (some (wrap64 (a0 - a1), true))) else (some (wrap64 (a0 - a1), true))) = some (r1, r2) := h
 clear h
 by_cases c3 : ((decide (a0 < 0)) != (decide (a1 < 0))) = true
 ·rw [if_pos c3] at H
  have c3b0 : ((decide (a0 < 0)) != (decide (a1 < 0))) = true := c3; (try (have c3b1 : decide ((decide (a0 < 0)) = (decide (a1 < 0))) = false := by (revert c3; generalize ((decide (a0 < 0))) = p_; generalize ((decide (a1 < 0))) = q_; revert p_ q_; decide))); (try (have c3b2 : ((decide (a0 < 0)) == (decide (a1 < 0))) = false := by (revert c3; generalize ((decide (a0 < 0))) = p_; generalize ((decide (a1 < 0))) = q_; revert p_ q_; decide))); (try (have c3b3 : ¬ ((decide (a0 < 0)) = (decide (a1 < 0))) := by (revert c3; generalize ((decide (a0 < 0))) = p_; generalize ((decide (a1 < 0))) = q_; revert p_ q_; decide))); clear c3
  by_cases c4 : ((decide ((wrap64 (a0 - a1)) < 0)) != (decide (a0 < 0))) = true
  ·rw [if_pos c4] at H
   have c4b0 : ((decide ((wrap64 (a0 - a1)) < 0)) != (decide (a0 < 0))) = true := c4; (try (have c4b1 : decide ((decide ((wrap64 (a0 - a1)) < 0)) = (decide (a0 < 0))) = false := by (revert c4; generalize ((decide ((wrap64 (a0 - a1)) < 0))) = p_; generalize ((decide (a0 < 0))) = q_; revert p_ q_; decide))); (try (have c4b2 : ((decide ((wrap64 (a0 - a1)) < 0)) == (decide (a0 < 0))) = false := by (revert c4; generalize ((decide ((wrap64 (a0 - a1)) < 0))) = p_; generalize ((decide (a0 < 0))) = q_; revert p_ q_; decide))); (try (have c4b3 : ¬ ((decide ((wrap64 (a0 - a1)) < 0)) = (decide (a0 < 0))) := by (revert c4; generalize ((decide ((wrap64 (a0 - a1)) < 0))) = p_; generalize ((decide (a0 < 0))) = q_; revert p_ q_; decide))); clear c4; simp only [Option.some.injEq, Prod.mk.injEq] at H; obtain ⟨rfl, rfl⟩ := H; go_enter Tryz.func85, Tryz.ntmps85; go_wp2
   all_goals (try (exfalso; rename_i h_; rw [c3b2] at h_; revert h_; decide))
   all_goals (try (exfalso; rename_i h_; rw [c4b2] at h_; revert h_; decide))
   go_ret2
   exact ⟨eK, by repeat (first | exact Drawn0.refl _ | apply Drawn0.step)⟩
  ·rw [if_neg c4] at H
   (have c4b0 : ((decide ((wrap64 (a0 - a1)) < 0)) != (decide (a0 < 0))) = false := by simpa using c4); (try (have c4b1 : decide ((decide ((wrap64 (a0 - a1)) < 0)) = (decide (a0 < 0))) = true := by (revert c4; generalize ((decide ((wrap64 (a0 - a1)) < 0))) = p_; generalize ((decide (a0 < 0))) = q_; revert p_ q_; decide))); (try (have c4b2 : ((decide ((wrap64 (a0 - a1)) < 0)) == (decide (a0 < 0))) = true := by (revert c4; generalize ((decide ((wrap64 (a0 - a1)) < 0))) = p_; generalize ((decide (a0 < 0))) = q_; revert p_ q_; decide))); clear c4; simp only [Option.some.injEq, Prod.mk.injEq] at H; obtain ⟨rfl, rfl⟩ := H; go_enter Tryz.func85, Tryz.ntmps85; go_wp2
   all_goals (try (exfalso; rename_i h_; rw [c3b2] at h_; revert h_; decide))
   all_goals (try (exfalso; rename_i h_; rw [c4b2] at h_; revert h_; decide))
   go_ret2
   exact ⟨eK, by repeat (first | exact Drawn0.refl _ | apply Drawn0.step)⟩
 ·rw [if_neg c3] at H
  (have c3b0 : ((decide (a0 < 0)) != (decide (a1 < 0))) = false := by simpa using c3); (try (have c3b1 : decide ((decide (a0 < 0)) = (decide (a1 < 0))) = true := by (revert c3; generalize ((decide (a0 < 0))) = p_; generalize ((decide (a1 < 0))) = q_; revert p_ q_; decide))); (try (have c3b2 : ((decide (a0 < 0)) == (decide (a1 < 0))) = true := by (revert c3; generalize ((decide (a0 < 0))) = p_; generalize ((decide (a1 < 0))) = q_; revert p_ q_; decide))); clear c3; simp only [Option.some.injEq, Prod.mk.injEq] at H; obtain ⟨rfl, rfl⟩ := H; go_enter Tryz.func85, Tryz.ntmps85; go_wp2
  all_goals (try (exfalso; rename_i h_; rw [c3b2] at h_; revert h_; decide))
  go_ret2
  exact ⟨eK, by repeat (first | exact Drawn0.refl _ | apply Drawn0.step)⟩

end Go.Proofs.YtnkckdbjeemjeaaGreatDoor.X
