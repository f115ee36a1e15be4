-- PRINTED by print.py (a twelfth state) out of the translation. Not trusted: Lean checks it.
import Derived.Test.YtnkckdbjeemjeaaDoorXx0
import Derived.Test.YtnkckdbjeemjeaaDoorXx3
namespace Go.Proofs.YtnkckdbjeemjeaaDoor.X
open Go.Proofs.YtnkckdbjeemjeaaDoor.Flt Go.Proofs.YtnkckdbjeemjeaaDoor.H Go.RowKit Go.Proofs.YtnkckdbjeemjeaaDoorW.PrintWords Go.Proofs.YtnkckdbjeemjeaaDoorW.PrintLast Go.Proofs.YtnkckdbjeemjeaaDoorW.PrintMore
attribute [local go_sem] max2_int min2_int max_two min_two max_three min_three max_four min_four   -- for this text's walks alone
set_option linter.unusedVariables false
set_option linter.unusedSimpArgs false

/-! ### lift_Names: function 15 -/
mutual
def lift_Names.j0 : Nat → List ByteArray → Bool → Int → Int → ByteArray → List (S26) → Option (List ByteArray)
 | 0, _, _, _, _, _, _ => none
 | k + 1, x3, x15, x250000, x250001, x250002, x250003 => if x15 = true then (if x3.length < 8796093022208 then (lift_Names.j1 k (x3 ++ [x250002]) x250000 x250001 x250002 x250003) else (none)) else (lift_Names.j1 k x3 x250000 x250001 x250002 x250003)
def lift_Names.j1 : Nat → List ByteArray → Int → Int → ByteArray → List (S26) → Option (List ByteArray)
 | 0, _, _, _, _, _ => none
 | k + 1, x3, x250000, x250001, x250002, x250003 => lift_Names.l0 k x3 x250003 (x250003.length : Int) 0
def lift_Names.l0 : Nat → List ByteArray → List (S26) → Int → Int → Option (List ByteArray)
 | 0, _, _, _, _ => none
 | k + 1, x3, x22, x23, x24 => if x24 < x23 then (if 0 ≤ x24 then (if x24 < (x22.length : Int) then ((lift_Names.f k ((rd_T26 x22 x24).f0) ((rd_T26 x22 x24).f1) ((rd_T26 x22 x24).f2) ((rd_T26 x22 x24).f3)).bind fun t255 => (lift_Names.l1 k x3 x22 x23 x24 t255 (t255.length : Int) 0)) else (none)) else (none)) else (some x3)
def lift_Names.l1 : Nat → List ByteArray → List (S26) → Int → Int → List ByteArray → Int → Int → Option (List ByteArray)
 | 0, _, _, _, _, _, _, _ => none
 | k + 1, x3, x22, x23, x24, x29, x30, x31 => if x31 < x30 then (if 0 ≤ x31 then (if x31 < (x29.length : Int) then ((slices_Contains_string_string.f k x3 (rdOf ByteArray.empty x29 x31)).bind fun t259 => (if t259 = true then (lift_Names.l1 k x3 x22 x23 x24 x29 x30 (wrap64 (x31 + 1))) else (if x3.length < 8796093022208 then (lift_Names.l1 k (x3 ++ [rdOf ByteArray.empty x29 x31]) x22 x23 x24 x29 x30 (wrap64 (x31 + 1))) else (none)))) else (none)) else (none)) else (lift_Names.l0 k x3 x22 x23 (wrap64 (x24 + 1)))
def lift_Names.f : Nat → Int → Int → ByteArray → List (S26) → Option (List ByteArray)
 | 0, _, _, _, _ => none
 | k + 1, a0_0, a0_1, a0_2, l0_3 => if a0_0 = 2 then (lift_Names.j0 k ([] : List ByteArray) true a0_0 a0_1 a0_2 l0_3) else (lift_Names.j0 k ([] : List ByteArray) (a0_0 == 3) a0_0 a0_1 a0_2 l0_3)
end
theorem lift_Names.mono_l : ∀ k, (∀ y0 y1 y2 y3, LeO (lift_Names.f k y0 y1 y2 y3) (lift_Names.f (k + 1) y0 y1 y2 y3)) ∧ (∀ y0 y1 y2 y3 y4 y5, LeO (lift_Names.j0 k y0 y1 y2 y3 y4 y5) (lift_Names.j0 (k + 1) y0 y1 y2 y3 y4 y5)) ∧ (∀ y0 y1 y2 y3 y4, LeO (lift_Names.j1 k y0 y1 y2 y3 y4) (lift_Names.j1 (k + 1) y0 y1 y2 y3 y4)) ∧ (∀ y0 y1 y2 y3, LeO (lift_Names.l0 k y0 y1 y2 y3) (lift_Names.l0 (k + 1) y0 y1 y2 y3)) ∧ (∀ y0 y1 y2 y3 y4 y5 y6, LeO (lift_Names.l1 k y0 y1 y2 y3 y4 y5 y6) (lift_Names.l1 (k + 1) y0 y1 y2 y3 y4 y5 y6))
 | 0 => by refine ⟨?_, ?_, ?_, ?_, ?_⟩ <;> intros <;> exact fun r h => by simp [lift_Names.f, lift_Names.j0, lift_Names.j1, lift_Names.l0, lift_Names.l1] at h
 | k + 1 => by
  obtain ⟨i0_, i1_, i2_, i3_, i4_⟩ := lift_Names.mono_l k; have m0_ := @slices_Contains_string_string.mono; refine ⟨?_, ?_, ?_, ?_, ?_⟩ <;> intros
  ·unfold lift_Names.f; exact lO_
  ·unfold lift_Names.j0; exact lO_
  ·unfold lift_Names.j1; exact lO_
  ·unfold lift_Names.l0; exact lO_
  ·unfold lift_Names.l1; exact lO_
theorem lift_Names.mono : ∀ a0 a1 a2 a3 k, LeO (lift_Names.f k a0 a1 a2 a3) (lift_Names.f (k + 1) a0 a1 a2 a3) := by
 intro a0 a1 a2 a3 k
 obtain ⟨ih0, ih1, ih2, ih3, ih4⟩ := lift_Names.mono_l k
 exact ih0 a0 a1 a2 a3
set_option maxHeartbeats 8000000 in
set_option maxRecDepth 100000 in
theorem lift_Names.calls (k : Nat) : ∀ (a0_0 : Int) (a0_1 : Int) (a0_2 : ByteArray) (A0_3 : Option Addr) (c0_3 : Nat) (l0_3 : List (S26)) (r : List ByteArray) (w : World) (hr0_3 : Kd.C k26 w A0_3 l0_3.length l0_3) (hc0_3 : l0_3.length ≤ c0_3) (h : lift_Names.f k a0_0 a0_1 a0_2 l0_3 = some r),
  Calls Tryd.prog 15 #[.agg #[.int .i64 a0_0, .int .i64 a0_1, .string a0_2, .slice A0_3 l0_3.length c0_3]] w fun e w' => ∃ v0_ : Value, e = .returned (v0_) ∧ Kd.R Kd.string 9 w' w.heap.size (fun _ => True) v0_ r ∧ Below w.heap.size w w' := by
 induction k using Nat.strongRecOn with
 | _ k ih =>
 intro a0_0 a0_1 a0_2 A0_3 c0_3 l0_3 r w hr0_3 hc0_3 h
 cases k with
 | zero => exact absurd h (by simp [lift_Names.f])
 | succ k =>
 simp only [lift_Names.f] at h
 have hu26 := Tryd.underlying26
 have bx := mk0 hr0_3
 have cg := mk0 hc0_3
 clear hr0_3 hc0_3
 have HB := mk0 (Below.refl w.heap.size w)
 have H : (if a0_0 = 2 then (lift_Names.j0 k ([] : List ByteArray) true a0_0 a0_1 a0_2 l0_3) else (lift_Names.j0 k ([] : List ByteArray) (a0_0 == 3) a0_0 a0_1 a0_2 l0_3)) = some r := h
 clear h
 have aJ := mk0 H
 clear H
 go_enter Tryd.func15, Tryd.ntmps15
 go_upto_region 2 with (first | ((with_reducible refine gate_dst (N := 1) rfl ?_); refine bxE 1 #[.int .i64 a0_0, .int .i64 a0_1, .string a0_2, .slice A0_3 l0_3.length c0_3] 26 ?_; intro au hg w3 hbox hb; have ab := mk0 (hbox); have ch := gE (uL HB.out) hg; replace HB := hbB (uL HB.out) hb; clear hb hbox hg))
 (try simp only [AP])
 go_cut [15] (fun v15 wc => ∃ (kq : Nat) (aA : Bool), v15 = .bool aA ∧ Aside0 (lift_Names.j0 kq ([] : List ByteArray) aA a0_0 a0_1 a0_2 l0_3 = some r) ∧ Aside0 (kq ≤ k) ∧ Aside0 (Kd.R Kd.string 9 wc w.heap.size (fun _ => True) (.slice none 0 0) ([] : List ByteArray)) ∧ Aside0 (wc.heap[au]? = some (.cells #[.int .i64 a0_0, .int .i64 a0_1, .string a0_2, (.slice A0_3 l0_3.length c0_3)] 26 (0, 0))) ∧ Aside0 (Below w.heap.size w wc))
 case first =>
  have H := aJ.out; clear aJ
  by_cases c4 : a0_0 = 2
  ·rw [if_pos c4] at H
   obtain ⟨av, bz⟩ := yQ c4; clear c4; (first | rw [av] | (simp only [i64_w, i32_w]; rw [av]) | skip); have H' := mk0 H; clear H; obtain ⟨ci, cj, ck, cl, cm, cn, cp, cq⟩ := cL4 ab; go_wp2
   go_meet
   case rel => exact ⟨_, (true), eK, H', ⟨by first | omega | exact Nat.le_refl _⟩, ⟨nK⟩, ⟨uB ab.out⟩, ⟨bH⟩⟩
  ·rw [if_neg c4] at H
   obtain ⟨av, bz⟩ := nQ c4; (first | rw [av] | (simp only [i64_w, i32_w]; rw [av]) | skip); have H' := mk0 H; clear H; obtain ⟨cr, ct, cu, cv, cw, cx, cy, cz⟩ := cL4 ab; go_wp2
   go_meet
   case rel => exact ⟨_, ((a0_0 == 3)), eK, H', ⟨by first | omega | exact Nat.le_refl _⟩, ⟨nK⟩, ⟨uB ab.out⟩, ⟨bH⟩⟩
 case rest =>
  clear aJ; obtain ⟨kq, aA, rfl, HA, ai, ac, ab, HB⟩ := hcut
  cases kq with
  | zero => exact absurd HA.out (by simp [lift_Names.j0])
  | succ kj1 =>
   have H := HA.out; clear HA; simp only [lift_Names.j0] at H; have aK := mk0 H; clear H
   go_upto_if 15 with (fail)
   go_cut [3] (fun v3 wc => ∃ (kq : Nat) (x3_6 : List ByteArray), Aside0 (lift_Names.j1 kq x3_6 a0_0 a0_1 a0_2 l0_3 = some r) ∧ Aside0 (kq ≤ kj1) ∧ Aside0 (Kd.R Kd.string 9 wc w.heap.size (fun _ => True) v3 x3_6) ∧ Aside0 (wc.heap[au]? = some (.cells #[.int .i64 a0_0, .int .i64 a0_1, .string a0_2, (.slice A0_3 l0_3.length c0_3)] 26 (0, 0))) ∧ Aside0 (Below w.heap.size w wc))
   case first =>
    have H := aK.out; clear aK
    by_cases c8 : aA = true
    ·subst c8
     replace H := iT H
     by_cases c9 : ([] : List ByteArray).length < 8796093022208
     ·rw [if_pos c9] at H
      have bC := mk0 c9; clear c9; obtain ⟨aY, aM⟩ : ∃ y_ : List ByteArray, y_ = (([] : List ByteArray) ++ [a0_2]) := ⟨_, rfl⟩; (replace H : (lift_Names.j1 kj1 aY a0_0 a0_1 a0_2 l0_3) = some r := by (try rw [aM]); first | with_reducible exact H | with_reducible exact oN H | exact H); have bE := mk0 aM; clear aM; have H' := mk0 H; clear H; obtain ⟨cA, cD, cE, cF, cG, cH, cI, cJ⟩ := cL4 ab
      go_wp2_with (first | ((with_reducible refine gate_builtin (b := .append) (xs := #[.tmp 16, .tmp 19]) rfl ?_); at_builtin; refine Kd.R_append Kd.string (w0 := w) w.heap.size rfl (.tmp 16) (.tmp 19) 37 9 (.string ⟨#[]⟩) 16 rfl Tryd.underlying37 info9 rfl (by decide) (by omega) (.slice none 0 0) ([] : List ByteArray) a0_2 [.string a0_2] (fun _ => True) (fun _ => False) rfl rfl ?aP (fun _ hk => hk.elim) ?aF ?aO ?aB ?aS ?aL ?_; (case aP => exact rfl); (case aB => exact bH); (case aF => exact (fun _ _ => trivial)); (case aO => exact (uR ac.out)); (case aS => exact (below_size bH)); (case aL => have := bC.out; omega); intro cK cL ho hb hg hat; rw [← bE.out] at ho; have n0_ := (gB ab hg (Kd.R_ne ac.out ab.out (by decide))); have n1_ := mk0 (hb); have n2_ := mk0 (ho); clear ab HB ac; have ab := n0_; have HB := n1_; have bF := n2_; clear n0_ n1_ n2_; clear ho hb hg hat))
      go_meet
      case rel => exact ⟨_, (aY), H', ⟨by have := ai.out; first | omega | exact Nat.le_refl _⟩, ⟨uR bF.out⟩, ⟨uB ab.out⟩, ⟨bH⟩⟩
     ·exact nO H c9
    ·replace c8 := Bool.eq_false_iff.mpr c8
     subst c8; replace H := iF H; have H' := mk0 H; clear H; go_wp2
     go_meet
     case rel => exact ⟨_, (([] : List ByteArray)), H', ⟨by have := ai.out; first | omega | exact Nat.le_refl _⟩, ⟨uR ac.out⟩, ⟨uB ab.out⟩, ⟨bH⟩⟩
   case rest =>
    clear aK; obtain ⟨kq, x3_6, HA, ak, ac, ab, HB⟩ := hcut
    cases kq with
    | zero => exact absurd HA.out (by simp [lift_Names.j1])
    | succ kj6 =>
     have H := HA.out; clear HA; simp only [lift_Names.j1] at H; have H' := mk0 H; clear H; obtain ⟨aZ, a_, bf, bg, bh, bi, bj, bk⟩ := cL4 ab; go_wp2
     go_loopg [3, 24] kj6 (fun kq v3 v24 w' => ∃ (x3_3 : List ByteArray) (aa : Int), v24 = .int .i64 aa ∧ Aside0 (lift_Names.l0 kq x3_3 l0_3 (l0_3.length : Int) aa = some r) ∧ Aside0 (kq ≤ kj6) ∧ Aside0 (Kd.R Kd.string 9 w' w.heap.size (fun _ => True) v3 x3_3) ∧ Aside0 (w'.heap[au]? = some (.cells #[.int .i64 a0_0, .int .i64 a0_1, .string a0_2, (.slice A0_3 l0_3.length c0_3)] 26 (0, 0))) ∧ Aside0 (Below w.heap.size w w'))
     case atStart => exact ⟨(x3_6), (0), eK, H', ⟨Nat.le_refl _⟩, ⟨uR ac.out⟩, ⟨uB ab.out⟩, ⟨bH⟩⟩
     case round =>
      clear H'; (try clear aZ a_ bf bg bh bi bj bk); obtain ⟨x3_3, aa, rfl, HA, al, ac, ab, HB⟩ := hrel
      cases gk with
      | zero => exact absurd HA.out (by simp [lift_Names.l0])
      | succ k3 =>
       have H := HA.out; clear HA; simp only [lift_Names.l0] at H
       by_cases am : aa < (l0_3.length : Int)
       ·rw [if_pos am] at H
        have bl := decide_eq_true am; clear am
        by_cases aw : 0 ≤ aa
        ·rw [if_pos aw] at H
         have bG := decide_eq_true aw; clear aw
         by_cases ax : aa < (l0_3.length : Int)
         ·rw [if_pos ax] at H
          have bI := decide_eq_true ax; clear ax; obtain ⟨af, bJ, H⟩ := oB H; have H' := mk0 H; clear H; have aC : 0 ≤ (aa : Int) := dY; have aD : aa < (l0_3.length : Int) := dY; obtain ⟨bm, ay, az, bK, aN, aQ, aT, aU, bn, bo⟩ := at_T26 bx.out aa aC aD
          cases bK
          replace aN := oC HB aN; replace aQ := oC HB aQ; replace aT := oC HB aT; replace aU := oC HB aU; have bL := mk0 bo; have bM := mk0 bn; clear bo bn; replace aC := eq_true aC; replace aD := eq_true aD
          go_wp2_with (first | ((with_reducible refine gate_dst (N := 5) rfl ?_); refine bxE 5 #[.int .i64 0, .int .i64 0, .string (⟨#[]⟩ : ByteArray), .slice none 0 0] 26 ?_; intro ah hg cM hbox hb; replace ac := rB ac hb; have ag := mk0 (hbox); have cN := gE bH hg; replace HB := hbB bH hb; have bO := nL ab hg; have bP := nG ab hg; replace ab := bB ab hb; clear hb hbox hg; have cO := bP.out; have cP := bO.out; obtain ⟨bQ, bR, bT, bU, bV, bW, bX, bY⟩ := cL4 ag) | ((with_reducible refine gate_dst (N := 29) rfl ?_); refine gsM (some 29) Tryd.func15 #[.agg #[.int .i64 ((rd_T26 l0_3 aa).f0), .int .i64 ((rd_T26 l0_3 aa).f1), .string ((rd_T26 l0_3 aa).f2), .slice ay ((rd_T26 l0_3 aa).f3).length az]] ?_; (with_reducible refine (ih k3 (by have := ai.out; have := ak.out; have := al.out; omega) ((rd_T26 l0_3 aa).f0) ((rd_T26 l0_3 aa).f1) ((rd_T26 l0_3 aa).f2) _ _ ((rd_T26 l0_3 aa).f3) af _ ?side1 ?side2 bJ.out).mono ?_); (case side1 => exact Kd.C_below bL.out bH); (case side2 => exact bM.out); rintro e cR ⟨cS, rfl, ho0, hb⟩; refine ⟨_, rfl, ?_⟩; have bp := mk0 (Kd.R_lower (Kd.R_new' ho0 (Kd.R_lt (uR (Kd.R_mono (Kd.R_far (p := ⟨ah, 3, none⟩) (Kd.R_far (p := ⟨ah, 2, none⟩) (Kd.R_far (p := ⟨ah, 1, none⟩) (Kd.R_far (p := ⟨ah, 0, none⟩) (Kd.R_types ac.out ag.out (by decide)) (fun _ hk => hk.2) (.int .i64 ((rd_T26 l0_3 aa).f0))) (fun _ hk => hk.2) (.int .i64 ((rd_T26 l0_3 aa).f1))) (fun _ hk => hk.2) (.string ((rd_T26 l0_3 aa).f2))) (fun _ hk => hk.2) (.slice ay ((rd_T26 l0_3 aa).f3).length az)) (fun _ h_ => h_.1))))) (below_size bH)); replace ac := mk0 (Kd.R_elder' (uR (Kd.R_mono (Kd.R_far (p := ⟨ah, 3, none⟩) (Kd.R_far (p := ⟨ah, 2, none⟩) (Kd.R_far (p := ⟨ah, 1, none⟩) (Kd.R_far (p := ⟨ah, 0, none⟩) (Kd.R_types ac.out ag.out (by decide)) (fun _ hk => hk.2) (.int .i64 ((rd_T26 l0_3 aa).f0))) (fun _ hk => hk.2) (.int .i64 ((rd_T26 l0_3 aa).f1))) (fun _ hk => hk.2) (.string ((rd_T26 l0_3 aa).f2))) (fun _ hk => hk.2) (.slice ay ((rd_T26 l0_3 aa).f3).length az)) (fun _ h_ => h_.1))) (Kd.R_base ho0) hb); replace ab := mk0 (blk_below (g := au) (o := .cells #[.int .i64 a0_0, .int .i64 a0_1, .string a0_2, .slice (some bm) l0_3.length c0_3] 26 (0, 0)) (kB) hb); replace ag := mk0 (blk_below (g := ah) (o := .cells #[.int .i64 ((rd_T26 l0_3 aa).f0), .int .i64 ((rd_T26 l0_3 aa).f1), .string ((rd_T26 l0_3 aa).f2), .slice ay ((rd_T26 l0_3 aa).f3).length az] 26 (0, 0)) (kB) hb); replace HB := hbB bH hb; (try clear hb hk ho0); obtain ⟨bq, aV, bZ⟩ := Kd.R_slice bp.out; subst bZ))
          go_loopg [3, 31] k3 (fun kq v3 v31 w' => ∃ (x3_4 : List ByteArray) (ae : Int), v31 = .int .i64 ae ∧ Aside0 (lift_Names.l1 kq x3_4 l0_3 (l0_3.length : Int) aa af (af.length : Int) ae = some r) ∧ Aside0 (kq ≤ k3) ∧ Aside0 (Kd.R Kd.string 9 w' w.heap.size (fun k_ => some k_ ≠ ((.slice bq af.length aV) : Value).ownBlock) v3 x3_4) ∧ Aside0 (Kd.R Kd.string 9 w' w.heap.size (fun k_ => some k_ ≠ (v3 : Value).ownBlock) (.slice bq af.length aV) af) ∧ Aside0 (w'.heap[au]? = some (.cells #[.int .i64 a0_0, .int .i64 a0_1, .string a0_2, (.slice (some bm) l0_3.length c0_3)] 26 (0, 0))) ∧ Aside0 (w'.heap[ah]? = some (.cells #[.int .i64 ((rd_T26 l0_3 aa).f0), .int .i64 ((rd_T26 l0_3 aa).f1), .string ((rd_T26 l0_3 aa).f2), (.slice ay ((rd_T26 l0_3 aa).f3).length az)] 26 (0, 0))) ∧ Aside0 (Below w.heap.size w w'))
          case atStart => exact ⟨(x3_3), (0), eK, H', ⟨Nat.le_refl _⟩, ⟨uR (Kd.R_mono ac.out (fun _ hk => hk.2))⟩, ⟨uR (Kd.R_mono bp.out (fun _ hk => hk.2))⟩, ⟨uB ab.out⟩, ⟨uB ag.out⟩, ⟨bH⟩⟩
          case round =>
           clear H'; (try clear am bl aw bG ax bI aZ a_ bf bg bQ bR bT bU bh bi bj bk bV bW bX bY aN aQ aT aU aC aD); obtain ⟨x3_4, ae, rfl, HA, aq, ac, aj, ab, ag, HB⟩ := hrel
           cases gk with
           | zero => exact absurd HA.out (by simp [lift_Names.l1])
           | succ k4 =>
            have H := HA.out; clear HA; simp only [lift_Names.l1] at H
            by_cases ar : ae < (af.length : Int)
            ·rw [if_pos ar] at H
             have b3 := decide_eq_true ar; clear ar
             by_cases aE : 0 ≤ ae
             ·rw [if_pos aE] at H
              have cT := decide_eq_true aE; clear aE
              by_cases aG : ae < (af.length : Int)
              ·rw [if_pos aG] at H
               have cU := decide_eq_true aG; clear aG; obtain ⟨b4, br, H⟩ := oB H
               by_cases aH : b4 = true
               ·subst aH
                replace H := iT H; have H' := mk0 H; clear H; have ao : 0 ≤ (ae : Int) := dY; have ap : ae < (af.length : Int) := dY; obtain ⟨bs, aW, b5⟩ := Kd.at_string (Kd.R_reads' aj.out).2.2 ae ao ap
                cases aW
                replace ao := eq_true ao; replace ap := eq_true ap; obtain ⟨b6, b7, b8⟩ := Kd.R_slice ac.out; subst b8
                go_wp2_with (first | ((with_reducible refine gate_dst (N := 37) rfl ?_); refine gsM (some 37) Tryd.func22 #[.slice b6 x3_4.length b7, .string (rdOf ByteArray.empty af ae)] ?_; (with_reducible refine (slices_Contains_string_string.calls k4 _ _ x3_4 (rdOf ByteArray.empty af ae) true _ ?side1 ?side2 br.out).mono ?_); (case side1 => exact uC ((Kd.R_reads' ac.out).2.2)); (case side2 => exact (Kd.R_reads' ac.out).2.1); rintro e w' ⟨rfl, ⟨nd, rfl⟩⟩; refine ⟨_, rfl, ?_⟩))
                go_roundg k4
                case measure => have := ai.out; have := ak.out; have := al.out; have := aq.out; omega
                case rel => exact ⟨(x3_4), (wrap64 (ae + 1)), eK, H', ⟨by have := ai.out; have := ak.out; have := al.out; have := aq.out; omega⟩, ⟨uR ac.out⟩, ⟨uR aj.out⟩, ⟨uB ab.out⟩, ⟨uB ag.out⟩, ⟨bH⟩⟩
               ·replace aH := Bool.eq_false_iff.mpr aH
                subst aH; replace H := iF H
                by_cases aI : x3_4.length < 8796093022208
                ·rw [if_pos aI] at H
                 have b9 := mk0 aI; clear aI; obtain ⟨bu, aX⟩ : ∃ y_ : List ByteArray, y_ = (x3_4 ++ [rdOf ByteArray.empty af ae]) := ⟨_, rfl⟩; (replace H : (lift_Names.l1 k4 bu l0_3 (l0_3.length : Int) aa af (af.length : Int) (wrap64 (ae + 1))) = some r := by (try rw [aX]); first | with_reducible exact H | with_reducible exact oN H | exact H); have cd := mk0 aX; clear aX; have H' := mk0 H; clear H; have ao : 0 ≤ (ae : Int) := dY; have ap : ae < (af.length : Int) := dY; obtain ⟨bs, aW, b5⟩ := Kd.at_string (Kd.R_reads' aj.out).2.2 ae ao ap
                 cases aW
                 replace ao := eq_true ao; replace ap := eq_true ap; obtain ⟨bv, bw, ce⟩ := Kd.R_slice ac.out; subst ce
                 go_wp2_with (first | ((with_reducible refine gate_dst (N := 37) rfl ?_); refine gsM (some 37) Tryd.func22 #[.slice bv x3_4.length bw, .string (rdOf ByteArray.empty af ae)] ?_; (with_reducible refine (slices_Contains_string_string.calls k4 _ _ x3_4 (rdOf ByteArray.empty af ae) false _ ?side1 ?side2 br.out).mono ?_); (case side1 => exact uC ((Kd.R_reads' ac.out).2.2)); (case side2 => exact (Kd.R_reads' ac.out).2.1); rintro e w' ⟨rfl, ⟨nd, rfl⟩⟩; refine ⟨_, rfl, ?_⟩) | ((with_reducible refine gate_builtin (b := .append) (xs := #[.tmp 39, .tmp 41]) rfl ?_); at_builtin; refine Kd.R_append Kd.string (w0 := w) w.heap.size rfl (.tmp 39) (.tmp 41) 37 9 (.string ⟨#[]⟩) 16 rfl Tryd.underlying37 info9 rfl (by decide) (by omega) (.slice bv x3_4.length bw) x3_4 (rdOf ByteArray.empty af ae) [.string (rdOf ByteArray.empty af ae)] (fun k_ => some k_ ≠ (.slice (some bs) af.length aV : Value).ownBlock) (fun _ => False) rfl rfl ?aP (fun _ hk => hk.elim) ?aF ?aO ?aB ?aS ?aL ?_; (case aP => exact rfl); (case aB => exact bH); (case aF => exact (fun k_ hk => Kd.fresh' (Kd.R_lt (uR aj.out)) k_ hk)); (case aO => exact (uR ac.out)); (case aS => exact (below_size bH)); (case aL => have := b9.out; omega); intro cV cW ho hb hg hat; rw [← cd.out] at ho; have n0_ := mk0 (Kd.R_after (ok := (fun _ => True)) (uR (Kd.R_mono aj.out (fun _ hk => ⟨trivial, hk⟩))) hg hat); have n1_ := (gB ab hg (Kd.R_ne ac.out ab.out (by decide))); have n2_ := (gB ag hg (Kd.R_ne ac.out ag.out (by decide))); have n3_ := mk0 (hb); have n4_ := mk0 (ho); clear aj ab ag HB ac; have aj := n0_; have ab := n1_; have ag := n2_; have HB := n3_; have cf := n4_; clear n0_ n1_ n2_ n3_ n4_; clear ho hb hg hat))
                 go_roundg k4
                 case measure => have := ai.out; have := ak.out; have := al.out; have := aq.out; omega
                 case rel => exact ⟨(bu), (wrap64 (ae + 1)), eK, H', ⟨by have := ai.out; have := ak.out; have := al.out; have := aq.out; omega⟩, ⟨uR cf.out⟩, ⟨uR (Kd.R_mono aj.out (fun _ hk => hk.2))⟩, ⟨uB ab.out⟩, ⟨uB ag.out⟩, ⟨bH⟩⟩
                ·exact nO H aI
              ·exact nO H aG
             ·exact nO H aE
            ·rw [if_neg ar] at H
             have b3 := decide_eq_false ar; clear ar; have H' := mk0 H; clear H; go_wp2
             go_roundg k4
             case measure => have := ai.out; have := ak.out; have := al.out; have := aq.out; omega
             case rel => exact ⟨(x3_4), (wrap64 (aa + 1)), eK, H', ⟨by have := ai.out; have := ak.out; have := al.out; have := aq.out; omega⟩, ⟨uR (Kd.R_mono ac.out (fun _ hk => trivial))⟩, ⟨uB ab.out⟩, ⟨bH⟩⟩
         ·exact nO H ax
        ·exact nO H aw
       ·rw [if_neg am] at H
        have bl := decide_eq_false am; clear am; obtain rfl := Option.some.inj H; go_wp2; go_ret; exact ⟨_, rE, uR ac.out, bH⟩

end Go.Proofs.YtnkckdbjeemjeaaDoor.X
