-- PRINTED by print.py (a twelfth state) out of the translation. Not trusted: Lean checks it.
import Derived.Test.YtmhkijidnpihmaaDoorXx0
import Derived.Test.YtmhkijidnpihmaaDoorXx11
namespace Go.Proofs.YtmhkijidnpihmaaDoor.X
open Go.Proofs.YtmhkijidnpihmaaDoor.Flt Go.Proofs.YtmhkijidnpihmaaDoor.H Go.RowKit Go.Proofs.YtmhkijidnpihmaaDoorW.PrintWords Go.Proofs.YtmhkijidnpihmaaDoorW.PrintLast Go.Proofs.YtmhkijidnpihmaaDoorW.PrintMore
attribute [local go_sem] max2_int min2_int max_two min_two max_three min_three max_four min_four   -- for this text's walks alone
set_option linter.unusedVariables false
set_option linter.unusedSimpArgs false

/-! ### furrowlaw9_right: function 12 -/
mutual
def furrowlaw9_right.j0 : Nat → Bool → List (S71) → Int → Int → Int → ByteArray → List (S33) → Option (Bool)
 | 0, _, _, _, _, _, _, _ => none
 | k + 1, x15, x303000, x303001, x304000, x304001, x304002, x304003 => if x15 = true then ((furrowref10_Table_Find.f k x303000 x303001 x304002).bind fun bt304 => (if bt304.2.2.2.2 = true then (if (bt304.2.1.length : Int) = (x304003.length : Int) then (furrowlaw9_right.j1 k x303000 x303001 x304000 x304001 x304002 x304003) else (some false)) else (some false))) else (furrowlaw9_right.j1 k x303000 x303001 x304000 x304001 x304002 x304003)
def furrowlaw9_right.j1 : Nat → List (S71) → Int → Int → Int → ByteArray → List (S33) → Option (Bool)
 | 0, _, _, _, _, _, _ => none
 | k + 1, x303000, x303001, x304000, x304001, x304002, x304003 => furrowlaw9_right.l0 k 0 x303000 x303001 x304000 x304001 x304002 x304003
def furrowlaw9_right.l0 : Nat → Int → List (S71) → Int → Int → Int → ByteArray → List (S33) → Option (Bool)
 | 0, _, _, _, _, _, _, _ => none
 | k + 1, x7, x303000, x303001, x304000, x304001, x304002, x304003 => if x7 < (x304003.length : Int) then (if 0 ≤ x7 then ((furrowlaw9_right.f k x303000 x303001 ((rd_T33 x304003 x7).f0) ((rd_T33 x304003 x7).f1) ((rd_T33 x304003 x7).f2) ((rd_T33 x304003 x7).f3)).bind fun t313 => (if t313 = true then (furrowlaw9_right.l0 k (wrap64 (x7 + 1)) x303000 x303001 x304000 x304001 x304002 x304003) else (some false))) else (none)) else (some true)
def furrowlaw9_right.f : Nat → List (S71) → Int → Int → Int → ByteArray → List (S33) → Option (Bool)
 | 0, _, _, _, _, _, _ => none
 | k + 1, l0_0, a0_1, a1_0, a1_1, a1_2, l1_3 => if a1_0 = 2 then (furrowlaw9_right.j0 k true l0_0 a0_1 a1_0 a1_1 a1_2 l1_3) else (furrowlaw9_right.j0 k (a1_0 == 3) l0_0 a0_1 a1_0 a1_1 a1_2 l1_3)
end
theorem furrowlaw9_right.mono_l : ∀ k, (∀ y0 y1 y2 y3 y4 y5, LeO (furrowlaw9_right.f k y0 y1 y2 y3 y4 y5) (furrowlaw9_right.f (k + 1) y0 y1 y2 y3 y4 y5)) ∧ (∀ y0 y1 y2 y3 y4 y5 y6, LeO (furrowlaw9_right.j0 k y0 y1 y2 y3 y4 y5 y6) (furrowlaw9_right.j0 (k + 1) y0 y1 y2 y3 y4 y5 y6)) ∧ (∀ y0 y1 y2 y3 y4 y5, LeO (furrowlaw9_right.j1 k y0 y1 y2 y3 y4 y5) (furrowlaw9_right.j1 (k + 1) y0 y1 y2 y3 y4 y5)) ∧ (∀ y0 y1 y2 y3 y4 y5 y6, LeO (furrowlaw9_right.l0 k y0 y1 y2 y3 y4 y5 y6) (furrowlaw9_right.l0 (k + 1) y0 y1 y2 y3 y4 y5 y6))
 | 0 => by refine ⟨?_, ?_, ?_, ?_⟩ <;> intros <;> exact fun r h => by simp [furrowlaw9_right.f, furrowlaw9_right.j0, furrowlaw9_right.j1, furrowlaw9_right.l0] at h
 | k + 1 => by
  obtain ⟨i0_, i1_, i2_, i3_⟩ := furrowlaw9_right.mono_l k; have m0_ := @furrowref10_Table_Find.mono; refine ⟨?_, ?_, ?_, ?_⟩ <;> intros
  ·unfold furrowlaw9_right.f; exact lO_
  ·unfold furrowlaw9_right.j0; exact lO_
  ·unfold furrowlaw9_right.j1; exact lO_
  ·unfold furrowlaw9_right.l0; exact lO_
theorem furrowlaw9_right.mono : ∀ a0 a1 a2 a3 a4 a5 k, LeO (furrowlaw9_right.f k a0 a1 a2 a3 a4 a5) (furrowlaw9_right.f (k + 1) a0 a1 a2 a3 a4 a5) := by
 intro a0 a1 a2 a3 a4 a5 k
 obtain ⟨ih0, ih1, ih2, ih3⟩ := furrowlaw9_right.mono_l k
 exact ih0 a0 a1 a2 a3 a4 a5
def furrowlaw9_right.T8 : Bool × List (List Nat × List Nat) := (true, [([], []), ([], []), ([1], [1]), ([], []), ([2, 3], [2, 3]), ([4], [4]), ([0, 5], [0, 5]), ([6], [6])])
def furrowlaw9_right.B8 : List Nat := [0, 0, 2, 0, 14, 30, 63, 127]
theorem furrowlaw9_right.tab8 : rtab .any (opsOf Tryd.f12 8) = furrowlaw9_right.T8 := by kernel_rfl
theorem furrowlaw9_right.bits8 : waitsOk furrowlaw9_right.T8.2 furrowlaw9_right.B8 = true := by kernel_rfl
set_option maxHeartbeats 8000000 in
set_option maxRecDepth 100000 in
theorem furrowlaw9_right.calls (k : Nat) : ∀ (A0_0 : Option Addr) (c0_0 : Nat) (l0_0 : List (S71)) (a0_1 : Int) (a1_0 : Int) (a1_1 : Int) (a1_2 : ByteArray) (A1_3 : Option Addr) (c1_3 : Nat) (l1_3 : List (S33)) (r : Bool) (w : World) (hr0_0 : Kd.C k71 w A0_0 l0_0.length l0_0) (hc0_0 : l0_0.length ≤ c0_0) (hr1_3 : Kd.C k33 w A1_3 l1_3.length l1_3) (hc1_3 : l1_3.length ≤ c1_3) (h : furrowlaw9_right.f k l0_0 a0_1 a1_0 a1_1 a1_2 l1_3 = some r),
  Calls Tryd.prog 12 #[.agg #[.slice A0_0 l0_0.length c0_0, .int .i64 a0_1], .agg #[.int .i64 a1_0, .int .i64 a1_1, .string a1_2, .slice A1_3 l1_3.length c1_3]] w fun e w' => e = .returned (.bool r) ∧ Below w.heap.size w w' := by
 induction k using Nat.strongRecOn with
 | _ k ih =>
 intro A0_0 c0_0 l0_0 a0_1 a1_0 a1_1 a1_2 A1_3 c1_3 l1_3 r w hr0_0 hc0_0 hr1_3 hc1_3 h
 cases k with
 | zero => exact absurd h (by simp [furrowlaw9_right.f])
 | succ k =>
 simp only [furrowlaw9_right.f] at h
 have hu29 := Tryd.underlying29
 have hu33 := Tryd.underlying33
 have hu71 := Tryd.underlying71
 have aw := mk0 hr0_0
 have ax := mk0 hc0_0
 clear hr0_0 hc0_0
 have bj := mk0 hr1_3
 have bC := mk0 hc1_3
 clear hr1_3 hc1_3
 have HB := mk0 (Below.refl w.heap.size w)
 have H : (if a1_0 = 2 then (furrowlaw9_right.j0 k true l0_0 a0_1 a1_0 a1_1 a1_2 l1_3) else (furrowlaw9_right.j0 k (a1_0 == 3) l0_0 a0_1 a1_0 a1_1 a1_2 l1_3)) = some r := h
 clear h
 have aZ := mk0 H
 clear H
 go_enter Tryd.func12, Tryd.ntmps12
 go_upto_region 1 with (first | ((with_reducible refine gate_dst (N := 2) rfl ?_); (try (refine gate_guard (by rfl) ?_; dsimp only)); refine bxE 2 #[.slice A0_0 l0_0.length c0_0, .int .i64 a0_1] 29 ?_; intro ah hg w4 hbox hb; have ab := mk0 (hbox); have a_ := gE (uL HB.out) hg; have bE := gE (uL HB.out) hg; replace HB := hbB (uL HB.out) hb; clear hb hbox hg) | ((with_reducible refine gate_dst (N := 3) rfl ?_); (try (refine gate_guard (by rfl) ?_; dsimp only)); refine bxE 3 #[.int .i64 a1_0, .int .i64 a1_1, .string a1_2, .slice A1_3 l1_3.length c1_3] 33 ?_; intro ae hg w5 hbox hb; have aa := mk0 (hbox); have ba := gE bH hg; have bF := gE bH hg; replace HB := hbB bH hb; have ao := nL ab hg; have ap := nG ab hg; replace ab := bB ab hb; clear hb hbox hg))
 (try simp only [AP])
 go_cut [15] (fun v15 wc => ∃ (kq : Nat) (aQ : Bool), v15 = .bool aQ ∧ Aside0 (furrowlaw9_right.j0 kq aQ l0_0 a0_1 a1_0 a1_1 a1_2 l1_3 = some r) ∧ Aside0 (kq ≤ k) ∧ Aside0 (wc.heap[ah]? = some (.cells #[(.slice A0_0 l0_0.length c0_0), .int .i64 a0_1] 29 (0, 0))) ∧ Aside0 (wc.heap[ae]? = some (.cells #[.int .i64 a1_0, .int .i64 a1_1, .string a1_2, (.slice A1_3 l1_3.length c1_3)] 33 (0, 0))) ∧ Aside0 (Below w.heap.size w wc))
 case first =>
  have H := aZ.out; clear aZ
  by_cases c6 : a1_0 = 2
  ·rw [if_pos c6] at H
   have ay : (a1_0 == 2) = true := beq_iff_eq.mpr c6; have bp : (a1_0 != 2) = false := bne_eq_false_iff_eq.mpr c6; clear c6; (first | rw [ay] | (simp only [i64_w, i32_w]; rw [ay]) | skip); have H' := mk0 H; clear H; have bG := ap.out; have bI := ao.out; obtain ⟨bJ, bK, bL, bM, bO, bP, bQ, bR⟩ := cL4 aa; go_wp2
   go_meet
   case rel => exact ⟨_, (true), eK, H', ⟨by first | omega | exact Nat.le_refl _⟩, ⟨uB ab.out⟩, ⟨uB aa.out⟩, ⟨bH⟩⟩
  ·rw [if_neg c6] at H
   have ay : (a1_0 == 2) = false := beq_eq_false_iff_ne.mpr c6; have bp : (a1_0 != 2) = true := bne_iff_ne.mpr c6; (first | rw [ay] | (simp only [i64_w, i32_w]; rw [ay]) | skip); have H' := mk0 H; clear H; have bT := ap.out; have bU := ao.out; obtain ⟨bV, bW, bX, bY, bZ, b3, b4, b5⟩ := cL4 aa; go_wp2
   go_meet
   case rel => exact ⟨_, ((a1_0 == 3)), eK, H', ⟨by first | omega | exact Nat.le_refl _⟩, ⟨uB ab.out⟩, ⟨uB aa.out⟩, ⟨bH⟩⟩
 case rest =>
  clear aZ; obtain ⟨kq, aQ, rfl, HA, au, ab, aa, HB⟩ := hcut
  cases kq with
  | zero => exact absurd HA.out (by simp [furrowlaw9_right.j0])
  | succ kj2 =>
   have H := HA.out; clear HA; simp only [furrowlaw9_right.j0] at H; have bb := mk0 H; clear H
   go_upto_if 15 with (fail)
   go_cut [] (fun wc => ∃ (kq : Nat), Aside0 (furrowlaw9_right.j1 kq l0_0 a0_1 a1_0 a1_1 a1_2 l1_3 = some r) ∧ Aside0 (kq ≤ kj2) ∧ Aside0 (wc.heap[ah]? = some (.cells #[(.slice A0_0 l0_0.length c0_0), .int .i64 a0_1] 29 (0, 0))) ∧ Aside0 (wc.heap[ae]? = some (.cells #[.int .i64 a1_0, .int .i64 a1_1, .string a1_2, (.slice A1_3 l1_3.length c1_3)] 33 (0, 0))) ∧ Aside0 (Below w.heap.size w wc))
   case first =>
    have H := bb.out; clear bb
    by_cases aT : aQ = true
    ·subst aT
     replace H := iT H; replace H := Option.bind_eq_some_iff.mp H; obtain ⟨⟨bc, ai, bd, bf, bq⟩, bk, H⟩ := H; dsimp only at H; have bg := mk0 bk; clear bk
     by_cases aU : bq = true
     ·subst aU
      replace H := iT H
      by_cases af : (ai.length : Int) = (l1_3.length : Int)
      ·rw [if_pos af] at H
       have az : ((ai.length : Int) == (l1_3.length : Int)) = true := beq_iff_eq.mpr af; have br : ((ai.length : Int) != (l1_3.length : Int)) = false := bne_eq_false_iff_eq.mpr af; (have bs : (ai.length == l1_3.length) = true := by first | simpa using af | (simp at af ⊢; omega)); clear af; (first | rw [az] | (simp only [i64_w, i32_w]; rw [az]) | skip); have H' := mk0 H; clear H; have b6 := ao.out; have b7 := ap.out; obtain ⟨b8, b9, ca, cb⟩ := cL2 ab; obtain ⟨cd, ce, cf, cg, ch, ci, cj, ck⟩ := cL4 aa
       go_wp2_with (first | ((with_reducible refine gate_dst (N := 20) rfl ?_); refine gsM (some 20) Tryd.func25 #[.agg #[.slice A0_0 l0_0.length c0_0, .int .i64 a0_1], .string a1_2] ?_; (with_reducible refine (furrowref10_Table_Find.calls kj2 (fun k_ => k_ < w.heap.size) _ _ l0_0 a0_1 a1_2 bc ai bd bf true _ ?side1 bg.out).mono ?_); (case side1 => exact Kd.V_mk ax.out (Kd.F_below (Kd.C_F k71_heap aw.out) bH)); rintro e cl ⟨bl, rfl, ho0, hb⟩; refine ⟨_, rfl, ?_⟩; have ag := mk0 (Kd.V_lower (Kd.V_mono (ok' := fun k_ => k_ ≠ ah ∧ k_ ≠ ae) ho0 (fun k_ hk_ => ⟨e1B hk_ a_ ab, e1B hk_ ba aa⟩)) (below_size bH)); replace ab := bB ab hb; replace aa := bB aa hb; replace HB := hbB bH hb; (try clear hb ho0)) | ((with_reducible refine gate_dst (N := 5) rfl ?_); (try (refine gate_guard (by rfl) ?_; dsimp only)); refine bxE 5 #[.string (⟨#[]⟩ : ByteArray), .slice none 0 0, .int .i64 0, .int .i64 0] 71 ?_; intro aA hg cm hbox hb; replace ag := vD ag aA hg hb; have aC := mk0 (hbox); have bm := gE bH hg; have bn := gE bH hg; replace HB := hbB bH hb; have aD := nL ab hg; have aE := nG ab hg; replace ab := bB ab hb; have aG := nL aa hg; have aH := nG aa hg; replace aa := bB aa hb; clear hb hbox hg; have cn := aE.out; have cp := aD.out; have cq := aH.out; have cr := aG.out; obtain ⟨ct, cu, cv, cw, cx, cy, cz, cA⟩ := cL4 aC; obtain ⟨cD, cE, bu⟩ := Kd.V_slice ag.out; subst bu; obtain ⟨cF, cG, cH, cI, cJ, cK, cL, cM⟩ := cL4 aa))
       go_meet
       case rel => exact ⟨_, H', ⟨by have := au.out; first | omega | exact Nat.le_refl _⟩, ⟨kB⟩, ⟨kB⟩, ⟨bH⟩⟩
      ·rw [if_neg af] at H
       have az : ((ai.length : Int) == (l1_3.length : Int)) = false := beq_eq_false_iff_ne.mpr af; have br : ((ai.length : Int) != (l1_3.length : Int)) = true := bne_iff_ne.mpr af; (have bs : (ai.length == l1_3.length) = false := by first | simpa using af | (simp at af ⊢; omega)); (first | rw [az] | (simp only [i64_w, i32_w]; rw [az]) | skip); obtain rfl := Option.some.inj H; have cN := ao.out; have cO := ap.out; obtain ⟨cP, cR, cS, cT⟩ := cL2 ab; obtain ⟨cU, cV, cW, cX, cY, cZ, c_, da⟩ := cL4 aa
       go_wp2_with (first | ((with_reducible refine gate_dst (N := 20) rfl ?_); refine gsM (some 20) Tryd.func25 #[.agg #[.slice A0_0 l0_0.length c0_0, .int .i64 a0_1], .string a1_2] ?_; (with_reducible refine (furrowref10_Table_Find.calls kj2 (fun k_ => k_ < w.heap.size) _ _ l0_0 a0_1 a1_2 bc ai bd bf true _ ?side1 bg.out).mono ?_); (case side1 => exact Kd.V_mk ax.out (Kd.F_below (Kd.C_F k71_heap aw.out) bH)); rintro e db ⟨bl, rfl, ho0, hb⟩; refine ⟨_, rfl, ?_⟩; have ag := mk0 (Kd.V_lower (Kd.V_mono (ok' := fun k_ => k_ ≠ ah ∧ k_ ≠ ae) ho0 (fun k_ hk_ => ⟨e1B hk_ a_ ab, e1B hk_ ba aa⟩)) (below_size bH)); replace ab := bB ab hb; replace aa := bB aa hb; replace HB := hbB bH hb; (try clear hb ho0)) | ((with_reducible refine gate_dst (N := 5) rfl ?_); (try (refine gate_guard (by rfl) ?_; dsimp only)); refine bxE 5 #[.string (⟨#[]⟩ : ByteArray), .slice none 0 0, .int .i64 0, .int .i64 0] 71 ?_; intro aA hg dc hbox hb; replace ag := vD ag aA hg hb; have aC := mk0 (hbox); have bm := gE bH hg; have bn := gE bH hg; replace HB := hbB bH hb; have aD := nL ab hg; have aE := nG ab hg; have aG := nL aa hg; have aH := nG aa hg; replace aa := bB aa hb; clear hb hbox hg; have dd := aE.out; have de := aD.out; have df := aH.out; have dg := aG.out; obtain ⟨dh, di, dj, dk, dl, dn, dp, dq⟩ := cL4 aC; obtain ⟨dr, dt, bv⟩ := Kd.V_slice ag.out; subst bv; obtain ⟨du, dv, dw, dx, dy, dz, dA, dB⟩ := cL4 aa))
       go_ret; exact ⟨rE, bH⟩
     ·replace aU := Bool.eq_false_iff.mpr aU
      subst aU; replace H := iF H; obtain rfl := Option.some.inj H; have dC := ao.out; have dD := ap.out; obtain ⟨dE, dF, dG, dH⟩ := cL2 ab; obtain ⟨dI, dJ, dK, dL, dM, dN, dO, dP⟩ := cL4 aa
      go_wp2_with (first | ((with_reducible refine gate_dst (N := 20) rfl ?_); refine gsM (some 20) Tryd.func25 #[.agg #[.slice A0_0 l0_0.length c0_0, .int .i64 a0_1], .string a1_2] ?_; (with_reducible refine (furrowref10_Table_Find.calls kj2 (fun k_ => k_ < w.heap.size) _ _ l0_0 a0_1 a1_2 bc ai bd bf false _ ?side1 bg.out).mono ?_); (case side1 => exact Kd.V_mk ax.out (Kd.F_below (Kd.C_F k71_heap aw.out) bH)); rintro e dQ ⟨bl, rfl, ho0, hb⟩; refine ⟨_, rfl, ?_⟩; have ag := mk0 (Kd.V_lower (Kd.V_mono (ok' := fun k_ => k_ ≠ ah ∧ k_ ≠ ae) ho0 (fun k_ hk_ => ⟨e1B hk_ a_ ab, e1B hk_ ba aa⟩)) (below_size bH)); replace ab := bB ab hb; replace aa := bB aa hb; replace HB := hbB bH hb; (try clear hb ho0)) | ((with_reducible refine gate_dst (N := 5) rfl ?_); (try (refine gate_guard (by rfl) ?_; dsimp only)); refine bxE 5 #[.string (⟨#[]⟩ : ByteArray), .slice none 0 0, .int .i64 0, .int .i64 0] 71 ?_; intro aA hg dR hbox hb; replace ag := vD ag aA hg hb; have aC := mk0 (hbox); have bm := gE bH hg; have bn := gE bH hg; replace HB := hbB bH hb; have aD := nL ab hg; have aE := nG ab hg; have aG := nL aa hg; have aH := nG aa hg; clear hb hbox hg; have dS := aE.out; have dT := aD.out; have dU := aH.out; have dV := aG.out; obtain ⟨dW, dX, dZ, d5, d6, d7, d8, d9⟩ := cL4 aC; obtain ⟨d_, ea, bw⟩ := Kd.V_slice ag.out; subst bw))
      go_ret; exact ⟨rE, bH⟩
    ·replace aT := Bool.eq_false_iff.mpr aT
     subst aT; replace H := iF H; have H' := mk0 H; clear H; go_wp2
     go_meet
     case rel => exact ⟨_, H', ⟨by have := au.out; first | omega | exact Nat.le_refl _⟩, ⟨uB ab.out⟩, ⟨uB aa.out⟩, ⟨bH⟩⟩
   case rest =>
    clear bb; obtain ⟨kq, HA, aV, ab, aa, HB⟩ := hcut
    cases kq with
    | zero => exact absurd HA.out (by simp [furrowlaw9_right.j1])
    | succ kj10 =>
     have H := HA.out; clear HA; simp only [furrowlaw9_right.j1] at H; have H' := mk0 H; clear H; go_wp2
     go_loopg [7] kj10 (fun kq v7 w' => ∃ (x7_3 : Int), v7 = .int .i64 x7_3 ∧ Aside0 (furrowlaw9_right.l0 kq x7_3 l0_0 a0_1 a1_0 a1_1 a1_2 l1_3 = some r) ∧ Aside0 (kq ≤ kj10) ∧ Aside0 (w'.heap[ah]? = some (.cells #[(.slice A0_0 l0_0.length c0_0), .int .i64 a0_1] 29 (0, 0))) ∧ Aside0 (w'.heap[ae]? = some (.cells #[.int .i64 a1_0, .int .i64 a1_1, .string a1_2, (.slice A1_3 l1_3.length c1_3)] 33 (0, 0))) ∧ Aside0 (Below w.heap.size w w'))
     case atStart => exact ⟨(0), eK, H', ⟨Nat.le_refl _⟩, ⟨uB ab.out⟩, ⟨uB aa.out⟩, ⟨bH⟩⟩
     case round =>
      clear H'; obtain ⟨x7_3, rfl, HA, aW, ab, aa, HB⟩ := hrel
      cases gk with
      | zero => exact absurd HA.out (by simp [furrowlaw9_right.l0])
      | succ k3 =>
       have H := HA.out; clear HA; simp only [furrowlaw9_right.l0] at H
       by_cases av : x7_3 < (l1_3.length : Int)
       ·rw [if_pos av] at H
        have bx := decide_eq_true av; clear av
        by_cases aX : 0 ≤ x7_3
        ·rw [if_pos aX] at H
         have eb := decide_eq_true aX; clear aX; obtain ⟨bz, bo, H⟩ := oB H
         by_cases aY : bz = true
         ·subst aY
          replace H := iT H; have H' := mk0 H; clear H; have ec := ap.out; have ed := ao.out; obtain ⟨ee, ef, eg, eh, ei, ej, ek, em⟩ := cL4 aa; (try go_wp2); replace ab := mk0 (blk_drew ab.out); replace aa := mk0 (blk_drew aa.out); replace HB := mk0 (below_drew1 HB.out); have aq : 0 ≤ (x7_3 : Int) := dY; have ar : x7_3 < (l1_3.length : Int) := dY; obtain ⟨ac, aI, aJ, bh, aj, ak, al, am, aK, aM⟩ := at_T33 bj.out x7_3 aq ar; have hw312_3 := am; have hw312_2 := al; have hw312_1 := ak; have hw312_0 := aj
          cases bh
          replace aj := oC HB aj; replace ak := oC HB ak; replace al := oC HB al; replace am := oC HB am; have aN := mk0 aM; have bi := mk0 aK; clear aM aK; replace aq := eq_true aq; replace ar := eq_true ar; refine start_ (n := 8) (S := fun w' => w'.cell? ⟨ah, 0, none⟩ = some (.slice A0_0 l0_0.length c0_0) ∧ w'.cell? ⟨ah, 1, none⟩ = some (.int .i64 a0_1) ∧ w'.cell? ⟨ae, 0, none⟩ = some (.int .i64 a1_0) ∧ w'.cell? ⟨ae, 1, none⟩ = some (.int .i64 a1_1) ∧ w'.cell? ⟨ae, 2, none⟩ = some (.string a1_2) ∧ w'.cell? ⟨ae, 3, none⟩ = some (.slice (some ac) l1_3.length c1_3) ∧ w'.cell? (ac.add ((x7_3).toNat * 4)) = some (.int .i64 ((rd_T33 l1_3 x7_3).f0)) ∧ w'.cell? ⟨(ac.add ((x7_3).toNat * 4)).block, (ac.add ((x7_3).toNat * 4)).off + 1, none⟩ = some (.int .i64 ((rd_T33 l1_3 x7_3).f1)) ∧ w'.cell? ⟨(ac.add ((x7_3).toNat * 4)).block, (ac.add ((x7_3).toNat * 4)).off + 2, none⟩ = some (.string ((rd_T33 l1_3 x7_3).f2)) ∧ w'.cell? ⟨(ac.add ((x7_3).toNat * 4)).block, (ac.add ((x7_3).toNat * 4)).off + 3, none⟩ = some (.slice aI ((rd_T33 l1_3 x7_3).f3).length aJ)) (ds := []) (bts 8 0) (by kernel_rfl) rfl rfl ⟨(blk_cell ab.out 0).trans rfl, (blk_cell ab.out 1).trans rfl, (blk_cell aa.out 0).trans rfl, (blk_cell aa.out 1).trans rfl, (blk_cell aa.out 2).trans rfl, (blk_cell aa.out 3).trans rfl, ((HB.out.cell (World.block_lt_of_cell? w _ hw312_0)).trans hw312_0), ((HB.out.cell (World.block_lt_of_cell? w _ hw312_1)).trans hw312_1), ((HB.out.cell (World.block_lt_of_cell? w _ hw312_2)).trans hw312_2), ((HB.out.cell (World.block_lt_of_cell? w _ hw312_3)).trans hw312_3)⟩ (fun hHeld => ?_); refine with_tabW furrowlaw9_right.tab8 furrowlaw9_right.bits8 (fun HT_ HW_ => ?_); generalize wr.drew = en at ab aa HB aN aj ak al am hHeld ⊢; refine qA 1 2 ?_; refine qA 3 10 ?_; refine take_ (i := 0) (N := some 41) (v := ?_) (a' := ?_) (bts 8 11) rfl rfl (take_ofW HT_.out HW_.out (by kernel_rfl)) (fun _ _ _ h => h) (Or.inl ⟨by rfl, ?_⟩) hHeld ?_ ?_; rotate_left
          ·rintro w' ⟨s0, s1, s2, s3, s4, s5, s6, s7, s8, s9⟩
           go_simp; (with_reducible rfl)
          rotate_left
          ·simp only [AP, i64_w, i32_w]
           rfl
          refine take_ (i := 2) (N := some 43) (v := ?_) (a' := ?_) (bts 8 15) rfl rfl (take_ofW HT_.out HW_.out (by kernel_rfl)) (fun _ _ _ h => h) (Or.inl ⟨by rfl, ?_⟩) hHeld ?_ ?_; rotate_left
          ·rintro w' ⟨s0, s1, s2, s3, s4, s5, s6, s7, s8, s9⟩
           go_simp; (with_reducible rfl)
          rotate_left
          ·simp only [AP, i64_w, i32_w]
           rfl
          refine qA 4 31 ?_; refine take_ (i := 5) (N := some 46) (v := ?_) (a' := ?_) (bts 8 63) rfl rfl (take_ofW HT_.out HW_.out (by kernel_rfl)) (fun _ _ _ h => h) (Or.inl ⟨by rfl, ?_⟩) hHeld ?_ ?_; rotate_left
          ·rintro w' ⟨s0, s1, s2, s3, s4, s5, s6, s7, s8, s9⟩
           go_simp; (with_reducible rfl)
          rotate_left
          ·simp only [AP, i64_w, i32_w]
           rfl
          refine one_ (i := 6) (N := some 47) (bts 8 127) rfl rfl (one_of HT_.out (by kernel_rfl)) (by decide) (fun K hK => ?_); refine goes_ Tryd.func12 (by kernel_rfl) rfl #[.agg #[.slice A0_0 l0_0.length c0_0, .int .i64 a0_1], .agg #[.int .i64 ((rd_T33 l1_3 x7_3).f0), .int .i64 ((rd_T33 l1_3 x7_3).f1), .string ((rd_T33 l1_3 x7_3).f2), .slice aI ((rd_T33 l1_3 x7_3).f3).length aJ]] (by rfl) rfl rfl (by (try simp only [List.map_toArray, List.map_cons, List.map_nil]); first | done | rfl | (simp only [List.length_drop, List.length_take]; rfl)) ?_; (with_reducible refine (ih k3 (by have := au.out; have := aV.out; have := aW.out; omega) _ _ l0_0 a0_1 ((rd_T33 l1_3 x7_3).f0) ((rd_T33 l1_3 x7_3).f1) ((rd_T33 l1_3 x7_3).f2) _ _ ((rd_T33 l1_3 x7_3).f3) true _ ?side1 ?side2 ?side3 ?side4 bo.out).mono ?_); (case side1 => exact uC (Kd.C_below aw.out HB.out)); (case side2 => exact ax.out); (case side3 => exact uC (Kd.C_below aN.out HB.out)); (case side4 => exact bi.out); rintro e eo ⟨rfl, hb⟩; refine ⟨_, rfl, ?_⟩; replace ab := bB ab hb; replace aa := bB aa hb; replace HB := hbB bH hb; (try clear hb); refine hK.out _ _ ⟨(blk_cell ab.out 0).trans rfl, (blk_cell ab.out 1).trans rfl, (blk_cell aa.out 0).trans rfl, (blk_cell aa.out 1).trans rfl, (blk_cell aa.out 2).trans rfl, (blk_cell aa.out 3).trans rfl, ((HB.out.cell (World.block_lt_of_cell? w _ hw312_0)).trans hw312_0), ((HB.out.cell (World.block_lt_of_cell? w _ hw312_1)).trans hw312_1), ((HB.out.cell (World.block_lt_of_cell? w _ hw312_2)).trans hw312_2), ((HB.out.cell (World.block_lt_of_cell? w _ hw312_3)).trans hw312_3)⟩ (fun hHeld => ?_); clear hK K; refine norm_ (a' := ?_) ?_ ?_; rotate_left
          ·show Act.put _ (some 47) _ = _
           simp only [AP, i64_w, i32_w]; rfl
          refine qA 7 255 ?_; refine done_ (done_of HT_.out (by kernel_rfl)) ?_; (try go_wp2)
          go_roundg k3
          case measure => have := au.out; have := aV.out; have := aW.out; omega
          case rel => exact ⟨(wrap64 (x7_3 + 1)), eK, H', ⟨by have := au.out; have := aV.out; have := aW.out; omega⟩, ⟨uB ab.out⟩, ⟨uB aa.out⟩, ⟨bH⟩⟩
         ·replace aY := Bool.eq_false_iff.mpr aY
          subst aY; replace H := iF H; obtain rfl := Option.some.inj H; have ep := ap.out; have eq := ao.out; obtain ⟨er, es, et, eu, ew, ex, ey, ez⟩ := cL4 aa; (try go_wp2); replace ab := mk0 (blk_drew ab.out); replace aa := mk0 (blk_drew aa.out); replace HB := mk0 (below_drew1 HB.out); have aq : 0 ≤ (x7_3 : Int) := dY; have ar : x7_3 < (l1_3.length : Int) := dY; obtain ⟨ac, aI, aJ, bh, aj, ak, al, am, aK, aM⟩ := at_T33 bj.out x7_3 aq ar; have hw312_3 := am; have hw312_2 := al; have hw312_1 := ak; have hw312_0 := aj
          cases bh
          replace aj := oC HB aj; replace ak := oC HB ak; replace al := oC HB al; replace am := oC HB am; have aN := mk0 aM; have bi := mk0 aK; clear aM aK; replace aq := eq_true aq; replace ar := eq_true ar; refine start_ (n := 8) (S := fun w' => w'.cell? ⟨ah, 0, none⟩ = some (.slice A0_0 l0_0.length c0_0) ∧ w'.cell? ⟨ah, 1, none⟩ = some (.int .i64 a0_1) ∧ w'.cell? ⟨ae, 0, none⟩ = some (.int .i64 a1_0) ∧ w'.cell? ⟨ae, 1, none⟩ = some (.int .i64 a1_1) ∧ w'.cell? ⟨ae, 2, none⟩ = some (.string a1_2) ∧ w'.cell? ⟨ae, 3, none⟩ = some (.slice (some ac) l1_3.length c1_3) ∧ w'.cell? (ac.add ((x7_3).toNat * 4)) = some (.int .i64 ((rd_T33 l1_3 x7_3).f0)) ∧ w'.cell? ⟨(ac.add ((x7_3).toNat * 4)).block, (ac.add ((x7_3).toNat * 4)).off + 1, none⟩ = some (.int .i64 ((rd_T33 l1_3 x7_3).f1)) ∧ w'.cell? ⟨(ac.add ((x7_3).toNat * 4)).block, (ac.add ((x7_3).toNat * 4)).off + 2, none⟩ = some (.string ((rd_T33 l1_3 x7_3).f2)) ∧ w'.cell? ⟨(ac.add ((x7_3).toNat * 4)).block, (ac.add ((x7_3).toNat * 4)).off + 3, none⟩ = some (.slice aI ((rd_T33 l1_3 x7_3).f3).length aJ)) (ds := []) (bts 8 0) (by kernel_rfl) rfl rfl ⟨(blk_cell ab.out 0).trans rfl, (blk_cell ab.out 1).trans rfl, (blk_cell aa.out 0).trans rfl, (blk_cell aa.out 1).trans rfl, (blk_cell aa.out 2).trans rfl, (blk_cell aa.out 3).trans rfl, ((HB.out.cell (World.block_lt_of_cell? w _ hw312_0)).trans hw312_0), ((HB.out.cell (World.block_lt_of_cell? w _ hw312_1)).trans hw312_1), ((HB.out.cell (World.block_lt_of_cell? w _ hw312_2)).trans hw312_2), ((HB.out.cell (World.block_lt_of_cell? w _ hw312_3)).trans hw312_3)⟩ (fun hHeld => ?_); refine with_tabW furrowlaw9_right.tab8 furrowlaw9_right.bits8 (fun HT_ HW_ => ?_); generalize wr.drew = eA at ab aa HB aN aj ak al am hHeld ⊢; refine qA 1 2 ?_; refine qA 3 10 ?_; refine take_ (i := 0) (N := some 41) (v := ?_) (a' := ?_) (bts 8 11) rfl rfl (take_ofW HT_.out HW_.out (by kernel_rfl)) (fun _ _ _ h => h) (Or.inl ⟨by rfl, ?_⟩) hHeld ?_ ?_; rotate_left
          ·rintro w' ⟨s0, s1, s2, s3, s4, s5, s6, s7, s8, s9⟩
           go_simp; (with_reducible rfl)
          rotate_left
          ·simp only [AP, i64_w, i32_w]
           rfl
          refine take_ (i := 2) (N := some 43) (v := ?_) (a' := ?_) (bts 8 15) rfl rfl (take_ofW HT_.out HW_.out (by kernel_rfl)) (fun _ _ _ h => h) (Or.inl ⟨by rfl, ?_⟩) hHeld ?_ ?_; rotate_left
          ·rintro w' ⟨s0, s1, s2, s3, s4, s5, s6, s7, s8, s9⟩
           go_simp; (with_reducible rfl)
          rotate_left
          ·simp only [AP, i64_w, i32_w]
           rfl
          refine qA 4 31 ?_; refine take_ (i := 5) (N := some 46) (v := ?_) (a' := ?_) (bts 8 63) rfl rfl (take_ofW HT_.out HW_.out (by kernel_rfl)) (fun _ _ _ h => h) (Or.inl ⟨by rfl, ?_⟩) hHeld ?_ ?_; rotate_left
          ·rintro w' ⟨s0, s1, s2, s3, s4, s5, s6, s7, s8, s9⟩
           go_simp; (with_reducible rfl)
          rotate_left
          ·simp only [AP, i64_w, i32_w]
           rfl
          refine one_ (i := 6) (N := some 47) (bts 8 127) rfl rfl (one_of HT_.out (by kernel_rfl)) (by decide) (fun K hK => ?_); refine goes_ Tryd.func12 (by kernel_rfl) rfl #[.agg #[.slice A0_0 l0_0.length c0_0, .int .i64 a0_1], .agg #[.int .i64 ((rd_T33 l1_3 x7_3).f0), .int .i64 ((rd_T33 l1_3 x7_3).f1), .string ((rd_T33 l1_3 x7_3).f2), .slice aI ((rd_T33 l1_3 x7_3).f3).length aJ]] (by rfl) rfl rfl (by (try simp only [List.map_toArray, List.map_cons, List.map_nil]); first | done | rfl | (simp only [List.length_drop, List.length_take]; rfl)) ?_; (with_reducible refine (ih k3 (by have := au.out; have := aV.out; have := aW.out; omega) _ _ l0_0 a0_1 ((rd_T33 l1_3 x7_3).f0) ((rd_T33 l1_3 x7_3).f1) ((rd_T33 l1_3 x7_3).f2) _ _ ((rd_T33 l1_3 x7_3).f3) false _ ?side1 ?side2 ?side3 ?side4 bo.out).mono ?_); (case side1 => exact uC (Kd.C_below aw.out HB.out)); (case side2 => exact ax.out); (case side3 => exact uC (Kd.C_below aN.out HB.out)); (case side4 => exact bi.out); rintro e eB ⟨rfl, hb⟩; refine ⟨_, rfl, ?_⟩; replace ab := bB ab hb; replace aa := bB aa hb; replace HB := hbB bH hb; (try clear hb); refine hK.out _ _ ⟨(blk_cell ab.out 0).trans rfl, (blk_cell ab.out 1).trans rfl, (blk_cell aa.out 0).trans rfl, (blk_cell aa.out 1).trans rfl, (blk_cell aa.out 2).trans rfl, (blk_cell aa.out 3).trans rfl, ((HB.out.cell (World.block_lt_of_cell? w _ hw312_0)).trans hw312_0), ((HB.out.cell (World.block_lt_of_cell? w _ hw312_1)).trans hw312_1), ((HB.out.cell (World.block_lt_of_cell? w _ hw312_2)).trans hw312_2), ((HB.out.cell (World.block_lt_of_cell? w _ hw312_3)).trans hw312_3)⟩ (fun hHeld => ?_); clear hK K; refine norm_ (a' := ?_) ?_ ?_; rotate_left
          ·show Act.put _ (some 47) _ = _
           simp only [AP, i64_w, i32_w]; rfl
          refine qA 7 255 ?_; refine done_ (done_of HT_.out (by kernel_rfl)) ?_; (try go_wp2); go_ret; exact ⟨rE, bH⟩
        ·exact nO H aX
       ·rw [if_neg av] at H
        have bx := decide_eq_false av; clear av; obtain rfl := Option.some.inj H; have eC := ap.out; have eD := ao.out; obtain ⟨eE, eF, eG, eH, eI, eJ, eL, eM⟩ := cL4 aa; go_wp2; go_ret; exact ⟨rE, bH⟩

end Go.Proofs.YtmhkijidnpihmaaDoor.X
