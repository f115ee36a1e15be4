-- PRINTED by print.py (a twelfth state) out of the translation. Not trusted: Lean checks it.
import Derived.Test.YtkkpgjkjkcmcbaaDoorXx0
import Derived.Test.YtkkpgjkjkcmcbaaDoorXx5
import Derived.Test.YtkkpgjkjkcmcbaaDoorXx7
namespace Go.Proofs.YtkkpgjkjkcmcbaaDoor.X
open Go.Proofs.YtkkpgjkjkcmcbaaDoor.Flt Go.Proofs.YtkkpgjkjkcmcbaaDoor.H Go.RowKit Go.Proofs.YtkkpgjkjkcmcbaaDoorW.PrintWords Go.Proofs.YtkkpgjkjkcmcbaaDoorW.PrintLast Go.Proofs.YtkkpgjkjkcmcbaaDoorW.PrintMore
attribute [local go_sem] max2_int min2_int max_two min_two max_three min_three max_four min_four   -- for this text's walks alone
set_option linter.unusedVariables false
set_option linter.unusedSimpArgs false

/-! ### furrowref20_Check: function 8 -/
mutual
def furrowref20_Check.j0 : Nat → Bool → Int → List (S65) → List (S65) → Option ((List (S76)) × Int)
 | 0, _, _, _, _ => none
 | k + 1, x14, x322000, x322001, x322002 => if x14 = true then ((furrowref4_At.f (⟨#[115, 121, 115]⟩ : ByteArray) 0 1).bind fun bt323 => (some (bt323.1, bt323.2))) else ((furrowref20_all.f x322000 x322001 x322002).bind fun t327 => (if (t327.length : Int) > 64 then ((furrowref4_At.f (⟨#[115, 121, 115]⟩ : ByteArray) 64 4).bind fun bt330 => (some (bt330.1, bt330.2))) else (furrowref20_Check.l0 k t327 0 x322000 x322001 x322002)))
def furrowref20_Check.l0 : Nat → List (S65) → Int → Int → List (S65) → List (S65) → Option ((List (S76)) × Int)
 | 0, _, _, _, _, _ => none
 | k + 1, x3, x4, x322000, x322001, x322002 => if x4 < (x3.length : Int) then (if 0 ≤ x4 then (if (((rd_T65 x3 x4).f0).length : Int) = x322000 then ((furrowref20_beyond.f ((rd_T65 x3 x4).f1) 1073741824).bind fun t340 => (furrowref20_Check.l1 k x3 x4 t340 0 x322000 x322001 x322002)) else ((furrowref4_At.f (⟨#[115, 121, 115]⟩ : ByteArray) x4 1).bind fun bt335 => (some (bt335.1, bt335.2)))) else (none)) else (some (([] : List (S76)), 0))
def furrowref20_Check.l1 : Nat → List (S65) → Int → Bool → Int → Int → List (S65) → List (S65) → Option ((List (S76)) × Int)
 | 0, _, _, _, _, _, _, _ => none
 | k + 1, x3, x4, x5, x6, x322000, x322001, x322002 => if x6 < x322000 then (if x5 = true then (furrowref20_Check.l1 k x3 x4 true (wrap64 (x6 + 1)) x322000 x322001 x322002) else (if 0 ≤ x4 then (if x4 < (x3.length : Int) then (if 0 ≤ x6 then (if x6 < (((rd_T65 x3 x4).f0).length : Int) then ((furrowref20_beyond.f (rd ((rd_T65 x3 x4).f0) x6) 1073741824).bind fun t343 => (furrowref20_Check.l1 k x3 x4 t343 (wrap64 (x6 + 1)) x322000 x322001 x322002)) else (none)) else (none)) else (none)) else (none))) else (if x5 = true then ((furrowref4_At.f (⟨#[115, 121, 115]⟩ : ByteArray) x4 5).bind fun bt344 => (some (bt344.1, bt344.2))) else (furrowref20_Check.l0 k x3 (wrap64 (x4 + 1)) x322000 x322001 x322002))
end
def furrowref20_Check.f (k : Nat) (a0_0 : Int) (l0_1 : List (S65)) (l0_2 : List (S65)) : Option ((List (S76)) × Int) := if a0_0 < 0 then (furrowref20_Check.j0 k true a0_0 l0_1 l0_2) else (furrowref20_Check.j0 k (decide (a0_0 > 16)) a0_0 l0_1 l0_2)
theorem furrowref20_Check.mono_l : ∀ k, (∀ y0 y1 y2 y3, LeO (furrowref20_Check.j0 k y0 y1 y2 y3) (furrowref20_Check.j0 (k + 1) y0 y1 y2 y3)) ∧ (∀ y0 y1 y2 y3 y4, LeO (furrowref20_Check.l0 k y0 y1 y2 y3 y4) (furrowref20_Check.l0 (k + 1) y0 y1 y2 y3 y4)) ∧ (∀ y0 y1 y2 y3 y4 y5 y6, LeO (furrowref20_Check.l1 k y0 y1 y2 y3 y4 y5 y6) (furrowref20_Check.l1 (k + 1) y0 y1 y2 y3 y4 y5 y6))
 | 0 => by refine ⟨?_, ?_, ?_⟩ <;> intros <;> exact fun r h => by simp [furrowref20_Check.j0, furrowref20_Check.l0, furrowref20_Check.l1] at h
 | k + 1 => by
  obtain ⟨i0_, i1_, i2_⟩ := furrowref20_Check.mono_l k; refine ⟨?_, ?_, ?_⟩ <;> intros
  ·unfold furrowref20_Check.j0; exact lO_
  ·unfold furrowref20_Check.l0; exact lO_
  ·unfold furrowref20_Check.l1; exact lO_
theorem furrowref20_Check.mono : ∀ a0 a1 a2 k, LeO (furrowref20_Check.f k a0 a1 a2) (furrowref20_Check.f (k + 1) a0 a1 a2) := by
 intro a0 a1 a2 k
 obtain ⟨i0_, i1_, i2_⟩ := furrowref20_Check.mono_l k; unfold furrowref20_Check.f; exact lO_
set_option maxHeartbeats 8000000 in
set_option maxRecDepth 100000 in
theorem furrowref20_Check.calls (k : Nat) (a0_0 : Int) (A0_1 : Option Addr) (c0_1 : Nat) (l0_1 : List (S65)) (A0_2 : Option Addr) (c0_2 : Nat) (l0_2 : List (S65)) (r1 : List (S76)) (r2 : Int) (w : World) (hr0_1 : Kd.C k65 w A0_1 l0_1.length l0_1) (hc0_1 : l0_1.length ≤ c0_1) (hr0_2 : Kd.C k65 w A0_2 l0_2.length l0_2) (hc0_2 : l0_2.length ≤ c0_2) (h : furrowref20_Check.f k a0_0 l0_1 l0_2 = some (r1, r2)) :
  Calls Tryd.prog 8 #[.agg #[.int .i64 a0_0, .slice A0_1 l0_1.length c0_1, .slice A0_2 l0_2.length c0_2]] w fun e w' => ∃ v0_ : Value, e = .returned (.agg #[v0_, .int .i64 r2]) ∧ Kd.R k76 76 w' w.heap.size (fun _ => True) v0_ r1 ∧ Below w.heap.size w w' := by
 have hu34 := Tryd.underlying34
 have hu30 := Tryd.underlying30
 have aA := mk0 hr0_1
 have aC := mk0 hc0_1
 clear hr0_1 hc0_1
 have aD := mk0 hr0_2
 have aE := mk0 hc0_2
 clear hr0_2 hc0_2
 have HB := mk0 (Below.refl w.heap.size w)
 have H : (if a0_0 < 0 then (furrowref20_Check.j0 k true a0_0 l0_1 l0_2) else (furrowref20_Check.j0 k (decide (a0_0 > 16)) a0_0 l0_1 l0_2)) = some (r1, r2) := h
 clear h
 have bU := mk0 H
 clear H
 go_enter Tryd.func8, Tryd.ntmps8
 go_upto_region 1 with (first | ((with_reducible refine gate_dst (N := 1) rfl ?_); refine bxE 1 #[.int .i64 a0_0, .slice A0_1 l0_1.length c0_1, .slice A0_2 l0_2.length c0_2] 34 ?_; intro al hg w3 hbox hb; have aa := mk0 (hbox); have ar := gE (uL HB.out) hg; have cl := gE (uL HB.out) hg; replace HB := hbB (uL HB.out) hb; clear hb hbox hg) | ((with_reducible refine gate_dst (N := 2) rfl ?_); refine bxE 2 #[.slice none 0 0, .int .i64 0] 30 ?_; intro ag hg w4 hbox hb; have ac := mk0 (hbox); have au := gE bH hg; have cm := gE bH hg; replace HB := hbB bH hb; have ai := nL aa hg; have aj := nG aa hg; replace aa := bB aa hb; clear hb hbox hg))
 repeat (go_quiet (first | ((with_reducible refine gate_dst (N := 1) rfl ?_); refine bxE 1 #[.int .i64 a0_0, .slice A0_1 l0_1.length c0_1, .slice A0_2 l0_2.length c0_2] 34 ?_; intro al hg w3 hbox hb; have aa := mk0 (hbox); have ar := gE (uL HB.out) hg; have cl := gE (uL HB.out) hg; replace HB := hbB (uL HB.out) hb; clear hb hbox hg) | ((with_reducible refine gate_dst (N := 2) rfl ?_); refine bxE 2 #[.slice none 0 0, .int .i64 0] 30 ?_; intro ag hg w4 hbox hb; have ac := mk0 (hbox); have au := gE bH hg; have cm := gE bH hg; replace HB := hbB bH hb; have ai := nL aa hg; have aj := nG aa hg; replace aa := bB aa hb; clear hb hbox hg)); go_upto_region 1 with (first | ((with_reducible refine gate_dst (N := 1) rfl ?_); refine bxE 1 #[.int .i64 a0_0, .slice A0_1 l0_1.length c0_1, .slice A0_2 l0_2.length c0_2] 34 ?_; intro al hg w3 hbox hb; have aa := mk0 (hbox); have ar := gE (uL HB.out) hg; have cl := gE (uL HB.out) hg; replace HB := hbB (uL HB.out) hb; clear hb hbox hg) | ((with_reducible refine gate_dst (N := 2) rfl ?_); refine bxE 2 #[.slice none 0 0, .int .i64 0] 30 ?_; intro ag hg w4 hbox hb; have ac := mk0 (hbox); have au := gE bH hg; have cm := gE bH hg; replace HB := hbB bH hb; have ai := nL aa hg; have aj := nG aa hg; replace aa := bB aa hb; clear hb hbox hg)))
 (try simp only [AP])
 go_cut [14] (fun dr wc => ∃ (kq : Nat) (bo : Bool), dr = .bool bo ∧ Aside0 (furrowref20_Check.j0 kq bo a0_0 l0_1 l0_2 = some (r1, r2)) ∧ Aside0 (kq ≤ k) ∧ Aside0 (wc.heap[al]? = some (.cells #[.int .i64 a0_0, (.slice A0_1 l0_1.length c0_1), (.slice A0_2 l0_2.length c0_2)] 34 (0, 0))) ∧ Aside0 (wc.heap[ag]? = some (.cells #[(.slice none 0 0), .int .i64 0] 30 (0, 0))) ∧ Aside0 (Below w.heap.size w wc))
 case first =>
  have H := bU.out; clear bU
  by_cases c5 : a0_0 < 0
  ·rw [if_pos c5] at H
   have aV := decide_eq_true c5; clear c5; (first | rw [aV] | (simp only [i64_w, i32_w]; rw [aV]) | skip); have H' := mk0 H; clear H; have dT := ai.out; have dU := aj.out; obtain ⟨dV, dW, dX, dZ, d4, d5⟩ := cL3 aa; go_wp2; (repeat (go_quiet (fail); try go_wp2))
   go_meet
   case rel => exact ⟨_, (true), eK, H', ⟨by first | omega | exact Nat.le_refl _⟩, ⟨uB aa.out⟩, ⟨uB ac.out⟩, ⟨bH⟩⟩
  ·rw [if_neg c5] at H
   have aV := decide_eq_false c5; clear c5; (first | rw [aV] | (simp only [i64_w, i32_w]; rw [aV]) | skip); have H' := mk0 H; clear H; have d6 := ai.out; have d7 := aj.out; obtain ⟨d8, d9, d_, ea, eb, ec⟩ := cL3 aa; go_wp2; (repeat (go_quiet (fail); try go_wp2))
   go_meet
   case rel => exact ⟨_, (decide (a0_0 > 16)), eK, H', ⟨by first | omega | exact Nat.le_refl _⟩, ⟨uB aa.out⟩, ⟨uB ac.out⟩, ⟨bH⟩⟩
 case rest =>
  clear bU; obtain ⟨kq, bo, rfl, HA, aG, aa, ac, HB⟩ := hcut
  cases kq with
  | zero => exact absurd HA.out (by simp [furrowref20_Check.j0])
  | succ kj1 =>
   have H := HA.out; clear HA; simp only [furrowref20_Check.j0] at H
   by_cases aH : bo = true
   ·subst aH
    replace H := iT H; replace H := Option.bind_eq_some_iff.mp H; obtain ⟨⟨aW, aX⟩, cn, H⟩ := H; dsimp only at H; have bV := mk0 cn; clear cn; simp only [Option.some.injEq, Prod.mk.injEq] at H; obtain ⟨rfl, rfl⟩ := H
    go_wp2_with (first | (go_at_call 21; (with_reducible refine (furrowref4_At.calls (⟨#[115, 121, 115]⟩ : ByteArray) 0 1 aW aX _ bV.out).mono ?_); rintro e cp ⟨cq, rfl, ho0, hb⟩; have aI := mk0 (Kd.R_lower ho0 (below_size bH)); replace aa := bB aa hb; replace ac := bB ac hb; replace HB := hbB bH hb; (try clear hb ho0); obtain ⟨bp, bq, aY⟩ := Kd.R_slice aI.out; subst aY; have cr := aj.out; have ct := ai.out; obtain ⟨cu, cv, cw, cy⟩ := cL2 ac))
    (repeat (go_quiet (first | (go_at_call 21; (with_reducible refine (furrowref4_At.calls (⟨#[115, 121, 115]⟩ : ByteArray) 0 1 aW aX _ bV.out).mono ?_); rintro e cp ⟨cq, rfl, ho0, hb⟩; have aI := mk0 (Kd.R_lower ho0 (below_size bH)); replace aa := bB aa hb; replace ac := bB ac hb; replace HB := hbB bH hb; (try clear hb hk ho0); obtain ⟨bp, bq, aY⟩ := Kd.R_slice aI.out; subst aY; have cr := aj.out; have ct := ai.out; obtain ⟨cu, cv, cw, cy⟩ := cL2 ac)); try go_wp2_with (first | (go_at_call 21; (with_reducible refine (furrowref4_At.calls (⟨#[115, 121, 115]⟩ : ByteArray) 0 1 aW aX _ bV.out).mono ?_); rintro e cp ⟨cq, rfl, ho0, hb⟩; have aI := mk0 (Kd.R_lower ho0 (below_size bH)); replace aa := bB aa hb; replace ac := bB ac hb; replace HB := hbB bH hb; (try clear hb hk ho0); obtain ⟨bp, bq, aY⟩ := Kd.R_slice aI.out; subst aY; have cr := aj.out; have ct := ai.out; obtain ⟨cu, cv, cw, cy⟩ := cL2 ac)))); refine bodyPost_ret (results_cell_row rfl _ _ ag 30 #[.slice bp aW.length bq, .int .i64 aX] (0, 0) _ rfl (kB) Tryd.underlying30 rfl (by kernel_rfl)) rfl ?_; exact ⟨_, rE, uR (Kd.R_mono (Kd.R_far (p := ⟨ag, 1, none⟩) (Kd.R_far (p := ⟨ag, 0, none⟩) (Kd.R_types aI.out ac.out (by decide)) (fun _ hk => hk.2) (.slice bp aW.length bq)) (fun _ hk => hk.2) (.int .i64 aX)) (fun _ hk => trivial)), bH⟩
   ·replace aH := Bool.eq_false_iff.mpr aH
    subst aH; replace H := iF H; obtain ⟨ae, aJ, H⟩ := oB H
    by_cases av : (ae.length : Int) > 64
    ·rw [if_pos av] at H
     have bW := decide_eq_true av; have bX : decide (64 < ae.length) = true := decide_eq_true (by omega); clear av; replace H := Option.bind_eq_some_iff.mp H; obtain ⟨⟨aZ, a6⟩, cz, H⟩ := H; dsimp only at H; have bY := mk0 cz; clear cz; simp only [Option.some.injEq, Prod.mk.injEq] at H; obtain ⟨rfl, rfl⟩ := H; have ed := ai.out; have ee := aj.out; obtain ⟨ef, eh, ei, ej, ek, em⟩ := cL3 aa
     go_wp2_with (first | (go_at_call 22; (with_reducible refine (furrowref20_all.calls a0_0 (fun k_ => k_ < w.heap.size) _ _ l0_1 (fun k_ => k_ < w.heap.size) _ _ l0_2 ae _ ?side1 ?side2 aJ.out).mono ?_); (case side1 => exact Kd.V_mk aC.out (Kd.F_below (Kd.C_F k65_heap aA.out) bH)); (case side2 => exact Kd.V_mk aE.out (Kd.F_below (Kd.C_F k65_heap aD.out) bH)); rintro e cA ⟨a7, rfl, ho0, hb⟩; have ak := mk0 (Kd.N_lower (Kd.N_mono (ok' := fun k_ => k_ ≠ al ∧ k_ ≠ ag) ho0 (fun k_ hk_ => ⟨e2B hk_ ar aa, e2B hk_ au ac⟩)) (below_size bH)); replace aa := bB aa hb; replace ac := bB ac hb; replace HB := hbB bH hb; (try clear hb ho0); obtain ⟨cD, cE, a8⟩ := Kd.N_slice ak.out; subst a8; clear ak) | (go_at_call 21; (with_reducible refine (furrowref4_At.calls (⟨#[115, 121, 115]⟩ : ByteArray) 64 4 aZ a6 _ bY.out).mono ?_); rintro e cF ⟨cG, rfl, ho0, hb⟩; have aK := mk0 (Kd.R_lower ho0 (below_size bH)); replace aa := bB aa hb; replace ac := bB ac hb; replace HB := hbB bH hb; (try clear hb ho0); obtain ⟨br, bs, a9⟩ := Kd.R_slice aK.out; subst a9; obtain ⟨cH, cI, cJ, cK⟩ := cL2 ac))
     (repeat (go_quiet (first | (go_at_call 22; (with_reducible refine (furrowref20_all.calls a0_0 (fun k_ => k_ < w.heap.size) _ _ l0_1 (fun k_ => k_ < w.heap.size) _ _ l0_2 ae _ ?side1 ?side2 aJ.out).mono ?_); (case side1 => exact Kd.V_mk aC.out (Kd.F_below (Kd.C_F k65_heap aA.out) bH)); (case side2 => exact Kd.V_mk aE.out (Kd.F_below (Kd.C_F k65_heap aD.out) bH)); rintro e cA ⟨a7, rfl, ho0, hb⟩; have ak := mk0 (Kd.N_lower (Kd.N_mono (ok' := fun k_ => k_ ≠ al ∧ k_ ≠ ag) ho0 (fun k_ hk_ => ⟨e2B hk_ ar aa, e2B hk_ au ac⟩)) (below_size bH)); replace aa := bB aa hb; replace ac := bB ac hb; replace HB := hbB bH hb; (try clear hb hk ho0); obtain ⟨cD, cE, a8⟩ := Kd.N_slice ak.out; subst a8; clear ak) | (go_at_call 21; (with_reducible refine (furrowref4_At.calls (⟨#[115, 121, 115]⟩ : ByteArray) 64 4 aZ a6 _ bY.out).mono ?_); rintro e cF ⟨cG, rfl, ho0, hb⟩; have aK := mk0 (Kd.R_lower ho0 (below_size bH)); replace aa := bB aa hb; replace ac := bB ac hb; replace HB := hbB bH hb; (try clear hb hk ho0); obtain ⟨br, bs, a9⟩ := Kd.R_slice aK.out; subst a9; obtain ⟨cH, cI, cJ, cK⟩ := cL2 ac)); try go_wp2_with (first | (go_at_call 22; (with_reducible refine (furrowref20_all.calls a0_0 (fun k_ => k_ < w.heap.size) _ _ l0_1 (fun k_ => k_ < w.heap.size) _ _ l0_2 ae _ ?side1 ?side2 aJ.out).mono ?_); (case side1 => exact Kd.V_mk aC.out (Kd.F_below (Kd.C_F k65_heap aA.out) bH)); (case side2 => exact Kd.V_mk aE.out (Kd.F_below (Kd.C_F k65_heap aD.out) bH)); rintro e cA ⟨a7, rfl, ho0, hb⟩; have ak := mk0 (Kd.N_lower (Kd.N_mono (ok' := fun k_ => k_ ≠ al ∧ k_ ≠ ag) ho0 (fun k_ hk_ => ⟨e2B hk_ ar aa, e2B hk_ au ac⟩)) (below_size bH)); replace aa := bB aa hb; replace ac := bB ac hb; replace HB := hbB bH hb; (try clear hb hk ho0); obtain ⟨cD, cE, a8⟩ := Kd.N_slice ak.out; subst a8; clear ak) | (go_at_call 21; (with_reducible refine (furrowref4_At.calls (⟨#[115, 121, 115]⟩ : ByteArray) 64 4 aZ a6 _ bY.out).mono ?_); rintro e cF ⟨cG, rfl, ho0, hb⟩; have aK := mk0 (Kd.R_lower ho0 (below_size bH)); replace aa := bB aa hb; replace ac := bB ac hb; replace HB := hbB bH hb; (try clear hb hk ho0); obtain ⟨br, bs, a9⟩ := Kd.R_slice aK.out; subst a9; obtain ⟨cH, cI, cJ, cK⟩ := cL2 ac)))); refine bodyPost_ret (results_cell_row rfl _ _ ag 30 #[.slice br aZ.length bs, .int .i64 a6] (0, 0) _ rfl (kB) Tryd.underlying30 rfl (by kernel_rfl)) rfl ?_; exact ⟨_, rE, uR (Kd.R_mono (Kd.R_far (p := ⟨ag, 1, none⟩) (Kd.R_far (p := ⟨ag, 0, none⟩) (Kd.R_types aK.out ac.out (by decide)) (fun _ hk => hk.2) (.slice br aZ.length bs)) (fun _ hk => hk.2) (.int .i64 a6)) (fun _ hk => trivial)), bH⟩
    ·rw [if_neg av] at H
     have bW := decide_eq_false av; have bX : decide (64 < ae.length) = false := decide_eq_false (by omega); clear av; have H' := mk0 H; clear H; have en := ai.out; have eo := aj.out; obtain ⟨cL, cM, cN, cO, cP, cQ⟩ := cL3 aa
     go_wp2_with (first | (go_at_call 22; (with_reducible refine (furrowref20_all.calls a0_0 (fun k_ => k_ < w.heap.size) _ _ l0_1 (fun k_ => k_ < w.heap.size) _ _ l0_2 ae _ ?side1 ?side2 aJ.out).mono ?_); (case side1 => exact Kd.V_mk aC.out (Kd.F_below (Kd.C_F k65_heap aA.out) bH)); (case side2 => exact Kd.V_mk aE.out (Kd.F_below (Kd.C_F k65_heap aD.out) bH)); rintro e cR ⟨a7, rfl, ho0, hb⟩; have ak := mk0 (Kd.N_lower (Kd.N_mono (ok' := fun k_ => k_ ≠ al ∧ k_ ≠ ag) ho0 (fun k_ hk_ => ⟨e2B hk_ ar aa, e2B hk_ au ac⟩)) (below_size bH)); replace aa := bB aa hb; replace ac := bB ac hb; replace HB := hbB bH hb; (try clear hb ho0); obtain ⟨bZ, bu, a_⟩ := Kd.N_slice ak.out; subst a_))
     (repeat (go_quiet (first | (go_at_call 22; (with_reducible refine (furrowref20_all.calls a0_0 (fun k_ => k_ < w.heap.size) _ _ l0_1 (fun k_ => k_ < w.heap.size) _ _ l0_2 ae _ ?side1 ?side2 aJ.out).mono ?_); (case side1 => exact Kd.V_mk aC.out (Kd.F_below (Kd.C_F k65_heap aA.out) bH)); (case side2 => exact Kd.V_mk aE.out (Kd.F_below (Kd.C_F k65_heap aD.out) bH)); rintro e cR ⟨a7, rfl, ho0, hb⟩; have ak := mk0 (Kd.N_lower (Kd.N_mono (ok' := fun k_ => k_ ≠ al ∧ k_ ≠ ag) ho0 (fun k_ hk_ => ⟨e2B hk_ ar aa, e2B hk_ au ac⟩)) (below_size bH)); replace aa := bB aa hb; replace ac := bB ac hb; replace HB := hbB bH hb; (try clear hb ho0); obtain ⟨bZ, bu, a_⟩ := Kd.N_slice ak.out; subst a_)); try go_wp2_with (first | (go_at_call 22; (with_reducible refine (furrowref20_all.calls a0_0 (fun k_ => k_ < w.heap.size) _ _ l0_1 (fun k_ => k_ < w.heap.size) _ _ l0_2 ae _ ?side1 ?side2 aJ.out).mono ?_); (case side1 => exact Kd.V_mk aC.out (Kd.F_below (Kd.C_F k65_heap aA.out) bH)); (case side2 => exact Kd.V_mk aE.out (Kd.F_below (Kd.C_F k65_heap aD.out) bH)); rintro e cR ⟨a7, rfl, ho0, hb⟩; have ak := mk0 (Kd.N_lower (Kd.N_mono (ok' := fun k_ => k_ ≠ al ∧ k_ ≠ ag) ho0 (fun k_ hk_ => ⟨e2B hk_ ar aa, e2B hk_ au ac⟩)) (below_size bH)); replace aa := bB aa hb; replace ac := bB ac hb; replace HB := hbB bH hb; (try clear hb ho0); obtain ⟨bZ, bu, a_⟩ := Kd.N_slice ak.out; subst a_))))
     go_loopg [4] kj1 (fun kq v4 w' => ∃ (x4_2 : Int) (bv : Int), v4 = .int .i64 x4_2 ∧ Aside0 (furrowref20_Check.l0 kq ae x4_2 a0_0 l0_1 l0_2 = some (r1, r2)) ∧ Aside0 (kq ≤ kj1) ∧ Aside0 (Kd.N k65 65 w' w.heap.size (fun k_ => k_ ≠ al ∧ k_ ≠ ag) (.slice bZ ae.length bu) ae) ∧ Aside0 (w'.heap[al]? = some (.cells #[.int .i64 a0_0, (.slice A0_1 l0_1.length c0_1), (.slice A0_2 l0_2.length c0_2)] 34 (0, 0))) ∧ Aside0 (w'.heap[ag]? = some (.cells #[(.slice none 0 0), .int .i64 bv] 30 (0, 0))) ∧ Aside0 (Below w.heap.size w w'))
     case atStart => exact ⟨(0), (0), eK, H', ⟨Nat.le_refl _⟩, ⟨uN ak.out⟩, ⟨uB aa.out⟩, ⟨uB ac.out⟩, ⟨bH⟩⟩
     case round =>
      clear H'; (try clear aH av bW bX cL cM cN cO cP cQ); obtain ⟨x4_2, bv, rfl, HA, aM, af, aa, ac, HB⟩ := hrel
      cases gk with
      | zero => exact absurd HA.out (by simp [furrowref20_Check.l0])
      | succ k2 =>
       have H := HA.out; clear HA; simp only [furrowref20_Check.l0] at H
       by_cases ax : x4_2 < (ae.length : Int)
       ·rw [if_pos ax] at H
        have cS := decide_eq_true ax; clear ax
        by_cases ba : 0 ≤ x4_2
        ·rw [if_pos ba] at H
         have dt := decide_eq_true ba; clear ba
         by_cases aw : (((rd_T65 ae x4_2).f0).length : Int) = a0_0
         ·rw [if_pos aw] at H
          have cT : ((((rd_T65 ae x4_2).f0).length : Int) == a0_0) = true := beq_iff_eq.mpr aw; have cU : ((((rd_T65 ae x4_2).f0).length : Int) != a0_0) = false := bne_eq_false_iff_eq.mpr aw; clear aw; obtain ⟨bw, b3, H⟩ := oB H; have H' := mk0 H; clear H; have ao : 0 ≤ (x4_2 : Int) := dY; have ap : x4_2 < (ae.length : Int) := dY; obtain ⟨bx, b4, du, b5, bb, cV, bc, bd⟩ := at_T65 (Kd.N_reads' af.out).2.2 x4_2 ao ap
          cases b5
          obtain ⟨dv, b6, b7, bf⟩ := Kd.N_get af.out z65 x4_2 ao (by first | exact ap | exact dY | (have e_ := (Kd.N_reads' af.out).1; omega)); obtain ⟨dw, dx, rfl, ay, az⟩ := k65_openF b7; have aq := bf 0 _ rfl; rw [Nat.add_zero] at aq; replace aq := Option.some.inj (aq.symm.trans bb); injection aq with hva_ hvn_ hvc_; rw [hva_] at az; rw [hvc_] at ay; have dy := mk0 (show Kd.V (Kd.int .i64) 2 _ w.heap.size _ _ ((rd_T65 ae x4_2).f0) from Kd.V_mk ay az); clear hva_ hvn_ hvc_ az ay; clear bf b6; have ah := mk0 bd; have dz := mk0 bc; clear bd bc; replace ao := eq_true ao; replace ap := eq_true ap; have ep := ai.out; have eq := aj.out; obtain ⟨dA, dB, dC, dD, dE, dF⟩ := cL3 aa; have bg : 0 ≤ (x4_2 : Int) := dY; have bh : x4_2 < (ae.length : Int) := dY; obtain ⟨dG, er, es, dH, b8, dI, cW, cX⟩ := at_T65 (Kd.N_reads' af.out).2.2 x4_2 bg bh; obtain rfl : bx = dG := (by injection dH); obtain ⟨et, dJ, dK, cY⟩ := Kd.N_get af.out z65 x4_2 bg (by first | exact bh | exact dY | (have e_ := (Kd.N_reads' af.out).1; omega)); obtain ⟨eu, ew, rfl, b9, ca⟩ := k65_openF dK; have bz := cY 0 _ rfl; rw [Nat.add_zero] at bz; replace bz := Option.some.inj (bz.symm.trans b8); injection bz with hva_ hvn_ hvc_; rw [hva_] at ca; rw [hvc_] at b9; have ex := mk0 (show Kd.V (Kd.int .i64) 2 _ w.heap.size _ _ ((rd_T65 ae x4_2).f0) from Kd.V_mk b9 ca); clear hva_ hvn_ hvc_ ca b9; clear cY dJ; have am := mk0 cX; have ey := mk0 cW; clear cX cW; replace bg := eq_true bg; replace bh := eq_true bh; have ea_ := Option.some.inj (bb.symm.trans b8); injection ea_ with ea_ en_ ec_; subst ea_; subst ec_; clear en_
          go_wp2_with (first | (go_at_call 23; (with_reducible refine (furrowref20_beyond.calls ((rd_T65 ae x4_2).f1) 1073741824 bw _ b3.out).mono ?_); rintro e w' ⟨rfl, ⟨nd, rfl⟩⟩; (try first | exact ⟨rfl, _, World.drewN_drewN _ _ _⟩ | exact ⟨rfl, _, Eq.trans (World.drewN_drewN _ _ _) (congrArg (World.drewN _) (Nat.add_assoc _ _ _))⟩)))
          (repeat (go_quiet (first | (go_at_call 23; (with_reducible refine (furrowref20_beyond.calls ((rd_T65 ae x4_2).f1) 1073741824 bw _ b3.out).mono ?_); rintro e w' ⟨rfl, ⟨nd, rfl⟩⟩; (try first | exact ⟨rfl, _, World.drewN_drewN _ _ _⟩ | exact ⟨rfl, _, Eq.trans (World.drewN_drewN _ _ _) (congrArg (World.drewN _) (Nat.add_assoc _ _ _))⟩))); try go_wp2_with (first | (go_at_call 23; (with_reducible refine (furrowref20_beyond.calls ((rd_T65 ae x4_2).f1) 1073741824 bw _ b3.out).mono ?_); rintro e w' ⟨rfl, ⟨nd, rfl⟩⟩; (try first | exact ⟨rfl, _, World.drewN_drewN _ _ _⟩ | exact ⟨rfl, _, Eq.trans (World.drewN_drewN _ _ _) (congrArg (World.drewN _) (Nat.add_assoc _ _ _))⟩)))))
          go_loopg [5, 6] k2 (fun kq v5 v6 w' => ∃ (x5_3 : Bool) (x6_3 : Int), v5 = .bool x5_3 ∧ v6 = .int .i64 x6_3 ∧ Aside0 (furrowref20_Check.l1 kq ae x4_2 x5_3 x6_3 a0_0 l0_1 l0_2 = some (r1, r2)) ∧ Aside0 (kq ≤ k2) ∧ Aside0 (Kd.N k65 65 w' w.heap.size (fun k_ => k_ ≠ al ∧ k_ ≠ ag) (.slice (some bx) ae.length bu) ae) ∧ Aside0 (w'.heap[al]? = some (.cells #[.int .i64 a0_0, (.slice A0_1 l0_1.length c0_1), (.slice A0_2 l0_2.length c0_2)] 34 (0, 0))) ∧ Aside0 (w'.heap[ag]? = some (.cells #[(.slice none 0 0), .int .i64 bv] 30 (0, 0))) ∧ Aside0 (Kd.C (Kd.int .i64) w' b4 ((rd_T65 ae x4_2).f0).length ((rd_T65 ae x4_2).f0)) ∧ Aside0 (Kd.C (Kd.int .i64) w' b4 ((rd_T65 ae x4_2).f0).length ((rd_T65 ae x4_2).f0)) ∧ Aside0 (Below w.heap.size w w'))
          case atStart => exact ⟨(bw), (0), eK, eK, H', ⟨Nat.le_refl _⟩, ⟨uN af.out⟩, ⟨uB aa.out⟩, ⟨uB ac.out⟩, ⟨by repeat (first | (with_reducible exact ah.out) | (with_reducible refine Kd.C_alloc ?_ _) | (with_reducible refine Kd.C_drewN ?_ _) | (with_reducible refine Kd.C_drew ?_) | exact ah.out)⟩, ⟨by repeat (first | (with_reducible exact am.out) | (with_reducible refine Kd.C_alloc ?_ _) | (with_reducible refine Kd.C_drewN ?_ _) | (with_reducible refine Kd.C_drew ?_) | exact am.out)⟩, ⟨bH⟩⟩
          case round =>
           clear H'; (try clear aH av bW bX ax cS ba dt aw cT cU cL cM cN dA dB dC cO cP cQ dD dE dF bb cV b8 dI ao bg ap bh); obtain ⟨x5_3, x6_3, rfl, rfl, HA, aN, af, aa, ac, ah, am, HB⟩ := hrel
           cases gk with
           | zero => exact absurd HA.out (by simp [furrowref20_Check.l1])
           | succ k3 =>
            have H := HA.out; clear HA; simp only [furrowref20_Check.l1] at H
            by_cases aQ : x6_3 < a0_0
            ·rw [if_pos aQ] at H
             have dL := decide_eq_true aQ; clear aQ
             by_cases bC : x5_3 = true
             ·subst bC
              replace H := iT H; have H' := mk0 H; clear H; have ez := ai.out; have eA := aj.out; obtain ⟨eB, eC, eD, eE, eF, eG⟩ := cL3 aa; go_wp2; (repeat (go_quiet (fail); try go_wp2))
              go_roundg k3
              case measure => have := aG.out; have := aM.out; have := aN.out; omega
              case rel => exact ⟨(true), (wrap64 (x6_3 + 1)), eK, eK, H', ⟨by have := aG.out; have := aM.out; have := aN.out; omega⟩, ⟨uN af.out⟩, ⟨uB aa.out⟩, ⟨uB ac.out⟩, ⟨by repeat (first | (with_reducible exact ah.out) | (with_reducible refine Kd.C_alloc ?_ _) | (with_reducible refine Kd.C_drewN ?_ _) | (with_reducible refine Kd.C_drew ?_) | exact ah.out)⟩, ⟨by repeat (first | (with_reducible exact am.out) | (with_reducible refine Kd.C_alloc ?_ _) | (with_reducible refine Kd.C_drewN ?_ _) | (with_reducible refine Kd.C_drew ?_) | exact am.out)⟩, ⟨bH⟩⟩
             ·replace bC := Bool.eq_false_iff.mpr bC
              subst bC; replace H := iF H
              by_cases bE : 0 ≤ x4_2
              ·rw [if_pos bE] at H
               have eH := decide_eq_true bE; clear bE
               by_cases bF : x4_2 < (ae.length : Int)
               ·rw [if_pos bF] at H
                have eI := decide_eq_true bF; clear bF
                by_cases bG : 0 ≤ x6_3
                ·rw [if_pos bG] at H
                 have eJ := decide_eq_true bG; clear bG
                 by_cases bI : x6_3 < (((rd_T65 ae x4_2).f0).length : Int)
                 ·rw [if_pos bI] at H
                  have eL := decide_eq_true bI; clear bI; obtain ⟨bJ, cd, H⟩ := oB H; have H' := mk0 H; clear H; have eM := ai.out; have eN := aj.out; obtain ⟨eO, eP, eQ, eR, eS, eT⟩ := cL3 aa; have bK : 0 ≤ (x4_2 : Int) := dY; have bL : x4_2 < (ae.length : Int) := dY; obtain ⟨dM, eU, eV, dN, dO, eW, cZ, c_⟩ := at_T65 (Kd.N_reads' af.out).2.2 x4_2 bK bL; obtain rfl : bx = dM := (by injection dN); obtain ⟨eX, dP, dQ, da⟩ := Kd.N_get af.out z65 x4_2 bK (by first | exact bL | exact dY | (have e_ := (Kd.N_reads' af.out).1; omega)); obtain ⟨eY, eZ, rfl, ce, cf⟩ := k65_openF dQ; have bM := da 0 _ rfl; rw [Nat.add_zero] at bM; replace bM := Option.some.inj (bM.symm.trans dO); injection bM with hva_ hvn_ hvc_; rw [hva_] at cf; rw [hvc_] at ce; have e4 := mk0 (show Kd.V (Kd.int .i64) 2 _ w.heap.size _ _ ((rd_T65 ae x4_2).f0) from Kd.V_mk ce cf); clear hva_ hvn_ hvc_ cf ce; clear da dP; have dR := mk0 c_; have e5 := mk0 cZ; clear c_ cZ; replace bK := eq_true bK; replace bL := eq_true bL; have cg : 0 ≤ (x6_3 : Int) := dY; have ch : x6_3 < (((rd_T65 ae x4_2).f0).length : Int) := dY; obtain ⟨e6, dS, e7⟩ := Kd.at_int dR.out x6_3 cg ch
                  cases dS
                  replace cg := eq_true cg; replace ch := eq_true ch
                  go_wp2_with (first | (go_at_call 23; (with_reducible refine (furrowref20_beyond.calls (rd ((rd_T65 ae x4_2).f0) x6_3) 1073741824 bJ _ cd.out).mono ?_); rintro e w' ⟨rfl, ⟨nd, rfl⟩⟩; (try first | exact ⟨rfl, _, World.drewN_drewN _ _ _⟩ | exact ⟨rfl, _, Eq.trans (World.drewN_drewN _ _ _) (congrArg (World.drewN _) (Nat.add_assoc _ _ _))⟩)))
                  (repeat (go_quiet (first | (go_at_call 23; (with_reducible refine (furrowref20_beyond.calls (rd ((rd_T65 ae x4_2).f0) x6_3) 1073741824 bJ _ cd.out).mono ?_); rintro e w' ⟨rfl, ⟨nd, rfl⟩⟩; (try first | exact ⟨rfl, _, World.drewN_drewN _ _ _⟩ | exact ⟨rfl, _, Eq.trans (World.drewN_drewN _ _ _) (congrArg (World.drewN _) (Nat.add_assoc _ _ _))⟩))); try go_wp2_with (first | (go_at_call 23; (with_reducible refine (furrowref20_beyond.calls (rd ((rd_T65 ae x4_2).f0) x6_3) 1073741824 bJ _ cd.out).mono ?_); rintro e w' ⟨rfl, ⟨nd, rfl⟩⟩; (try first | exact ⟨rfl, _, World.drewN_drewN _ _ _⟩ | exact ⟨rfl, _, Eq.trans (World.drewN_drewN _ _ _) (congrArg (World.drewN _) (Nat.add_assoc _ _ _))⟩)))))
                  go_roundg k3
                  case measure => have := aG.out; have := aM.out; have := aN.out; omega
                  case rel => exact ⟨(bJ), (wrap64 (x6_3 + 1)), eK, eK, H', ⟨by have := aG.out; have := aM.out; have := aN.out; omega⟩, ⟨uN af.out⟩, ⟨uB aa.out⟩, ⟨uB ac.out⟩, ⟨by repeat (first | (with_reducible exact ah.out) | (with_reducible refine Kd.C_alloc ?_ _) | (with_reducible refine Kd.C_drewN ?_ _) | (with_reducible refine Kd.C_drew ?_) | exact ah.out)⟩, ⟨by repeat (first | (with_reducible exact am.out) | (with_reducible refine Kd.C_alloc ?_ _) | (with_reducible refine Kd.C_drewN ?_ _) | (with_reducible refine Kd.C_drew ?_) | exact am.out)⟩, ⟨bH⟩⟩
                 ·exact nO H bI
                ·exact nO H bG
               ·exact nO H bF
              ·exact nO H bE
            ·rw [if_neg aQ] at H
             have dL := decide_eq_false aQ; clear aQ
             by_cases bO : x5_3 = true
             ·subst bO
              replace H := iT H; replace H := Option.bind_eq_some_iff.mp H; obtain ⟨⟨bi, bj⟩, db, H⟩ := H; dsimp only at H; have cj := mk0 db; clear db; simp only [Option.some.injEq, Prod.mk.injEq] at H; obtain ⟨rfl, rfl⟩ := H; have e8 := ai.out; have e9 := aj.out; obtain ⟨fa, fb, fc, fd, fe, ff⟩ := cL3 aa
              go_wp2_with (first | (go_at_call 21; (with_reducible refine (furrowref4_At.calls (⟨#[115, 121, 115]⟩ : ByteArray) x4_2 5 bi bj _ cj.out).mono ?_); rintro e dc ⟨dd, rfl, ho0, hb⟩; replace af := mk0 (Kd.N_elder' (uN af.out) (Kd.R_base ho0) hb); have aT := mk0 (Kd.R_lower ho0 (below_size bH)); replace aa := bB aa hb; replace ac := bB ac hb; replace ah := cB ah hb; replace am := cB am hb; replace HB := hbB bH hb; (try clear hb ho0); obtain ⟨bP, bQ, bk⟩ := Kd.R_slice aT.out; subst bk; obtain ⟨de, df, dg, dh⟩ := cL2 ac))
              (repeat (go_quiet (first | (go_at_call 21; (with_reducible refine (furrowref4_At.calls (⟨#[115, 121, 115]⟩ : ByteArray) x4_2 5 bi bj _ cj.out).mono ?_); rintro e dc ⟨dd, rfl, ho0, hb⟩; replace af := mk0 (Kd.N_elder' (uN af.out) (Kd.R_base ho0) hb); have aT := mk0 (Kd.R_lower ho0 (below_size bH)); replace aa := bB aa hb; replace ac := bB ac hb; replace ah := cB ah hb; replace am := cB am hb; replace HB := hbB bH hb; (try clear hb hk ho0); obtain ⟨bP, bQ, bk⟩ := Kd.R_slice aT.out; subst bk; obtain ⟨de, df, dg, dh⟩ := cL2 ac)); try go_wp2_with (first | (go_at_call 21; (with_reducible refine (furrowref4_At.calls (⟨#[115, 121, 115]⟩ : ByteArray) x4_2 5 bi bj _ cj.out).mono ?_); rintro e dc ⟨dd, rfl, ho0, hb⟩; replace af := mk0 (Kd.N_elder' (uN af.out) (Kd.R_base ho0) hb); have aT := mk0 (Kd.R_lower ho0 (below_size bH)); replace aa := bB aa hb; replace ac := bB ac hb; replace ah := cB ah hb; replace am := cB am hb; replace HB := hbB bH hb; (try clear hb hk ho0); obtain ⟨bP, bQ, bk⟩ := Kd.R_slice aT.out; subst bk; obtain ⟨de, df, dg, dh⟩ := cL2 ac)))); refine bodyPost_ret (results_cell_row rfl _ _ ag 30 #[.slice bP bi.length bQ, .int .i64 bj] (0, 0) _ rfl (kB) Tryd.underlying30 rfl (by kernel_rfl)) rfl ?_; exact ⟨_, rE, uR (Kd.R_mono (Kd.R_far (p := ⟨ag, 1, none⟩) (Kd.R_far (p := ⟨ag, 0, none⟩) (Kd.R_types aT.out ac.out (by decide)) (fun _ hk => hk.2) (.slice bP bi.length bQ)) (fun _ hk => hk.2) (.int .i64 bj)) (fun _ hk => trivial)), bH⟩
             ·replace bO := Bool.eq_false_iff.mpr bO
              subst bO; replace H := iF H; have H' := mk0 H; clear H; have fh := ai.out; have fi := aj.out; obtain ⟨fj, fk, fm, fo, fp, fq⟩ := cL3 aa; go_wp2; (repeat (go_quiet (fail); try go_wp2))
              go_roundg k3
              case measure => have := aG.out; have := aM.out; have := aN.out; omega
              case rel => exact ⟨(wrap64 (x4_2 + 1)), (bv), eK, H', ⟨by have := aG.out; have := aM.out; have := aN.out; omega⟩, ⟨uN af.out⟩, ⟨uB aa.out⟩, ⟨uB ac.out⟩, ⟨bH⟩⟩
         ·rw [if_neg aw] at H
          have cT : ((((rd_T65 ae x4_2).f0).length : Int) == a0_0) = false := beq_eq_false_iff_ne.mpr aw; have cU : ((((rd_T65 ae x4_2).f0).length : Int) != a0_0) = true := bne_iff_ne.mpr aw; replace H := Option.bind_eq_some_iff.mp H; obtain ⟨⟨bl, bm⟩, di, H⟩ := H; dsimp only at H; have ck := mk0 di; clear di; simp only [Option.some.injEq, Prod.mk.injEq] at H; obtain ⟨rfl, rfl⟩ := H; have ao : 0 ≤ (x4_2 : Int) := dY; have ap : x4_2 < (ae.length : Int) := dY; obtain ⟨bx, b4, du, b5, bb, cV, bc, bd⟩ := at_T65 (Kd.N_reads' af.out).2.2 x4_2 ao ap
          cases b5
          obtain ⟨dv, b6, b7, bf⟩ := Kd.N_get af.out z65 x4_2 ao (by first | exact ap | exact dY | (have e_ := (Kd.N_reads' af.out).1; omega)); obtain ⟨dw, dx, rfl, ay, az⟩ := k65_openF b7; have aq := bf 0 _ rfl; rw [Nat.add_zero] at aq; replace aq := Option.some.inj (aq.symm.trans bb); injection aq with hva_ hvn_ hvc_; rw [hva_] at az; rw [hvc_] at ay; have dy := mk0 (show Kd.V (Kd.int .i64) 2 _ w.heap.size _ _ ((rd_T65 ae x4_2).f0) from Kd.V_mk ay az); clear hva_ hvn_ hvc_ az ay; clear bf b6; have ah := mk0 bd; have dz := mk0 bc; clear bd bc; replace ao := eq_true ao; replace ap := eq_true ap; have ft := ai.out; have fu := aj.out; obtain ⟨fv, fw, fx, fy, fz, fA⟩ := cL3 aa
          go_wp2_with (first | (go_at_call 21; (with_reducible refine (furrowref4_At.calls (⟨#[115, 121, 115]⟩ : ByteArray) x4_2 1 bl bm _ ck.out).mono ?_); rintro e dj ⟨dk, rfl, ho0, hb⟩; replace af := mk0 (Kd.N_elder' (uN af.out) (Kd.R_base ho0) hb); have aU := mk0 (Kd.R_lower ho0 (below_size bH)); replace aa := bB aa hb; replace ac := bB ac hb; replace ah := cB ah hb; replace HB := hbB bH hb; (try clear hb ho0); obtain ⟨bR, bT, bn⟩ := Kd.R_slice aU.out; subst bn; obtain ⟨dl, dn, dp, dq⟩ := cL2 ac))
          (repeat (go_quiet (first | (go_at_call 21; (with_reducible refine (furrowref4_At.calls (⟨#[115, 121, 115]⟩ : ByteArray) x4_2 1 bl bm _ ck.out).mono ?_); rintro e dj ⟨dk, rfl, ho0, hb⟩; replace af := mk0 (Kd.N_elder' (uN af.out) (Kd.R_base ho0) hb); have aU := mk0 (Kd.R_lower ho0 (below_size bH)); replace aa := bB aa hb; replace ac := bB ac hb; replace ah := cB ah hb; replace HB := hbB bH hb; (try clear hb hk ho0); obtain ⟨bR, bT, bn⟩ := Kd.R_slice aU.out; subst bn; obtain ⟨dl, dn, dp, dq⟩ := cL2 ac)); try go_wp2_with (first | (go_at_call 21; (with_reducible refine (furrowref4_At.calls (⟨#[115, 121, 115]⟩ : ByteArray) x4_2 1 bl bm _ ck.out).mono ?_); rintro e dj ⟨dk, rfl, ho0, hb⟩; replace af := mk0 (Kd.N_elder' (uN af.out) (Kd.R_base ho0) hb); have aU := mk0 (Kd.R_lower ho0 (below_size bH)); replace aa := bB aa hb; replace ac := bB ac hb; replace ah := cB ah hb; replace HB := hbB bH hb; (try clear hb hk ho0); obtain ⟨bR, bT, bn⟩ := Kd.R_slice aU.out; subst bn; obtain ⟨dl, dn, dp, dq⟩ := cL2 ac)))); refine bodyPost_ret (results_cell_row rfl _ _ ag 30 #[.slice bR bl.length bT, .int .i64 bm] (0, 0) _ rfl (kB) Tryd.underlying30 rfl (by kernel_rfl)) rfl ?_; exact ⟨_, rE, uR (Kd.R_mono (Kd.R_far (p := ⟨ag, 1, none⟩) (Kd.R_far (p := ⟨ag, 0, none⟩) (Kd.R_types aU.out ac.out (by decide)) (fun _ hk => hk.2) (.slice bR bl.length bT)) (fun _ hk => hk.2) (.int .i64 bm)) (fun _ hk => trivial)), bH⟩
        ·exact nO H ba
       ·rw [if_neg ax] at H
        have cS := decide_eq_false ax; clear ax; simp only [Option.some.injEq, Prod.mk.injEq] at H; obtain ⟨rfl, rfl⟩ := H; have fC := aj.out; have fD := ai.out; obtain ⟨fE, fF, fG, fH⟩ := cL2 ac; go_wp2; (repeat (go_quiet (fail); try go_wp2)); refine bodyPost_ret (results_cell_row rfl _ _ ag 30 #[.slice none 0 0, .int .i64 0] (0, 0) _ rfl (kB) Tryd.underlying30 rfl (by kernel_rfl)) rfl ?_; exact ⟨_, rE, nK, bH⟩

end Go.Proofs.YtkkpgjkjkcmcbaaDoor.X
