-- PRINTED by print.py (a twelfth state) out of the translation. Not trusted: Lean checks it.
import Derived.Test.YtnkckdbjeemjeaaDoorYy0
import Derived.Test.YtnkckdbjeemjeaaDoorYy3
import Derived.Test.YtnkckdbjeemjeaaDoorHandO
namespace Go.Proofs.YtnkckdbjeemjeaaDoor.Y
open Go.Proofs.YtnkckdbjeemjeaaDoor.X Go.Proofs.YtnkckdbjeemjeaaDoor.Flt Go.Proofs.YtnkckdbjeemjeaaDoor.H Go.RowKit Go.Proofs.YtnkckdbjeemjeaaDoorW.PrintWords Go.Proofs.YtnkckdbjeemjeaaDoorW.PrintLast Go.Proofs.YtnkckdbjeemjeaaDoorW.PrintMore
attribute [local go_sem] max2_int min2_int max_two min_two max_three min_three max_four min_four   -- for this text's walks alone
set_option linter.unusedVariables false
set_option linter.unusedSimpArgs false

/-! ### lift_Of: function 9 -/
def lift_Of.f (k : Nat) (a0_0 : Int) (a0_1 : Int) (a0_2 : ByteArray) (l0_3 : List (S26)) (l1 : List ByteArray) : Option (List Int × Int × (List (Flt))) := (lift_of.f k a0_0 a0_1 a0_2 l0_3 l1).bind fun bt170 => (if (bt170.2.2.length : Int) = 0 then (some (bt170.1, bt170.2.1, ([] : List (Flt)))) else ((lift_fault2.f bt170.2.2).bind fun t178 => (some (([] : List Int), 0, t178))))
theorem lift_Of.mono : ∀ a0 a1 a2 a3 a4 k, LeO (lift_Of.f k a0 a1 a2 a3 a4) (lift_Of.f (k + 1) a0 a1 a2 a3 a4) := by
 intro a0 a1 a2 a3 a4 k
 have m0_ := @lift_of.mono; unfold lift_Of.f; exact lO_
set_option maxHeartbeats 8000000 in
set_option maxRecDepth 100000 in
theorem lift_Of.calls (k : Nat) (a0_0 : Int) (a0_1 : Int) (a0_2 : ByteArray) (A0_3 : Option Addr) (c0_3 : Nat) (l0_3 : List (S26)) (A1 : Option Addr) (c1 : Nat) (l1 : List ByteArray) (r1 : List Int) (r2 : Int) (r3 : List (Flt)) (w : World) (hr0_3 : Kd.C k26 w A0_3 l0_3.length l0_3) (hc0_3 : l0_3.length ≤ c0_3) (hr1 : Kd.C Kd.string w A1 l1.length l1) (hc1 : l1.length ≤ c1) (h : lift_Of.f k a0_0 a0_1 a0_2 l0_3 l1 = some (r1, r2, r3)) :
  Calls Tryd.prog 9 #[.agg #[.int .i64 a0_0, .int .i64 a0_1, .string a0_2, .slice A0_3 l0_3.length c0_3], .slice A1 l1.length c1] w fun e w' => ∃ v0_ v2_ : Value, e = .returned (.tuple #[.agg #[v0_, .int .i64 r2], errV v2_]) ∧ Kd.R (Kd.int .i64) 2 w' w.heap.size (fun _ => True) v0_ r1 ∧ Kd.R fltK 62 w' w.heap.size (fun _ => True) v2_ r3 ∧ Below w.heap.size w w' := by
 have hu26 := Tryd.underlying26
 have hu32 := Tryd.underlying32
 have m5 := mk0 hr0_3
 have m6 := mk0 hc0_3
 clear hr0_3 hc0_3
 have m7 := mk0 hr1
 have m8 := mk0 hc1
 clear hr1 hc1
 have HB := mk0 (Below.refl w.heap.size w)
 have H : ((lift_of.f k a0_0 a0_1 a0_2 l0_3 l1).bind fun mQ => (if (mQ.2.2.length : Int) = 0 then (some (mQ.1, mQ.2.1, ([] : List (Flt)))) else ((lift_fault2.f mQ.2.2).bind fun mR => (some (([] : List Int), 0, mR))))) = some (r1, r2, r3) := h
 clear h
 replace H := Option.bind_eq_some_iff.mp H
 obtain ⟨⟨mL, mM, mN⟩, m9, H⟩ := H
 dsimp only at H
 have A3 := mk0 m9
 clear m9
 by_cases c4 : (mN.length : Int) = 0
 ·rw [if_pos c4] at H
  obtain ⟨nc, ne⟩ := yQ c4; clear c4; simp only [Option.some.injEq, Prod.mk.injEq] at H; obtain ⟨rfl, rfl, rfl⟩ := H; go_enter Tryd.func9, Tryd.ntmps9
  go_wp2_with (first | ((with_reducible refine gate_dst (N := 2) rfl ?_); refine bxE 2 #[.int .i64 a0_0, .int .i64 a0_1, .string a0_2, .slice A0_3 l0_3.length c0_3] 26 ?_; intro ng hg w5 hbox hb; have mD := mk0 (hbox); have nh := gE (uL HB.out) hg; replace HB := hbB (uL HB.out) hb; clear hb hbox hg) | ((with_reducible refine gate_dst (N := 4) rfl ?_); refine bxE 4 #[.slice none 0 0, .int .i64 0] 32 ?_; intro mH hg w6 hbox hb; have mF := mk0 (hbox); have ni := gE bH hg; replace HB := hbB bH hb; have mS := nL mD hg; have mT := nG mD hg; replace mD := bB mD hb; clear hb hbox hg; have nv := mS.out; have nw := mT.out; obtain ⟨nx, ny, nz, nC, nE, nH, nJ, nM⟩ := cL4 mD) | ((with_reducible refine gate_dst (N := 11) rfl ?_); refine gsM (some 11) Tryd.func18 #[.agg #[.int .i64 a0_0, .int .i64 a0_1, .string a0_2, .slice A0_3 l0_3.length c0_3], .slice A1 l1.length c1] ?_; (with_reducible refine (lift_of.calls k a0_0 a0_1 a0_2 _ _ l0_3 _ _ l1 mL mM mN _ ?side1 ?side2 ?side3 ?side4 A3.out).mono ?_); (case side1 => exact uC (Kd.C_below m5.out HB.out)); (case side2 => exact m6.out); (case side3 => exact uC (Kd.C_below m7.out HB.out)); (case side4 => exact m8.out); rintro e w9 ⟨nj, nk, rfl, ho0, ho1, hb⟩; refine ⟨_, rfl, ?_⟩; have mJ := mk0 (Kd.R_lower ho0 (below_size bH)); have mG := mk0 (Kd.R_lower ho1 (below_size bH)); replace mD := bB mD hb; replace mF := bB mF hb; replace HB := hbB bH hb; (try clear hb ho0 ho1); (first | (have mV := cmpV_no mG.out (by with_reducible assumption)) | (have mV := cmpV_yes mG.out (by with_reducible assumption)) | skip); clear mG) | ((with_reducible refine gate_dst (N := 6) rfl ?_); refine bxE 6 #[.slice none 0 0, .int .i64 0] 32 ?_; intro mO hg nN hbox hb; replace mJ := rB mJ hb; have mP := mk0 (hbox); have nl := gE bH hg; replace HB := hbB bH hb; have mW := nL mD hg; have mX := nG mD hg; have mY := nL mF hg; have mZ := nG mF hg; replace mF := bB mF hb; clear hb hbox hg; obtain ⟨m2, m3, nm⟩ := Kd.R_slice mJ.out; subst nm; have nR := mX.out; have nS := mW.out; have nU := mZ.out; have nV := mY.out; obtain ⟨nW, nX, nY, nZ⟩ := cL2 mP; obtain ⟨n2, n4, n5, n7⟩ := cL2 mF))
  refine bodyPost_ret (results_ct rfl _ _ mH 32 #[.slice m2 mL.length m3, .int .i64 mM] (0, 0) _ rfl (kB) Tryd.underlying32 rfl (by kernel_rfl)) rfl ?_; exact ⟨_, (.slice none 0 0), rE, uR (Kd.R_mono (Kd.R_far (p := ⟨mH, 1, none⟩) (Kd.R_far (p := ⟨mH, 0, none⟩) (Kd.R_far (p := ⟨mO, 1, none⟩) (Kd.R_far (p := ⟨mO, 0, none⟩) (Kd.R_types (Kd.R_types mJ.out mP.out (by decide)) mF.out (by decide)) (fun _ hk => hk.1.2) (.slice m2 mL.length m3)) (fun _ hk => hk.1.2) (.int .i64 mM)) (fun _ hk => hk.2) (.slice m2 mL.length m3)) (fun _ hk => hk.2) (.int .i64 mM)) (fun _ hk => trivial)), nK, bH⟩
 ·rw [if_neg c4] at H
  obtain ⟨nc, ne⟩ := nQ c4; (have n9 : ¬ (mN = []) := fun h_ => c4 (by rw [h_]; rfl)); obtain ⟨mR, nn, H⟩ := oB H; simp only [Option.some.injEq, Prod.mk.injEq] at H; obtain ⟨rfl, rfl, rfl⟩ := H; go_enter Tryd.func9, Tryd.ntmps9
  go_wp2_with (first | ((with_reducible refine gate_dst (N := 2) rfl ?_); refine bxE 2 #[.int .i64 a0_0, .int .i64 a0_1, .string a0_2, .slice A0_3 l0_3.length c0_3] 26 ?_; intro ng hg n_ hbox hb; have mD := mk0 (hbox); have nh := gE (uL HB.out) hg; replace HB := hbB (uL HB.out) hb; clear hb hbox hg) | ((with_reducible refine gate_dst (N := 4) rfl ?_); refine bxE 4 #[.slice none 0 0, .int .i64 0] 32 ?_; intro mH hg oa hbox hb; have mF := mk0 (hbox); have ni := gE bH hg; replace HB := hbB bH hb; have mS := nL mD hg; have mT := nG mD hg; replace mD := bB mD hb; clear hb hbox hg; have ob := mS.out; have oc := mT.out; obtain ⟨od, oe, oh, ol, oo, ot, ou, ov⟩ := cL4 mD) | ((with_reducible refine gate_dst (N := 11) rfl ?_); refine gsM (some 11) Tryd.func18 #[.agg #[.int .i64 a0_0, .int .i64 a0_1, .string a0_2, .slice A0_3 l0_3.length c0_3], .slice A1 l1.length c1] ?_; (with_reducible refine (lift_of.calls k a0_0 a0_1 a0_2 _ _ l0_3 _ _ l1 mL mM mN _ ?side1 ?side2 ?side3 ?side4 A3.out).mono ?_); (case side1 => exact uC (Kd.C_below m5.out HB.out)); (case side2 => exact m6.out); (case side3 => exact uC (Kd.C_below m7.out HB.out)); (case side4 => exact m8.out); rintro e ow ⟨nj, nk, rfl, ho0, ho1, hb⟩; refine ⟨_, rfl, ?_⟩; have mJ := mk0 (Kd.R_lower ho0 (below_size bH)); have mG := mk0 (Kd.R_lower ho1 (below_size bH)); replace mD := bB mD hb; replace mF := bB mF hb; replace HB := hbB bH hb; (try clear hb hk ho0 ho1); (first | (have mV := cmpV_no mG.out (by with_reducible assumption)) | (have mV := cmpV_yes mG.out (by with_reducible assumption)) | skip)) | ((with_reducible refine gate_dst (N := 6) rfl ?_); refine bxE 6 #[.slice none 0 0, .int .i64 0] 32 ?_; intro mO hg ox hbox hb; replace mJ := rB mJ hb; replace mG := rB mG hb; have mP := mk0 (hbox); have nl := gE bH hg; replace HB := hbB bH hb; have mW := nL mD hg; have mX := nG mD hg; have mY := nL mF hg; have mZ := nG mF hg; replace mF := bB mF hb; clear hb hbox hg; obtain ⟨m_, na, np⟩ := Kd.R_slice mJ.out; subst np; have oy := mX.out; have oz := mW.out; have oA := mZ.out; have oD := mY.out; obtain ⟨oE, oF, oG, oH⟩ := cL2 mP; obtain ⟨nq, nb, nr⟩ := Kd.R_slice mG.out; subst nr) | ((with_reducible refine gate_dst (N := 18) rfl ?_); refine gsM (some 18) Tryd.func19 #[errV (.slice nq mN.length nb)] ?_; (with_reducible refine (lift_fault2.calls _ _ mN mR _ w.heap.size ?side1 (below_size bH) nn.out).mono ?_); (case side1 => exact (uR (Kd.R_mono (Kd.R_far (p := ⟨mO, 1, none⟩) (Kd.R_far (p := ⟨mO, 0, none⟩) (Kd.R_types mG.out mP.out (by decide)) (fun _ hk => hk.2) (.slice m_ mL.length na)) (fun _ hk => hk.2) (.int .i64 mM)) (fun _ h_ => h_.1)))); rintro e oI ⟨nt, rfl, ho0, hb⟩; refine ⟨_, rfl, ?_⟩; have m4 := mk0 ho0; replace mF := mk0 (blk_below (g := mH) (o := .cells #[.slice none 0 0, .int .i64 0] 32 (0, 0)) (kB) hb); replace HB := hbB bH hb; (try clear hb hk ho0); (first | (have nu := cmpV_no m4.out (by with_reducible assumption)) | (have nu := cmpV_yes m4.out (by with_reducible assumption)) | skip); obtain ⟨oJ, oK, oL, oM⟩ := cL2 mF))
  refine bodyPost_ret (results_ct rfl _ _ mH 32 #[.slice none 0 0, .int .i64 0] (0, 0) _ rfl (kB) Tryd.underlying32 rfl (by kernel_rfl)) rfl ?_; exact ⟨_, (nt), rE, nK, uR (Kd.R_mono (Kd.R_far (p := ⟨mH, 1, none⟩) (Kd.R_far (p := ⟨mH, 0, none⟩) (Kd.R_types m4.out mF.out (by decide)) (fun _ hk => hk.2) (.slice none 0 0)) (fun _ hk => hk.2) (.int .i64 0)) (fun _ hk => trivial)), bH⟩

/-! ### lift_Value: function 11 -/
def lift_Value.f (k : Nat) (a0_0 : Int) (a0_1 : Int) (a0_2 : ByteArray) (l0_3 : List (S26)) : Option (Int × (List (Flt))) := (lift_Of.f k a0_0 a0_1 a0_2 l0_3 ([] : List ByteArray)).bind fun bt182 => (some (bt182.2.1, bt182.2.2))
theorem lift_Value.mono : ∀ a0 a1 a2 a3 k, LeO (lift_Value.f k a0 a1 a2 a3) (lift_Value.f (k + 1) a0 a1 a2 a3) := by
 intro a0 a1 a2 a3 k
 have m0_ := @lift_Of.mono; unfold lift_Value.f; exact lO_
set_option maxHeartbeats 8000000 in
set_option maxRecDepth 100000 in
theorem lift_Value.calls (k : Nat) (a0_0 : Int) (a0_1 : Int) (a0_2 : ByteArray) (A0_3 : Option Addr) (c0_3 : Nat) (l0_3 : List (S26)) (r1 : Int) (r2 : List (Flt)) (w : World) (hr0_3 : Kd.C k26 w A0_3 l0_3.length l0_3) (hc0_3 : l0_3.length ≤ c0_3) (h : lift_Value.f k a0_0 a0_1 a0_2 l0_3 = some (r1, r2)) :
  Calls Tryd.prog 11 #[.agg #[.int .i64 a0_0, .int .i64 a0_1, .string a0_2, .slice A0_3 l0_3.length c0_3]] w fun e w' => ∃ v1_ : Value, e = .returned (.tuple #[.int .i64 r1, errV v1_]) ∧ Kd.R fltK 62 w' w.heap.size (fun _ => True) v1_ r2 ∧ Below w.heap.size w w' := by
 have hu26 := Tryd.underlying26
 have hu32 := Tryd.underlying32
 have mP := mk0 hr0_3
 have mQ := mk0 hc0_3
 clear hr0_3 hc0_3
 have HB := mk0 (Below.refl w.heap.size w)
 have H : ((lift_Of.f k a0_0 a0_1 a0_2 l0_3 ([] : List ByteArray)).bind fun mH => (some (mH.2.1, mH.2.2))) = some (r1, r2) := h
 clear h
 replace H := Option.bind_eq_some_iff.mp H
 obtain ⟨⟨mJ, mL, mR⟩, mM, H⟩ := H
 dsimp only at H
 have A2 := mk0 mM
 clear mM
 simp only [Option.some.injEq, Prod.mk.injEq] at H
 obtain ⟨rfl, rfl⟩ := H
 go_enter Tryd.func11, Tryd.ntmps11
 go_wp2_with (first | ((with_reducible refine gate_dst (N := 1) rfl ?_); refine bxE 1 #[.int .i64 a0_0, .int .i64 a0_1, .string a0_2, .slice A0_3 l0_3.length c0_3] 26 ?_; intro m2 hg w3 hbox hb; have mD := mk0 (hbox); have m3 := gE (uL HB.out) hg; replace HB := hbB (uL HB.out) hb; clear hb hbox hg; obtain ⟨m4, m5, m6, m7, m8, m9, m_, na⟩ := cL4 mD) | ((with_reducible refine gate_dst (N := 8) rfl ?_); refine gsM (some 8) Tryd.func9 #[.agg #[.int .i64 a0_0, .int .i64 a0_1, .string a0_2, .slice A0_3 l0_3.length c0_3], .slice none 0 0] ?_; (refine (lift_Of.calls k a0_0 a0_1 a0_2 _ _ l0_3 _ _ ([] : List ByteArray) mJ mL mR _ ?side1 ?side2 ?side3 ?side4 A2.out).mono ?_); (case side1 => exact uC (Kd.C_below mP.out HB.out)); (case side2 => exact mQ.out); (case side3 => exact Kd.C_nil _ _); (case side4 => exact Nat.le_refl _); rintro e w5 ⟨nb, mS, rfl, ho0, ho1, hb⟩; refine ⟨_, rfl, ?_⟩; have mG := mk0 (Kd.R_lower ho0 (below_size bH)); have mF := mk0 (Kd.R_lower ho1 (below_size bH)); replace mD := bB mD hb; replace HB := hbB bH hb; (try clear hb ho0 ho1); (first | (have mT := cmpV_no mF.out (by with_reducible assumption)) | (have mT := cmpV_yes mF.out (by with_reducible assumption)) | skip)) | ((with_reducible refine gate_dst (N := 4) rfl ?_); refine bxE 4 #[.slice none 0 0, .int .i64 0] 32 ?_; intro mN hg w6 hbox hb; replace mG := rB mG hb; replace mF := rB mF hb; have mO := mk0 (hbox); have nc := gE bH hg; replace HB := hbB bH hb; have mV := nL mD hg; have mW := nG mD hg; clear hb hbox hg; obtain ⟨mX, mY, mZ⟩ := Kd.R_slice mG.out; subst mZ; have ne := mW.out; have ng := mV.out; obtain ⟨nh, ni, nj, nk⟩ := cL2 mO))
 go_ret2
 exact ⟨(mS), rE, uR (Kd.R_mono (Kd.R_far (p := ⟨mN, 1, none⟩) (Kd.R_far (p := ⟨mN, 0, none⟩) (Kd.R_types mF.out mO.out (by decide)) (fun _ hk => hk.2) (.slice mX mJ.length mY)) (fun _ hk => hk.2) (.int .i64 mL)) (fun _ hk => trivial)), bH⟩

end Go.Proofs.YtnkckdbjeemjeaaDoor.Y
