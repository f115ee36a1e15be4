-- PRINTED by print.py (a twelfth state) out of the translation. Not trusted: Lean checks it.
import Derived.Test.YteeeoblpfepepaaDoorXx0
import Derived.Test.YteeeoblpfepepaaDoorXx1
import Derived.Test.YteeeoblpfepepaaDoorXx12
import Derived.Test.YteeeoblpfepepaaDoorXx14
import Derived.Test.YteeeoblpfepepaaDoorXx3
import Derived.Test.YteeeoblpfepepaaDoorHandB
namespace Go.Proofs.YteeeoblpfepepaaDoor.X
open Go.Proofs.YteeeoblpfepepaaDoor.Flt Go.Proofs.YteeeoblpfepepaaDoor.H Go.RowKit Go.Proofs.YteeeoblpfepepaaDoorW.PrintWords Go.Proofs.YteeeoblpfepepaaDoorW.PrintLast Go.Proofs.YteeeoblpfepepaaDoorW.PrintMore
attribute [local go_sem] max2_int min2_int max_two min_two max_three min_three max_four min_four   -- for this text's walks alone
set_option linter.unusedVariables false
set_option linter.unusedSimpArgs false

/-! ### furrowlaw3_EditBack: function 3 -/
def furrowlaw3_EditBack.j0 : Nat → List ByteArray → List ByteArray → List ByteArray → List (S38) → Bool → Option (Bool)
 | 0, _, _, _, _, _ => none
 | k + 1, x0, x5, x9, x11, x59 => if x59 = true then (some false) else ((edit_Apply.f k x9 x11).bind fun bt228 => (if (bt228.2.length : Int) = 0 then ((furrowref4_SameLines.f k x9 x0).bind fun t234 => (if t234 = true then ((furrowref4_SameLines.f k bt228.1 x5).bind fun t235 => (some t235)) else (some false))) else (some false)))
def furrowlaw3_EditBack.f (k : Nat) (l0 : List ByteArray) (l1 : List (S38)) : Option (Bool) := (furrowlaw3_known.f k).bind fun t202 => (if t202 = true then ((furrowlaw3_few.f k l0 l1).bind fun t203 => (if t203 = true then ((edit_Apply.f k l0 l1).bind fun bt204 => (if (bt204.2.length : Int) = 0 then ((edit_Back.f k l0 l1).bind fun bt210 => ((edit_Apply.f k bt204.1 bt210.1).bind fun bt216 => ((edit_Back.f k bt204.1 bt210.1).bind fun bt222 => (if (bt210.2.length : Int) = 0 then (if (bt216.2.length : Int) = 0 then (if (bt222.2.length : Int) = 0 then (furrowlaw3_EditBack.j0 k l0 bt204.1 bt216.1 bt222.1 false) else (furrowlaw3_EditBack.j0 k l0 bt204.1 bt216.1 bt222.1 true)) else (furrowlaw3_EditBack.j0 k l0 bt204.1 bt216.1 bt222.1 true)) else (furrowlaw3_EditBack.j0 k l0 bt204.1 bt216.1 bt222.1 true))))) else (some ((bt204.1.length : Int) == 0)))) else (some true))) else (some false))
theorem furrowlaw3_EditBack.mono_l : ∀ k, (∀ y0 y1 y2 y3 y4, LeO (furrowlaw3_EditBack.j0 k y0 y1 y2 y3 y4) (furrowlaw3_EditBack.j0 (k + 1) y0 y1 y2 y3 y4))
 | 0 => fun _ _ _ _ _ r h => by simp [furrowlaw3_EditBack.j0] at h
 | k + 1 => by
  have ih0 := furrowlaw3_EditBack.mono_l k
  ·intro y0 y1 y2 y3 y4
   unfold furrowlaw3_EditBack.j0
   repeat' first
   | (with_reducible exact ih0 _ _ _ _ _)
   | (with_reducible exact edit_Apply.mono _ _ _)
   | (with_reducible exact edit_Back.mono _ _ _)
   | (with_reducible exact furrowlaw3_few.mono _ _ _)
   | (with_reducible exact furrowlaw3_known.mono _)
   | (with_reducible exact furrowref4_SameLines.mono _ _ _)
   | (with_reducible exact LeO.refl _)
   | (with_reducible exact LeO.none _)
   | (with_reducible refine LeO.ite ?_ ?_)
   | (with_reducible refine LeO.bind ?_ (fun _ => ?_))
   | exact ih0 _ _ _ _ _
   | exact edit_Apply.mono _ _ _
   | exact edit_Back.mono _ _ _
   | exact furrowlaw3_few.mono _ _ _
   | exact furrowlaw3_known.mono _
   | exact furrowref4_SameLines.mono _ _ _
   | exact LeO.none _
   | refine LeO.ite ?_ ?_
   | refine LeO.bind ?_ (fun _ => ?_)
theorem furrowlaw3_EditBack.mono : ∀ a0 a1 k, LeO (furrowlaw3_EditBack.f k a0 a1) (furrowlaw3_EditBack.f (k + 1) a0 a1) := by
 intro a0 a1 k
 have ih0 := furrowlaw3_EditBack.mono_l k
 unfold furrowlaw3_EditBack.f
 repeat' first
   | (with_reducible exact ih0 _ _ _ _ _)
   | (with_reducible exact edit_Apply.mono _ _ _)
   | (with_reducible exact edit_Back.mono _ _ _)
   | (with_reducible exact furrowlaw3_few.mono _ _ _)
   | (with_reducible exact furrowlaw3_known.mono _)
   | (with_reducible exact furrowref4_SameLines.mono _ _ _)
   | (with_reducible exact LeO.refl _)
   | (with_reducible exact LeO.none _)
   | (with_reducible refine LeO.ite ?_ ?_)
   | (with_reducible refine LeO.bind ?_ (fun _ => ?_))
   | exact ih0 _ _ _ _ _
   | exact edit_Apply.mono _ _ _
   | exact edit_Back.mono _ _ _
   | exact furrowlaw3_few.mono _ _ _
   | exact furrowlaw3_known.mono _
   | exact furrowref4_SameLines.mono _ _ _
   | exact LeO.none _
   | refine LeO.ite ?_ ?_
   | refine LeO.bind ?_ (fun _ => ?_)
set_option maxHeartbeats 8000000 in
set_option maxRecDepth 100000 in
theorem furrowlaw3_EditBack.calls (k : Nat) (A0 : Option Addr) (c0 : Nat) (l0 : List ByteArray) (A1 : Option Addr) (c1 : Nat) (l1 : List (S38)) (w : World) (hr0 : Kd.C Kd.string w A0 l0.length l0) (hc0 : l0.length ≤ c0) (hr1 : Kd.C k38 w A1 l1.length l1) (hc1 : l1.length ≤ c1) (hG : Glob w) (h : furrowlaw3_EditBack.f k l0 l1 = some true) :
  Calls Tryd.prog 3 #[.slice A0 l0.length c0, .slice A1 l1.length c1] w fun e w' => e = .returned (.bool true) ∧ Below w.heap.size w w' := by
 have HR0 := mk0 hr0
 have HC0 := mk0 hc0
 clear hr0 hc0
 have HR1 := mk0 hr1
 have HC1 := mk0 hc1
 clear hr1 hc1
 have HG := mk0 hG
 clear hG
 have HB := mk0 (Below.refl w.heap.size w)
 have H : ((furrowlaw3_known.f k).bind fun t202 => (if t202 = true then ((furrowlaw3_few.f k l0 l1).bind fun t203 => (if t203 = true then ((edit_Apply.f k l0 l1).bind fun bt204 => (if (bt204.2.length : Int) = 0 then ((edit_Back.f k l0 l1).bind fun bt210 => ((edit_Apply.f k bt204.1 bt210.1).bind fun bt216 => ((edit_Back.f k bt204.1 bt210.1).bind fun bt222 => (if (bt210.2.length : Int) = 0 then (if (bt216.2.length : Int) = 0 then (if (bt222.2.length : Int) = 0 then (furrowlaw3_EditBack.j0 k l0 bt204.1 bt216.1 bt222.1 false) else (furrowlaw3_EditBack.j0 k l0 bt204.1 bt216.1 bt222.1 true)) else (furrowlaw3_EditBack.j0 k l0 bt204.1 bt216.1 bt222.1 true)) else (furrowlaw3_EditBack.j0 k l0 bt204.1 bt216.1 bt222.1 true))))) else (some ((bt204.1.length : Int) == 0)))) else (some true))) else (some false))) = some true := h
 clear h
 replace H := Option.bind_eq_some_iff.mp H
 obtain ⟨t202, A30, H⟩ := H
 replace H : (if t202 = true then ((furrowlaw3_few.f k l0 l1).bind fun t203 => (if t203 = true then ((edit_Apply.f k l0 l1).bind fun bt204 => (if (bt204.2.length : Int) = 0 then ((edit_Back.f k l0 l1).bind fun bt210 => ((edit_Apply.f k bt204.1 bt210.1).bind fun bt216 => ((edit_Back.f k bt204.1 bt210.1).bind fun bt222 => (if (bt210.2.length : Int) = 0 then (if (bt216.2.length : Int) = 0 then (if (bt222.2.length : Int) = 0 then (furrowlaw3_EditBack.j0 k l0 bt204.1 bt216.1 bt222.1 false) else (furrowlaw3_EditBack.j0 k l0 bt204.1 bt216.1 bt222.1 true)) else (furrowlaw3_EditBack.j0 k l0 bt204.1 bt216.1 bt222.1 true)) else (furrowlaw3_EditBack.j0 k l0 bt204.1 bt216.1 bt222.1 true))))) else (some ((bt204.1.length : Int) == 0)))) else (some true))) else (some false)) = some true := H
 have A3 := mk0 A30
 clear A30
 by_cases c4 : t202 = true
 ·subst c4
  have H1 : ((furrowlaw3_few.f k l0 l1).bind fun t203 => (if t203 = true then ((edit_Apply.f k l0 l1).bind fun bt204 => (if (bt204.2.length : Int) = 0 then ((edit_Back.f k l0 l1).bind fun bt210 => ((edit_Apply.f k bt204.1 bt210.1).bind fun bt216 => ((edit_Back.f k bt204.1 bt210.1).bind fun bt222 => (if (bt210.2.length : Int) = 0 then (if (bt216.2.length : Int) = 0 then (if (bt222.2.length : Int) = 0 then (furrowlaw3_EditBack.j0 k l0 bt204.1 bt216.1 bt222.1 false) else (furrowlaw3_EditBack.j0 k l0 bt204.1 bt216.1 bt222.1 true)) else (furrowlaw3_EditBack.j0 k l0 bt204.1 bt216.1 bt222.1 true)) else (furrowlaw3_EditBack.j0 k l0 bt204.1 bt216.1 bt222.1 true))))) else (some ((bt204.1.length : Int) == 0)))) else (some true))) = some true := by rw [if_pos rfl] at H; first | done | exact H
  clear H
  have H := H1
  clear H1
  replace H := Option.bind_eq_some_iff.mp H
  obtain ⟨t203, A50, H⟩ := H
  replace H : (if t203 = true then ((edit_Apply.f k l0 l1).bind fun bt204 => (if (bt204.2.length : Int) = 0 then ((edit_Back.f k l0 l1).bind fun bt210 => ((edit_Apply.f k bt204.1 bt210.1).bind fun bt216 => ((edit_Back.f k bt204.1 bt210.1).bind fun bt222 => (if (bt210.2.length : Int) = 0 then (if (bt216.2.length : Int) = 0 then (if (bt222.2.length : Int) = 0 then (furrowlaw3_EditBack.j0 k l0 bt204.1 bt216.1 bt222.1 false) else (furrowlaw3_EditBack.j0 k l0 bt204.1 bt216.1 bt222.1 true)) else (furrowlaw3_EditBack.j0 k l0 bt204.1 bt216.1 bt222.1 true)) else (furrowlaw3_EditBack.j0 k l0 bt204.1 bt216.1 bt222.1 true))))) else (some ((bt204.1.length : Int) == 0)))) else (some true)) = some true := H
  have A5 := mk0 A50
  clear A50
  by_cases c6 : t203 = true
  ·subst c6
   have H1 : ((edit_Apply.f k l0 l1).bind fun bt204 => (if (bt204.2.length : Int) = 0 then ((edit_Back.f k l0 l1).bind fun bt210 => ((edit_Apply.f k bt204.1 bt210.1).bind fun bt216 => ((edit_Back.f k bt204.1 bt210.1).bind fun bt222 => (if (bt210.2.length : Int) = 0 then (if (bt216.2.length : Int) = 0 then (if (bt222.2.length : Int) = 0 then (furrowlaw3_EditBack.j0 k l0 bt204.1 bt216.1 bt222.1 false) else (furrowlaw3_EditBack.j0 k l0 bt204.1 bt216.1 bt222.1 true)) else (furrowlaw3_EditBack.j0 k l0 bt204.1 bt216.1 bt222.1 true)) else (furrowlaw3_EditBack.j0 k l0 bt204.1 bt216.1 bt222.1 true))))) else (some ((bt204.1.length : Int) == 0)))) = some true := by rw [if_pos rfl] at H; first | done | exact H
   clear H
   have H := H1
   clear H1
   replace H := Option.bind_eq_some_iff.mp H
   obtain ⟨⟨t204, t205⟩, A70, H⟩ := H
   replace H : (if (t205.length : Int) = 0 then ((edit_Back.f k l0 l1).bind fun bt210 => ((edit_Apply.f k t204 bt210.1).bind fun bt216 => ((edit_Back.f k t204 bt210.1).bind fun bt222 => (if (bt210.2.length : Int) = 0 then (if (bt216.2.length : Int) = 0 then (if (bt222.2.length : Int) = 0 then (furrowlaw3_EditBack.j0 k l0 t204 bt216.1 bt222.1 false) else (furrowlaw3_EditBack.j0 k l0 t204 bt216.1 bt222.1 true)) else (furrowlaw3_EditBack.j0 k l0 t204 bt216.1 bt222.1 true)) else (furrowlaw3_EditBack.j0 k l0 t204 bt216.1 bt222.1 true))))) else (some ((t204.length : Int) == 0))) = some true := H
   have A7 := mk0 A70
   clear A70
   by_cases c8 : (t205.length : Int) = 0
   ·rw [if_pos c8] at H
    have c8b0 : ((t205.length : Int) == 0) = true := beq_iff_eq.mpr c8
    have c8b1 : ((t205.length : Int) != 0) = false := bne_eq_false_iff_eq.mpr c8
    clear c8
    replace H := Option.bind_eq_some_iff.mp H
    obtain ⟨⟨t210, t211⟩, A90, H⟩ := H
    replace H : ((edit_Apply.f k t204 t210).bind fun bt216 => ((edit_Back.f k t204 t210).bind fun bt222 => (if (t211.length : Int) = 0 then (if (bt216.2.length : Int) = 0 then (if (bt222.2.length : Int) = 0 then (furrowlaw3_EditBack.j0 k l0 t204 bt216.1 bt222.1 false) else (furrowlaw3_EditBack.j0 k l0 t204 bt216.1 bt222.1 true)) else (furrowlaw3_EditBack.j0 k l0 t204 bt216.1 bt222.1 true)) else (furrowlaw3_EditBack.j0 k l0 t204 bt216.1 bt222.1 true)))) = some true := H
    have A9 := mk0 A90
    clear A90
    replace H := Option.bind_eq_some_iff.mp H
    obtain ⟨⟨t216, t217⟩, A100, H⟩ := H
    replace H : ((edit_Back.f k t204 t210).bind fun bt222 => (if (t211.length : Int) = 0 then (if (t217.length : Int) = 0 then (if (bt222.2.length : Int) = 0 then (furrowlaw3_EditBack.j0 k l0 t204 t216 bt222.1 false) else (furrowlaw3_EditBack.j0 k l0 t204 t216 bt222.1 true)) else (furrowlaw3_EditBack.j0 k l0 t204 t216 bt222.1 true)) else (furrowlaw3_EditBack.j0 k l0 t204 t216 bt222.1 true))) = some true := H
    have A10 := mk0 A100
    clear A100
    replace H := Option.bind_eq_some_iff.mp H
    obtain ⟨⟨t222, t223⟩, A110, H⟩ := H
    replace H : (if (t211.length : Int) = 0 then (if (t217.length : Int) = 0 then (if (t223.length : Int) = 0 then (furrowlaw3_EditBack.j0 k l0 t204 t216 t222 false) else (furrowlaw3_EditBack.j0 k l0 t204 t216 t222 true)) else (furrowlaw3_EditBack.j0 k l0 t204 t216 t222 true)) else (furrowlaw3_EditBack.j0 k l0 t204 t216 t222 true)) = some true := H
    have A11 := mk0 A110
    clear A110
    have HC12 := mk0 H
    clear H
    go_enter Tryd.func3, Tryd.ntmps3
    go_upto_region 11 with (first | ((with_reducible refine gate_callee (f := 10) rfl ?_); refine goesL_ (some 15) rfl rfl Tryd.func10 (by kernel_rfl) rfl #[] rfl (by (try simp only [List.map_toArray, List.map_cons, List.map_nil]); first | done | rfl | (simp only [List.length_drop, List.length_take]; rfl)) ?_; (with_reducible refine (furrowlaw3_known.calls k   _ ?side1 A3.out).mono ?_); (case side1 => exact Glob.below HG.out (uL HB.out)); rintro e w13 ⟨rfl, hb⟩; refine ⟨_, rfl, ?_⟩; have n0_ := mk0 (below_step (uL HB.out) hb); clear HB; have HB := n0_; clear n0_; (try clear hb); (try clear hb2); (try clear hk); (try clear hi)) | ((with_reducible refine gate_callee (f := 11) rfl ?_); refine goesL_ (some 19) rfl rfl Tryd.func11 (by kernel_rfl) rfl #[.slice A0 l0.length c0, .slice A1 l1.length c1] rfl (by (try simp only [List.map_toArray, List.map_cons, List.map_nil]); first | done | rfl | (simp only [List.length_drop, List.length_take]; rfl)) ?_; (with_reducible refine (furrowlaw3_few.calls k _ _ l0 _ _ l1 true _ ?side1 ?side2 ?side3 ?side4 A5.out).mono ?_); (case side1 => repeat (first | exact (Kd.C_below HR0.out HB.out) | (with_reducible refine Kd.C_alloc ?_ _) | (with_reducible refine Kd.C_drewN ?_ _) | (with_reducible refine Kd.C_drew ?_))); (case side2 => exact HC0.out); (case side3 => repeat (first | exact (Kd.C_below HR1.out HB.out) | (with_reducible refine Kd.C_alloc ?_ _) | (with_reducible refine Kd.C_drewN ?_ _) | (with_reducible refine Kd.C_drew ?_))); (case side4 => exact HC1.out); rintro e w' ⟨rfl, ⟨nd, rfl⟩⟩; refine ⟨_, rfl, ?_⟩) | ((with_reducible refine gate_callee (f := 12) rfl ?_); refine goesL_ (some 24) rfl rfl Tryd.func12 (by kernel_rfl) rfl #[.slice A0 l0.length c0, .slice A1 l1.length c1] rfl (by (try simp only [List.map_toArray, List.map_cons, List.map_nil]); first | done | rfl | (simp only [List.length_drop, List.length_take]; rfl)) ?_; (with_reducible refine (edit_Apply.calls k _ _ l0 _ _ l1 t204 t205 _ ?side1 ?side2 ?side3 ?side4 A7.out).mono ?_); (case side1 => repeat (first | exact (Kd.C_below HR0.out (uL HB.out)) | (with_reducible refine Kd.C_alloc ?_ _) | (with_reducible refine Kd.C_drewN ?_ _) | (with_reducible refine Kd.C_drew ?_))); (case side2 => exact HC0.out); (case side3 => repeat (first | exact (Kd.C_below HR1.out (uL HB.out)) | (with_reducible refine Kd.C_alloc ?_ _) | (with_reducible refine Kd.C_drewN ?_ _) | (with_reducible refine Kd.C_drew ?_))); (case side4 => exact HC1.out); rintro e w14 ⟨v206, v208, rfl, ho0, ho1, hb⟩; refine ⟨_, rfl, ?_⟩; have n0_ := mk0 (Kd.R_lower ho0 (below_size (uL HB.out))); have n1_ := mk0 (Kd.R_lower ho1 (below_size (uL HB.out))); have n2_ := mk0 (below_step (uL HB.out) hb); clear HB; have HO207 := n0_; have HO209 := n1_; have HB := n2_; clear n0_ n1_ n2_; (try clear hb); (try clear hb2); (try clear hk); (try clear hi); (try clear ho0); (try clear ho1); (first | (have EHO209 := cmpV_no HO209.out (by with_reducible assumption)) | (have EHO209 := cmpV_yes HO209.out (by with_reducible assumption)) | skip)) | ((with_reducible refine gate_callee (f := 13) rfl ?_); refine goesL_ (some 35) rfl rfl Tryd.func13 (by kernel_rfl) rfl #[.slice A0 l0.length c0, .slice A1 l1.length c1] rfl (by (try simp only [List.map_toArray, List.map_cons, List.map_nil]); first | done | rfl | (simp only [List.length_drop, List.length_take]; rfl)) ?_; (with_reducible refine (edit_Back.calls k _ _ l0 _ _ l1 t210 t211 _ ?side1 ?side2 ?side3 ?side4 ?side5 A9.out).mono ?_); (case side1 => repeat (first | exact (Kd.C_below HR0.out HB.out) | (with_reducible refine Kd.C_alloc ?_ _) | (with_reducible refine Kd.C_drewN ?_ _) | (with_reducible refine Kd.C_drew ?_))); (case side2 => exact HC0.out); (case side3 => repeat (first | exact (Kd.C_below HR1.out HB.out) | (with_reducible refine Kd.C_alloc ?_ _) | (with_reducible refine Kd.C_drewN ?_ _) | (with_reducible refine Kd.C_drew ?_))); (case side4 => exact HC1.out); (case side5 => exact Glob.below HG.out (uL HB.out)); rintro e w15 ⟨v212, v214, rfl, ho0, ho1, hb⟩; refine ⟨_, rfl, ?_⟩; have n0_ := mk0 (Kd.R_below (uR HO207.out) hb); have n1_ := mk0 (Kd.R_elder' (uR HO209.out) (Kd.R_base ho1) hb); have n2_ := mk0 (Kd.S_lower (Kd.S_new' ho0 (Kd.R_lt (uR HO207.out))) (below_size (uL HB.out))); have n3_ := mk0 (Kd.R_lower (Kd.R_new' ho1 (Kd.R_lt (uR HO209.out))) (below_size (uL HB.out))); have n4_ := mk0 (below_step (uL HB.out) hb); clear HO207; clear HO209; clear HB; have HO207 := n0_; have HO209 := n1_; have HO213 := n2_; have HO215 := n3_; have HB := n4_; clear n0_ n1_ n2_ n3_ n4_; (try clear hb); (try clear hb2); (try clear hk); (try clear hi); (try clear ho0); (try clear ho1); (first | (have EHO215 := cmpV_no HO215.out (by with_reducible assumption)) | (have EHO215 := cmpV_yes HO215.out (by with_reducible assumption)) | skip); obtain ⟨Ao16, co16, eo16⟩ := Kd.R_slice HO207.out; subst eo16; obtain ⟨Ao17, co17, eo17⟩ := Kd.S_slice HO213.out; subst eo17) | ((with_reducible refine gate_callee (f := 12) rfl ?_); refine goesL_ (some 41) rfl rfl Tryd.func12 (by kernel_rfl) rfl #[.slice Ao16 t204.length co16, .slice Ao17 t210.length co17] rfl (by (try simp only [List.map_toArray, List.map_cons, List.map_nil]); first | done | rfl | (simp only [List.length_drop, List.length_take]; rfl)) ?_; (with_reducible refine (edit_Apply.calls k _ _ t204 _ _ t210 t216 t217 _ ?side1 ?side2 ?side3 ?side4 A10.out).mono ?_); (case side1 => repeat (first | exact (Kd.R_reads' HO207.out).2.2 | (with_reducible refine Kd.C_alloc ?_ _) | (with_reducible refine Kd.C_drewN ?_ _) | (with_reducible refine Kd.C_drew ?_))); (case side2 => exact (Kd.R_reads' HO207.out).2.1); (case side3 => repeat (first | exact (Kd.S_reads' HO213.out).2.2 | (with_reducible refine Kd.C_alloc ?_ _) | (with_reducible refine Kd.C_drewN ?_ _) | (with_reducible refine Kd.C_drew ?_))); (case side4 => exact (Kd.S_reads' HO213.out).2.1); rintro e w18 ⟨v218, v220, rfl, ho0, ho1, hb⟩; refine ⟨_, rfl, ?_⟩; have n0_ := mk0 (Kd.R_elder' (uR HO207.out) (Kd.R_base ho0) hb); have n1_ := mk0 (Kd.R_elder' (uR HO209.out) (Kd.R_base ho1) hb); have n2_ := mk0 (Kd.S_elder' (by (with_reducible repeat (first | apply Kd.S_alloc | apply Kd.S_drewN | apply Kd.S_drew)); exact HO213.out) (Kd.R_base ho0) hb); have n3_ := mk0 (Kd.R_elder' (uR HO215.out) (Kd.R_base ho1) hb); have n4_ := mk0 (Kd.R_lower (Kd.R_new' ho0 (Kd.R_lt (uR HO207.out))) (below_size (uL HB.out))); have n5_ := mk0 (Kd.R_lower (Kd.R_new' (Kd.R_new' ho1 (Kd.R_lt (uR HO209.out))) (Kd.R_lt (uR HO215.out))) (below_size (uL HB.out))); have n6_ := mk0 (below_step (uL HB.out) hb); clear HO207; clear HO209; clear HO213; clear HO215; clear HB; have HO207 := n0_; have HO209 := n1_; have HO213 := n2_; have HO215 := n3_; have HO219 := n4_; have HO221 := n5_; have HB := n6_; clear n0_ n1_ n2_ n3_ n4_ n5_ n6_; (try clear hb); (try clear hb2); (try clear hk); (try clear hi); (try clear ho0); (try clear ho1); (first | (have EHO221 := cmpV_no HO221.out (by with_reducible assumption)) | (have EHO221 := cmpV_yes HO221.out (by with_reducible assumption)) | skip)) | ((with_reducible refine gate_callee (f := 13) rfl ?_); refine goesL_ (some 47) rfl rfl Tryd.func13 (by kernel_rfl) rfl #[.slice Ao16 t204.length co16, .slice Ao17 t210.length co17] rfl (by (try simp only [List.map_toArray, List.map_cons, List.map_nil]); first | done | rfl | (simp only [List.length_drop, List.length_take]; rfl)) ?_; (with_reducible refine (edit_Back.calls k _ _ t204 _ _ t210 t222 t223 _ ?side1 ?side2 ?side3 ?side4 ?side5 A11.out).mono ?_); (case side1 => repeat (first | exact (Kd.R_reads' HO207.out).2.2 | (with_reducible refine Kd.C_alloc ?_ _) | (with_reducible refine Kd.C_drewN ?_ _) | (with_reducible refine Kd.C_drew ?_))); (case side2 => exact (Kd.R_reads' HO207.out).2.1); (case side3 => repeat (first | exact (Kd.S_reads' HO213.out).2.2 | (with_reducible refine Kd.C_alloc ?_ _) | (with_reducible refine Kd.C_drewN ?_ _) | (with_reducible refine Kd.C_drew ?_))); (case side4 => exact (Kd.S_reads' HO213.out).2.1); (case side5 => exact Glob.below HG.out (uL HB.out)); rintro e w19 ⟨v224, v226, rfl, ho0, ho1, hb⟩; refine ⟨_, rfl, ?_⟩; have n0_ := mk0 (Kd.R_below (uR HO207.out) hb); have n1_ := mk0 (Kd.R_elder' (uR HO209.out) (Kd.R_base ho1) hb); have n2_ := mk0 (Kd.S_elder' (by (with_reducible repeat (first | apply Kd.S_alloc | apply Kd.S_drewN | apply Kd.S_drew)); exact HO213.out) (Kd.S_base ho0) hb); have n3_ := mk0 (Kd.R_elder' (uR HO215.out) (Kd.R_base ho1) hb); have n4_ := mk0 (Kd.R_below (uR HO219.out) hb); have n5_ := mk0 (Kd.R_elder' (uR HO221.out) (Kd.R_base ho1) hb); have n6_ := mk0 (Kd.S_lower (Kd.S_new' (Kd.S_new' (Kd.S_new' ho0 (Kd.R_lt (uR HO207.out))) (Kd.S_lt (by (with_reducible repeat (first | apply Kd.S_alloc | apply Kd.S_drewN | apply Kd.S_drew)); exact HO213.out))) (Kd.R_lt (uR HO219.out))) (below_size (uL HB.out))); have n7_ := mk0 (Kd.R_lower (Kd.R_new' (Kd.R_new' (Kd.R_new' ho1 (Kd.R_lt (uR HO209.out))) (Kd.R_lt (uR HO215.out))) (Kd.R_lt (uR HO221.out))) (below_size (uL HB.out))); have n8_ := mk0 (below_step (uL HB.out) hb); clear HO207; clear HO209; clear HO213; clear HO215; clear HO219; clear HO221; clear HB; have HO207 := n0_; have HO209 := n1_; have HO213 := n2_; have HO215 := n3_; have HO219 := n4_; have HO221 := n5_; have HO225 := n6_; have HO227 := n7_; have HB := n8_; clear n0_ n1_ n2_ n3_ n4_ n5_ n6_ n7_ n8_; (try clear hb); (try clear hb2); (try clear hk); (try clear hi); (try clear ho0); (try clear ho1); (first | (have EHO227 := cmpV_no HO227.out (by with_reducible assumption)) | (have EHO227 := cmpV_yes HO227.out (by with_reducible assumption)) | skip)))
    (try simp only [Act.put, List.setIfInBounds_toArray, List.set_cons_zero, List.set_cons_succ])
    go_cut [59] (fun v59 wc => ∃ (kq : Nat) (x59_11 : Bool), v59 = .bool x59_11 ∧ Aside0 (furrowlaw3_EditBack.j0 kq l0 t204 t216 t222 x59_11 = some true) ∧ Aside0 (kq ≤ k) ∧ Aside0 (Kd.R Kd.string 9 wc w.heap.size (fun k_ => some k_ ≠ (v218 : Value).ownBlock) (.slice Ao16 t204.length co16) t204) ∧ Aside0 (Kd.R Kd.string 9 wc w.heap.size (fun k_ => some k_ ≠ ((.slice Ao16 t204.length co16) : Value).ownBlock) v218 t216) ∧ Aside0 (Kd.S k38 38 wc w.heap.size (fun k_ => some k_ ≠ ((.slice Ao16 t204.length co16) : Value).ownBlock ∧ some k_ ≠ (v218 : Value).ownBlock) v224 t222) ∧ Aside0 (Below w.heap.size w wc))
    case first =>
     have H := HC12.out
     clear HC12
     by_cases c20 : (t211.length : Int) = 0
     ·rw [if_pos c20] at H
      have c20b0 : ((t211.length : Int) == 0) = true := beq_iff_eq.mpr c20
      have c20b1 : ((t211.length : Int) != 0) = false := bne_eq_false_iff_eq.mpr c20
      clear c20
      (first | rw [c20b0] | (simp only [i64_w, i32_w]; rw [c20b0]) | skip)
      by_cases c21 : (t217.length : Int) = 0
      ·rw [if_pos c21] at H
       have c21b0 : ((t217.length : Int) == 0) = true := beq_iff_eq.mpr c21
       have c21b1 : ((t217.length : Int) != 0) = false := bne_eq_false_iff_eq.mpr c21
       clear c21
       by_cases c22 : (t223.length : Int) = 0
       ·rw [if_pos c22] at H
        have c22b0 : ((t223.length : Int) == 0) = true := beq_iff_eq.mpr c22
        have c22b1 : ((t223.length : Int) != 0) = false := bne_eq_false_iff_eq.mpr c22
        clear c22
        have H' := mk0 H
        clear H
        (first | (have EHO209 := cmpV_no HO209.out (by with_reducible assumption)) | (have EHO209 := cmpV_yes HO209.out (by with_reducible assumption)) | skip)
        (first | (have EHO215 := cmpV_no HO215.out (by with_reducible assumption)) | (have EHO215 := cmpV_yes HO215.out (by with_reducible assumption)) | skip)
        (first | (have EHO221 := cmpV_no HO221.out (by with_reducible assumption)) | (have EHO221 := cmpV_yes HO221.out (by with_reducible assumption)) | skip)
        (first | (have EHO227 := cmpV_no HO227.out (by with_reducible assumption)) | (have EHO227 := cmpV_yes HO227.out (by with_reducible assumption)) | skip)
        go_wp2
        go_meet
        case rel => exact ⟨_, (false), (by first | rfl | (simp; done) | (simp [*]; done) | (simp [bne_nil_, beq_nil_]; done)), H', ⟨by first | omega | exact Nat.le_refl _⟩, ⟨uR (Kd.R_mono HO207.out (fun _ hk => hk.2))⟩, ⟨uR (Kd.R_mono HO219.out (fun _ hk => hk.2))⟩, ⟨by (with_reducible repeat (first | apply Kd.S_alloc | apply Kd.S_drewN | apply Kd.S_drew)); exact Kd.S_mono HO225.out (fun _ hk => ⟨hk.1.1.2, hk.2⟩)⟩, ⟨uL HB.out⟩⟩
       ·rw [if_neg c22] at H
        have c22b0 : ((t223.length : Int) == 0) = false := beq_eq_false_iff_ne.mpr c22
        have c22b1 : ((t223.length : Int) != 0) = true := bne_iff_ne.mpr c22
        have c22b2 : ¬ (t223 = []) := fun h_ => c22 (by rw [h_]; rfl)
        have H' := mk0 H
        clear H
        (first | (have EHO209 := cmpV_no HO209.out (by with_reducible assumption)) | (have EHO209 := cmpV_yes HO209.out (by with_reducible assumption)) | skip)
        (first | (have EHO215 := cmpV_no HO215.out (by with_reducible assumption)) | (have EHO215 := cmpV_yes HO215.out (by with_reducible assumption)) | skip)
        (first | (have EHO221 := cmpV_no HO221.out (by with_reducible assumption)) | (have EHO221 := cmpV_yes HO221.out (by with_reducible assumption)) | skip)
        (first | (have EHO227 := cmpV_no HO227.out (by with_reducible assumption)) | (have EHO227 := cmpV_yes HO227.out (by with_reducible assumption)) | skip)
        go_wp2
        go_meet
        case rel => exact ⟨_, (true), (by first | rfl | (simp; done) | (simp [*]; done) | (simp [bne_nil_, beq_nil_]; done)), H', ⟨by first | omega | exact Nat.le_refl _⟩, ⟨uR (Kd.R_mono HO207.out (fun _ hk => hk.2))⟩, ⟨uR (Kd.R_mono HO219.out (fun _ hk => hk.2))⟩, ⟨by (with_reducible repeat (first | apply Kd.S_alloc | apply Kd.S_drewN | apply Kd.S_drew)); exact Kd.S_mono HO225.out (fun _ hk => ⟨hk.1.1.2, hk.2⟩)⟩, ⟨uL HB.out⟩⟩
      ·rw [if_neg c21] at H
       have c21b0 : ((t217.length : Int) == 0) = false := beq_eq_false_iff_ne.mpr c21
       have c21b1 : ((t217.length : Int) != 0) = true := bne_iff_ne.mpr c21
       have c21b2 : ¬ (t217 = []) := fun h_ => c21 (by rw [h_]; rfl)
       have H' := mk0 H
       clear H
       (first | (have EHO209 := cmpV_no HO209.out (by with_reducible assumption)) | (have EHO209 := cmpV_yes HO209.out (by with_reducible assumption)) | skip)
       (first | (have EHO215 := cmpV_no HO215.out (by with_reducible assumption)) | (have EHO215 := cmpV_yes HO215.out (by with_reducible assumption)) | skip)
       (first | (have EHO221 := cmpV_no HO221.out (by with_reducible assumption)) | (have EHO221 := cmpV_yes HO221.out (by with_reducible assumption)) | skip)
       (first | (have EHO227 := cmpV_no HO227.out (by with_reducible assumption)) | (have EHO227 := cmpV_yes HO227.out (by with_reducible assumption)) | skip)
       go_wp2
       go_meet
       case rel => exact ⟨_, (true), (by first | rfl | (simp; done) | (simp [*]; done) | (simp [bne_nil_, beq_nil_]; done)), H', ⟨by first | omega | exact Nat.le_refl _⟩, ⟨uR (Kd.R_mono HO207.out (fun _ hk => hk.2))⟩, ⟨uR (Kd.R_mono HO219.out (fun _ hk => hk.2))⟩, ⟨by (with_reducible repeat (first | apply Kd.S_alloc | apply Kd.S_drewN | apply Kd.S_drew)); exact Kd.S_mono HO225.out (fun _ hk => ⟨hk.1.1.2, hk.2⟩)⟩, ⟨uL HB.out⟩⟩
     ·rw [if_neg c20] at H
      have c20b0 : ((t211.length : Int) == 0) = false := beq_eq_false_iff_ne.mpr c20
      have c20b1 : ((t211.length : Int) != 0) = true := bne_iff_ne.mpr c20
      have c20b2 : ¬ (t211 = []) := fun h_ => c20 (by rw [h_]; rfl)
      (first | rw [c20b0] | (simp only [i64_w, i32_w]; rw [c20b0]) | skip)
      have H' := mk0 H
      clear H
      (first | (have EHO209 := cmpV_no HO209.out (by with_reducible assumption)) | (have EHO209 := cmpV_yes HO209.out (by with_reducible assumption)) | skip)
      (first | (have EHO215 := cmpV_no HO215.out (by with_reducible assumption)) | (have EHO215 := cmpV_yes HO215.out (by with_reducible assumption)) | skip)
      (first | (have EHO221 := cmpV_no HO221.out (by with_reducible assumption)) | (have EHO221 := cmpV_yes HO221.out (by with_reducible assumption)) | skip)
      (first | (have EHO227 := cmpV_no HO227.out (by with_reducible assumption)) | (have EHO227 := cmpV_yes HO227.out (by with_reducible assumption)) | skip)
      go_wp2
      go_meet
      case rel => exact ⟨_, (true), (by first | rfl | (simp; done) | (simp [*]; done) | (simp [bne_nil_, beq_nil_]; done)), H', ⟨by first | omega | exact Nat.le_refl _⟩, ⟨uR (Kd.R_mono HO207.out (fun _ hk => hk.2))⟩, ⟨uR (Kd.R_mono HO219.out (fun _ hk => hk.2))⟩, ⟨by (with_reducible repeat (first | apply Kd.S_alloc | apply Kd.S_drewN | apply Kd.S_drew)); exact Kd.S_mono HO225.out (fun _ hk => ⟨hk.1.1.2, hk.2⟩)⟩, ⟨uL HB.out⟩⟩
    case rest =>
     clear HC12
     try clear c1
     try clear c2
     try clear p2
     try clear c3
     try clear c4
     try clear c6
     try clear c8
     try clear c8b0
     try clear c8b1
     try clear c10
     try clear c11
     try clear c12
     try clear c13
     try clear c20
     try clear c20b0
     try clear c20b1
     try clear c20b2
     try clear c21
     try clear c21b0
     try clear c21b1
     try clear c21b2
     try clear c22
     try clear c22b0
     try clear c22b1
     try clear c22b2
     obtain ⟨kq, x59_11, rfl, HA, HJ11, HO_5, HO_9, HO_11, HB⟩ := hcut
     cases kq with
     | zero => exact absurd HA.out (by simp [furrowlaw3_EditBack.j0])
     | succ kj11 =>
      have H := HA.out
      clear HA
      simp only [furrowlaw3_EditBack.j0] at H
      by_cases c23 : x59_11 = true
      ·subst c23
       have H1 : (some false) = some true := by rw [if_pos rfl] at H; first | done | exact H
       clear H
       have H := H1
       clear H1
       exact absurd H (by simp)
      ·replace c23 := Bool.eq_false_iff.mpr c23
       subst c23
       have H1 : ((edit_Apply.f kj11 t216 t222).bind fun bt228 => (if (bt228.2.length : Int) = 0 then ((furrowref4_SameLines.f kj11 t216 l0).bind fun t234 => (if t234 = true then ((furrowref4_SameLines.f kj11 bt228.1 t204).bind fun t235 => (some t235)) else (some false))) else (some false))) = some true := by rw [if_neg (show ¬ (false = true) by decide)] at H; first | done | exact H
       clear H
       have H := H1
       clear H1
       replace H := Option.bind_eq_some_iff.mp H
       obtain ⟨⟨t228, t229⟩, A240, H⟩ := H
       replace H : (if (t229.length : Int) = 0 then ((furrowref4_SameLines.f kj11 t216 l0).bind fun t234 => (if t234 = true then ((furrowref4_SameLines.f kj11 t228 t204).bind fun t235 => (some t235)) else (some false))) else (some false)) = some true := H
       have A24 := mk0 A240
       clear A240
       by_cases c25 : (t229.length : Int) = 0
       ·rw [if_pos c25] at H
        have c25b0 : ((t229.length : Int) == 0) = true := beq_iff_eq.mpr c25
        have c25b1 : ((t229.length : Int) != 0) = false := bne_eq_false_iff_eq.mpr c25
        clear c25
        replace H := Option.bind_eq_some_iff.mp H
        obtain ⟨t234, A260, H⟩ := H
        replace H : (if t234 = true then ((furrowref4_SameLines.f kj11 t228 t204).bind fun t235 => (some t235)) else (some false)) = some true := H
        have A26 := mk0 A260
        clear A260
        by_cases c27 : t234 = true
        ·subst c27
         have H1 : ((furrowref4_SameLines.f kj11 t228 t204).bind fun t235 => (some t235)) = some true := by rw [if_pos rfl] at H; first | done | exact H
         clear H
         have H := H1
         clear H1
         replace H := Option.bind_eq_some_iff.mp H
         obtain ⟨t235, A280, H⟩ := H
         replace H : (some t235) = some true := H
         have A28 := mk0 A280
         clear A280
         have HT := mk0 (Option.some.inj H)
         clear H
         obtain ⟨Ao29, co29, eo29⟩ := Kd.R_slice HO_9.out
         subst eo29
         obtain ⟨Ao30, co30, eo30⟩ := Kd.S_slice HO_11.out
         subst eo30
         go_wp2_with (first | ((with_reducible refine gate_callee (f := 12) rfl ?_); refine goesL_ (some 63) rfl rfl Tryd.func12 (by kernel_rfl) rfl #[.slice Ao29 t216.length co29, .slice Ao30 t222.length co30] rfl (by (try simp only [List.map_toArray, List.map_cons, List.map_nil]); first | done | rfl | (simp only [List.length_drop, List.length_take]; rfl)) ?_; (with_reducible refine (edit_Apply.calls kj11 _ _ t216 _ _ t222 t228 t229 _ ?side1 ?side2 ?side3 ?side4 A24.out).mono ?_); (case side1 => repeat (first | exact (Kd.R_reads' HO_9.out).2.2 | (with_reducible refine Kd.C_alloc ?_ _) | (with_reducible refine Kd.C_drewN ?_ _) | (with_reducible refine Kd.C_drew ?_))); (case side2 => exact (Kd.R_reads' HO_9.out).2.1); (case side3 => repeat (first | exact (Kd.S_reads' HO_11.out).2.2 | (with_reducible refine Kd.C_alloc ?_ _) | (with_reducible refine Kd.C_drewN ?_ _) | (with_reducible refine Kd.C_drew ?_))); (case side4 => exact (Kd.S_reads' HO_11.out).2.1); rintro e w31 ⟨v230, v232, rfl, ho0, ho1, hb⟩; refine ⟨_, rfl, ?_⟩; have n0_ := mk0 (Kd.R_elder' (uR HO_5.out) (Kd.R_base ho0) hb); have n1_ := mk0 (Kd.R_elder' (uR HO_9.out) (Kd.R_base ho0) hb); have n2_ := mk0 (Kd.S_elder' (by (with_reducible repeat (first | apply Kd.S_alloc | apply Kd.S_drewN | apply Kd.S_drew)); exact HO_11.out) (Kd.R_base ho0) hb); have n3_ := mk0 (Kd.R_lower (Kd.R_new' (Kd.R_new' ho0 (Kd.R_lt (uR HO_5.out))) (Kd.R_lt (uR HO_9.out))) (below_size (uL HB.out))); have n4_ := mk0 (Kd.R_lower ho1 (below_size (uL HB.out))); have n5_ := mk0 (below_step (uL HB.out) hb); clear HO_5; clear HO_9; clear HO_11; clear HB; have HO_5 := n0_; have HO_9 := n1_; have HO_11 := n2_; have HO231 := n3_; have HO233 := n4_; have HB := n5_; clear n0_ n1_ n2_ n3_ n4_ n5_; (try clear hb); (try clear hb2); (try clear hk); (try clear hi); (try clear ho0); (try clear ho1); (first | (have EHO233 := cmpV_no HO233.out (by with_reducible assumption)) | (have EHO233 := cmpV_yes HO233.out (by with_reducible assumption)) | skip)) | (go_at_call 14; (with_reducible refine (furrowref4_SameLines.calls kj11 _ _ t216 _ _ l0 true _ ?side1 ?side2 ?side3 ?side4 A26.out).mono ?_); (case side1 => repeat (first | exact (Kd.R_reads' HO_9.out).2.2 | (with_reducible refine Kd.C_alloc ?_ _) | (with_reducible refine Kd.C_drewN ?_ _) | (with_reducible refine Kd.C_drew ?_))); (case side2 => exact (Kd.R_reads' HO_9.out).2.1); (case side3 => repeat (first | exact (Kd.C_below HR0.out HB.out) | (with_reducible refine Kd.C_alloc ?_ _) | (with_reducible refine Kd.C_drewN ?_ _) | (with_reducible refine Kd.C_drew ?_))); (case side4 => exact HC0.out); rintro e w' ⟨rfl, ⟨nd, rfl⟩⟩; obtain ⟨Ao32, co32, eo32⟩ := Kd.R_slice HO231.out; subst eo32) | (go_at_call 14; (with_reducible refine (furrowref4_SameLines.calls kj11 _ _ t228 _ _ t204 t235 _ ?side1 ?side2 ?side3 ?side4 A28.out).mono ?_); (case side1 => repeat (first | exact (Kd.R_reads' HO231.out).2.2 | (with_reducible refine Kd.C_alloc ?_ _) | (with_reducible refine Kd.C_drewN ?_ _) | (with_reducible refine Kd.C_drew ?_))); (case side2 => exact (Kd.R_reads' HO231.out).2.1); (case side3 => repeat (first | exact (Kd.R_reads' HO_5.out).2.2 | (with_reducible refine Kd.C_alloc ?_ _) | (with_reducible refine Kd.C_drewN ?_ _) | (with_reducible refine Kd.C_drew ?_))); (case side4 => exact (Kd.R_reads' HO_5.out).2.1); rintro e w' ⟨rfl, ⟨nd, rfl⟩⟩))
         go_ret
         exact ⟨by first | rfl | (simp [errW_none, errW_some] <;> rfl) | (exact congrArg (fun b_ => Ending.returned (Value.bool b_)) HT.out) | (rw [show _ = _ from HT.out]) | (simp [HT.out]; done) | (simp [show _ = _ from HT.out]; done) | (simp [*, errW_none, errW_some] <;> rfl), uL HB.out⟩
        ·replace c27 := Bool.eq_false_iff.mpr c27
         subst c27
         have H1 : (some false) = some true := by rw [if_neg (show ¬ (false = true) by decide)] at H; first | done | exact H
         clear H
         have H := H1
         clear H1
         exact absurd H (by simp)
       ·rw [if_neg c25] at H
        have c25b0 : ((t229.length : Int) == 0) = false := beq_eq_false_iff_ne.mpr c25
        have c25b1 : ((t229.length : Int) != 0) = true := bne_iff_ne.mpr c25
        have c25b2 : ¬ (t229 = []) := fun h_ => c25 (by rw [h_]; rfl)
        exact absurd H (by simp)
   ·rw [if_neg c8] at H
    have c8b0 : ((t205.length : Int) == 0) = false := beq_eq_false_iff_ne.mpr c8
    have c8b1 : ((t205.length : Int) != 0) = true := bne_iff_ne.mpr c8
    have c8b2 : ¬ (t205 = []) := fun h_ => c8 (by rw [h_]; rfl)
    have HT := mk0 (Option.some.inj H)
    clear H
    go_enter Tryd.func3, Tryd.ntmps3
    go_wp2_with (first | ((with_reducible refine gate_callee (f := 10) rfl ?_); refine goesL_ (some 15) rfl rfl Tryd.func10 (by kernel_rfl) rfl #[] rfl (by (try simp only [List.map_toArray, List.map_cons, List.map_nil]); first | done | rfl | (simp only [List.length_drop, List.length_take]; rfl)) ?_; (with_reducible refine (furrowlaw3_known.calls k   _ ?side1 A3.out).mono ?_); (case side1 => exact Glob.below HG.out (uL HB.out)); rintro e w33 ⟨rfl, hb⟩; refine ⟨_, rfl, ?_⟩; have n0_ := mk0 (below_step (uL HB.out) hb); clear HB; have HB := n0_; clear n0_; (try clear hb); (try clear hb2); (try clear hk); (try clear hi)) | ((with_reducible refine gate_callee (f := 11) rfl ?_); refine goesL_ (some 19) rfl rfl Tryd.func11 (by kernel_rfl) rfl #[.slice A0 l0.length c0, .slice A1 l1.length c1] rfl (by (try simp only [List.map_toArray, List.map_cons, List.map_nil]); first | done | rfl | (simp only [List.length_drop, List.length_take]; rfl)) ?_; (with_reducible refine (furrowlaw3_few.calls k _ _ l0 _ _ l1 true _ ?side1 ?side2 ?side3 ?side4 A5.out).mono ?_); (case side1 => repeat (first | exact (Kd.C_below HR0.out HB.out) | (with_reducible refine Kd.C_alloc ?_ _) | (with_reducible refine Kd.C_drewN ?_ _) | (with_reducible refine Kd.C_drew ?_))); (case side2 => exact HC0.out); (case side3 => repeat (first | exact (Kd.C_below HR1.out HB.out) | (with_reducible refine Kd.C_alloc ?_ _) | (with_reducible refine Kd.C_drewN ?_ _) | (with_reducible refine Kd.C_drew ?_))); (case side4 => exact HC1.out); rintro e w' ⟨rfl, ⟨nd, rfl⟩⟩; refine ⟨_, rfl, ?_⟩) | ((with_reducible refine gate_callee (f := 12) rfl ?_); refine goesL_ (some 24) rfl rfl Tryd.func12 (by kernel_rfl) rfl #[.slice A0 l0.length c0, .slice A1 l1.length c1] rfl (by (try simp only [List.map_toArray, List.map_cons, List.map_nil]); first | done | rfl | (simp only [List.length_drop, List.length_take]; rfl)) ?_; (with_reducible refine (edit_Apply.calls k _ _ l0 _ _ l1 t204 t205 _ ?side1 ?side2 ?side3 ?side4 A7.out).mono ?_); (case side1 => repeat (first | exact (Kd.C_below HR0.out (uL HB.out)) | (with_reducible refine Kd.C_alloc ?_ _) | (with_reducible refine Kd.C_drewN ?_ _) | (with_reducible refine Kd.C_drew ?_))); (case side2 => exact HC0.out); (case side3 => repeat (first | exact (Kd.C_below HR1.out (uL HB.out)) | (with_reducible refine Kd.C_alloc ?_ _) | (with_reducible refine Kd.C_drewN ?_ _) | (with_reducible refine Kd.C_drew ?_))); (case side4 => exact HC1.out); rintro e w34 ⟨v206, v208, rfl, ho0, ho1, hb⟩; refine ⟨_, rfl, ?_⟩; have n0_ := mk0 (Kd.R_lower ho0 (below_size (uL HB.out))); have n1_ := mk0 (Kd.R_lower ho1 (below_size (uL HB.out))); have n2_ := mk0 (below_step (uL HB.out) hb); clear HB; have HO207 := n0_; have HO209 := n1_; have HB := n2_; clear n0_ n1_ n2_; (try clear hb); (try clear hb2); (try clear hk); (try clear hi); (try clear ho0); (try clear ho1); (first | (have EHO209 := cmpV_no HO209.out (by with_reducible assumption)) | (have EHO209 := cmpV_yes HO209.out (by with_reducible assumption)) | skip); obtain ⟨Ao35, co35, eo35⟩ := Kd.R_slice HO207.out; subst eo35))
    go_ret
    exact ⟨by first | rfl | (simp [errW_none, errW_some] <;> rfl) | (exact congrArg (fun b_ => Ending.returned (Value.bool b_)) HT.out) | (rw [show _ = _ from HT.out]) | (simp [HT.out]; done) | (simp [show _ = _ from HT.out]; done) | (simp [*, errW_none, errW_some] <;> rfl), uL HB.out⟩
  ·replace c6 := Bool.eq_false_iff.mpr c6
   subst c6
   have H1 : (some true) = some true := by rw [if_neg (show ¬ (false = true) by decide)] at H; first | done | exact H
   clear H
   have H := H1
   clear H1
   have HT := mk0 (Option.some.inj H)
   clear H
   go_enter Tryd.func3, Tryd.ntmps3
   go_wp2_with (first | ((with_reducible refine gate_callee (f := 10) rfl ?_); refine goesL_ (some 15) rfl rfl Tryd.func10 (by kernel_rfl) rfl #[] rfl (by (try simp only [List.map_toArray, List.map_cons, List.map_nil]); first | done | rfl | (simp only [List.length_drop, List.length_take]; rfl)) ?_; (with_reducible refine (furrowlaw3_known.calls k   _ ?side1 A3.out).mono ?_); (case side1 => exact Glob.below HG.out (uL HB.out)); rintro e w36 ⟨rfl, hb⟩; refine ⟨_, rfl, ?_⟩; have n0_ := mk0 (below_step (uL HB.out) hb); clear HB; have HB := n0_; clear n0_; (try clear hb); (try clear hb2); (try clear hk); (try clear hi)) | ((with_reducible refine gate_callee (f := 11) rfl ?_); refine goesL_ (some 19) rfl rfl Tryd.func11 (by kernel_rfl) rfl #[.slice A0 l0.length c0, .slice A1 l1.length c1] rfl (by (try simp only [List.map_toArray, List.map_cons, List.map_nil]); first | done | rfl | (simp only [List.length_drop, List.length_take]; rfl)) ?_; (with_reducible refine (furrowlaw3_few.calls k _ _ l0 _ _ l1 false _ ?side1 ?side2 ?side3 ?side4 A5.out).mono ?_); (case side1 => repeat (first | exact (Kd.C_below HR0.out HB.out) | (with_reducible refine Kd.C_alloc ?_ _) | (with_reducible refine Kd.C_drewN ?_ _) | (with_reducible refine Kd.C_drew ?_))); (case side2 => exact HC0.out); (case side3 => repeat (first | exact (Kd.C_below HR1.out HB.out) | (with_reducible refine Kd.C_alloc ?_ _) | (with_reducible refine Kd.C_drewN ?_ _) | (with_reducible refine Kd.C_drew ?_))); (case side4 => exact HC1.out); rintro e w' ⟨rfl, ⟨nd, rfl⟩⟩; refine ⟨_, rfl, ?_⟩))
   go_ret
   exact ⟨by first | rfl | (simp [errW_none, errW_some] <;> rfl) | (exact congrArg (fun b_ => Ending.returned (Value.bool b_)) HT.out) | (rw [show _ = _ from HT.out]) | (simp [HT.out]; done) | (simp [show _ = _ from HT.out]; done) | (simp [*, errW_none, errW_some] <;> rfl), uL HB.out⟩
 ·replace c4 := Bool.eq_false_iff.mpr c4
  subst c4
  have H1 : (some false) = some true := by rw [if_neg (show ¬ (false = true) by decide)] at H; first | done | exact H
  clear H
  have H := H1
  clear H1
  exact absurd H (by simp)

end Go.Proofs.YteeeoblpfepepaaDoor.X
