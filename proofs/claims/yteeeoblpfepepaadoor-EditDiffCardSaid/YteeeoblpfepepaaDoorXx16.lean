-- PRINTED by print.py (a twelfth state) out of the translation. Not trusted: Lean checks it.
import Derived.Test.YteeeoblpfepepaaDoorXx0
import Derived.Test.YteeeoblpfepepaaDoorXx1
import Derived.Test.YteeeoblpfepepaaDoorXx12
import Derived.Test.YteeeoblpfepepaaDoorXx13
import Derived.Test.YteeeoblpfepepaaDoorXx14
import Derived.Test.YteeeoblpfepepaaDoorXx4
import Derived.Test.YteeeoblpfepepaaDoorXx5
namespace Go.Proofs.YteeeoblpfepepaaDoor.X
open Go.Proofs.YteeeoblpfepepaaDoor.Flt Go.Proofs.YteeeoblpfepepaaDoor.H Go.RowKit Go.Proofs.YteeeoblpfepepaaDoorW.PrintWords Go.Proofs.YteeeoblpfepepaaDoorW.PrintLast Go.Proofs.YteeeoblpfepepaaDoorW.PrintMore
attribute [local go_sem] max2_int min2_int max_two min_two max_three min_three max_four min_four   -- for this text's walks alone
set_option linter.unusedVariables false
set_option linter.unusedSimpArgs false

/-! ### furrowlaw3_EditDiff: function 4 -/
def furrowlaw3_EditDiff.j0 : Nat → List ByteArray → List ByteArray → Bool → Option (Bool)
 | 0, _, _, _ => none
 | k + 1, x0, x1, x17 => if x17 = true then (some true) else ((edit_Diff.f k x0 x1).bind fun t279 => ((edit_Apply.f k x0 t279).bind fun bt282 => ((furrowref4_Diff.f k x0 x1).bind fun t288 => ((furrowlaw3_Same.f k t279 t288).bind fun t291 => (if t291 = true then (if (bt282.2.length : Int) = 0 then ((furrowref4_SameLines.f k bt282.1 x1).bind fun t292 => (some t292)) else (some false)) else (some false))))))
def furrowlaw3_EditDiff.f (k : Nat) (l0 : List ByteArray) (l1 : List ByteArray) : Option (Bool) := (furrowlaw3_known.f k).bind fun t278 => (if t278 = true then (if (l0.length : Int) > 40 then (furrowlaw3_EditDiff.j0 k l0 l1 true) else (furrowlaw3_EditDiff.j0 k l0 l1 (decide ((l1.length : Int) > 40)))) else (some false))
theorem furrowlaw3_EditDiff.mono_l : ∀ k, (∀ y0 y1 y2, LeO (furrowlaw3_EditDiff.j0 k y0 y1 y2) (furrowlaw3_EditDiff.j0 (k + 1) y0 y1 y2))
 | 0 => fun _ _ _ r h => by simp [furrowlaw3_EditDiff.j0] at h
 | k + 1 => by
  have ih0 := furrowlaw3_EditDiff.mono_l k
  ·intro y0 y1 y2
   unfold furrowlaw3_EditDiff.j0
   repeat' first
   | (with_reducible exact ih0 _ _ _)
   | (with_reducible exact edit_Apply.mono _ _ _)
   | (with_reducible exact edit_Diff.mono _ _ _)
   | (with_reducible exact furrowlaw3_Same.mono _ _ _)
   | (with_reducible exact furrowlaw3_known.mono _)
   | (with_reducible exact furrowref4_Diff.mono _ _ _)
   | (with_reducible exact furrowref4_SameLines.mono _ _ _)
   | (with_reducible exact LeO.refl _)
   | (with_reducible exact LeO.none _)
   | (with_reducible refine LeO.ite ?_ ?_)
   | (with_reducible refine LeO.bind ?_ (fun _ => ?_))
   | exact ih0 _ _ _
   | exact edit_Apply.mono _ _ _
   | exact edit_Diff.mono _ _ _
   | exact furrowlaw3_Same.mono _ _ _
   | exact furrowlaw3_known.mono _
   | exact furrowref4_Diff.mono _ _ _
   | exact furrowref4_SameLines.mono _ _ _
   | exact LeO.none _
   | refine LeO.ite ?_ ?_
   | refine LeO.bind ?_ (fun _ => ?_)
theorem furrowlaw3_EditDiff.mono : ∀ a0 a1 k, LeO (furrowlaw3_EditDiff.f k a0 a1) (furrowlaw3_EditDiff.f (k + 1) a0 a1) := by
 intro a0 a1 k
 have ih0 := furrowlaw3_EditDiff.mono_l k
 unfold furrowlaw3_EditDiff.f
 repeat' first
   | (with_reducible exact ih0 _ _ _)
   | (with_reducible exact edit_Apply.mono _ _ _)
   | (with_reducible exact edit_Diff.mono _ _ _)
   | (with_reducible exact furrowlaw3_Same.mono _ _ _)
   | (with_reducible exact furrowlaw3_known.mono _)
   | (with_reducible exact furrowref4_Diff.mono _ _ _)
   | (with_reducible exact furrowref4_SameLines.mono _ _ _)
   | (with_reducible exact LeO.refl _)
   | (with_reducible exact LeO.none _)
   | (with_reducible refine LeO.ite ?_ ?_)
   | (with_reducible refine LeO.bind ?_ (fun _ => ?_))
   | exact ih0 _ _ _
   | exact edit_Apply.mono _ _ _
   | exact edit_Diff.mono _ _ _
   | exact furrowlaw3_Same.mono _ _ _
   | exact furrowlaw3_known.mono _
   | exact furrowref4_Diff.mono _ _ _
   | exact furrowref4_SameLines.mono _ _ _
   | exact LeO.none _
   | refine LeO.ite ?_ ?_
   | refine LeO.bind ?_ (fun _ => ?_)
set_option maxHeartbeats 8000000 in
set_option maxRecDepth 100000 in
theorem furrowlaw3_EditDiff.calls (k : Nat) (A0 : Option Addr) (c0 : Nat) (l0 : List ByteArray) (A1 : Option Addr) (c1 : Nat) (l1 : List ByteArray) (w : World) (hr0 : Kd.C Kd.string w A0 l0.length l0) (hc0 : l0.length ≤ c0) (hr1 : Kd.C Kd.string w A1 l1.length l1) (hc1 : l1.length ≤ c1) (hG : Glob w) (h : furrowlaw3_EditDiff.f k l0 l1 = some true) :
  Calls Tryd.prog 4 #[.slice A0 l0.length c0, .slice A1 l1.length c1] w fun e w' => e = .returned (.bool true) ∧ Below w.heap.size w w' := by
 have HR0 := mk0 hr0
 have HC0 := mk0 hc0
 clear hr0 hc0
 have HR1 := mk0 hr1
 have HC1 := mk0 hc1
 clear hr1 hc1
 have HG := mk0 hG
 clear hG
 have HB := mk0 (Below.refl w.heap.size w)
 have H : ((furrowlaw3_known.f k).bind fun t278 => (if t278 = true then (if (l0.length : Int) > 40 then (furrowlaw3_EditDiff.j0 k l0 l1 true) else (furrowlaw3_EditDiff.j0 k l0 l1 (decide ((l1.length : Int) > 40)))) else (some false))) = some true := h
 clear h
 replace H := Option.bind_eq_some_iff.mp H
 obtain ⟨t278, A30, H⟩ := H
 replace H : (if t278 = true then (if (l0.length : Int) > 40 then (furrowlaw3_EditDiff.j0 k l0 l1 true) else (furrowlaw3_EditDiff.j0 k l0 l1 (decide ((l1.length : Int) > 40)))) else (some false)) = some true := H
 have A3 := mk0 A30
 clear A30
 by_cases c4 : t278 = true
 ·subst c4
  have H1 : (if (l0.length : Int) > 40 then (furrowlaw3_EditDiff.j0 k l0 l1 true) else (furrowlaw3_EditDiff.j0 k l0 l1 (decide ((l1.length : Int) > 40)))) = some true := by rw [if_pos rfl] at H; first | done | exact H
  clear H
  have H := H1
  clear H1
  have HC5 := mk0 H
  clear H
  go_enter Tryd.func4, Tryd.ntmps4
  go_upto_region 3 with (first | ((with_reducible refine gate_callee (f := 10) rfl ?_); refine goesL_ (some 8) rfl rfl Tryd.func10 (by kernel_rfl) rfl #[] rfl (by (try simp only [List.map_toArray, List.map_cons, List.map_nil]); first | done | rfl | (simp only [List.length_drop, List.length_take]; rfl)) ?_; (with_reducible refine (furrowlaw3_known.calls k   _ ?side1 A3.out).mono ?_); (case side1 => exact Glob.below HG.out (uL HB.out)); rintro e w6 ⟨rfl, hb⟩; refine ⟨_, rfl, ?_⟩; have n0_ := mk0 (below_step (uL HB.out) hb); clear HB; have HB := n0_; clear n0_; (try clear hb); (try clear hb2); (try clear hk); (try clear hi)))
  (try simp only [Act.put, List.setIfInBounds_toArray, List.set_cons_zero, List.set_cons_succ])
  go_cut [17] (fun v17 wc => ∃ (kq : Nat) (x17_4 : Bool), v17 = .bool x17_4 ∧ Aside0 (furrowlaw3_EditDiff.j0 kq l0 l1 x17_4 = some true) ∧ Aside0 (kq ≤ k) ∧ Aside0 (Below w.heap.size w wc))
  case first =>
   have H := HC5.out
   clear HC5
   by_cases c7 : (l0.length : Int) > 40
   ·rw [if_pos c7] at H
    have c7b0 : decide (40 < (l0.length : Int)) = true := decide_eq_true c7
    have c7b1 : decide (40 < l0.length) = true := decide_eq_true (by omega)
    clear c7
    (first | rw [c7b0] | (simp only [i64_w, i32_w]; rw [c7b0]) | skip)
    have H' := mk0 H
    clear H
    go_wp2
    go_meet
    case rel => exact ⟨_, (true), (by first | rfl | (simp; done) | (simp [*]; done) | (simp [bne_nil_, beq_nil_]; done)), H', ⟨by first | omega | exact Nat.le_refl _⟩, ⟨uL HB.out⟩⟩
   ·rw [if_neg c7] at H
    have c7b0 : decide (40 < (l0.length : Int)) = false := decide_eq_false c7
    have c7b1 : decide (40 < l0.length) = false := decide_eq_false (by omega)
    clear c7
    (first | rw [c7b0] | (simp only [i64_w, i32_w]; rw [c7b0]) | skip)
    have H' := mk0 H
    clear H
    go_wp2
    go_meet
    case rel => exact ⟨_, (decide ((l1.length : Int) > 40)), (by first | rfl | (simp; done) | (simp [*]; done) | (simp [bne_nil_, beq_nil_]; done)), H', ⟨by first | omega | exact Nat.le_refl _⟩, ⟨uL HB.out⟩⟩
  case rest =>
   clear HC5
   try clear c1
   try clear p2
   try clear c4
   try clear c7
   try clear c7b0
   try clear c7b1
   obtain ⟨kq, x17_4, rfl, HA, HJ4, HB⟩ := hcut
   cases kq with
   | zero => exact absurd HA.out (by simp [furrowlaw3_EditDiff.j0])
   | succ kj4 =>
    have H := HA.out
    clear HA
    simp only [furrowlaw3_EditDiff.j0] at H
    by_cases c8 : x17_4 = true
    ·subst c8
     have H1 : (some true) = some true := by rw [if_pos rfl] at H; first | done | exact H
     clear H
     have H := H1
     clear H1
     have HT := mk0 (Option.some.inj H)
     clear H
     go_wp2
     go_ret
     exact ⟨by first | rfl | (simp [errW_none, errW_some] <;> rfl) | (exact congrArg (fun b_ => Ending.returned (Value.bool b_)) HT.out) | (rw [show _ = _ from HT.out]) | (simp [HT.out]; done) | (simp [show _ = _ from HT.out]; done) | (simp [*, errW_none, errW_some] <;> rfl), uL HB.out⟩
    ·replace c8 := Bool.eq_false_iff.mpr c8
     subst c8
     have H1 : ((edit_Diff.f kj4 l0 l1).bind fun t279 => ((edit_Apply.f kj4 l0 t279).bind fun bt282 => ((furrowref4_Diff.f kj4 l0 l1).bind fun t288 => ((furrowlaw3_Same.f kj4 t279 t288).bind fun t291 => (if t291 = true then (if (bt282.2.length : Int) = 0 then ((furrowref4_SameLines.f kj4 bt282.1 l1).bind fun t292 => (some t292)) else (some false)) else (some false)))))) = some true := by rw [if_neg (show ¬ (false = true) by decide)] at H; first | done | exact H
     clear H
     have H := H1
     clear H1
     replace H := Option.bind_eq_some_iff.mp H
     obtain ⟨t279, A90, H⟩ := H
     replace H : ((edit_Apply.f kj4 l0 t279).bind fun bt282 => ((furrowref4_Diff.f kj4 l0 l1).bind fun t288 => ((furrowlaw3_Same.f kj4 t279 t288).bind fun t291 => (if t291 = true then (if (bt282.2.length : Int) = 0 then ((furrowref4_SameLines.f kj4 bt282.1 l1).bind fun t292 => (some t292)) else (some false)) else (some false))))) = some true := H
     have A9 := mk0 A90
     clear A90
     replace H := Option.bind_eq_some_iff.mp H
     obtain ⟨⟨t282, t283⟩, A100, H⟩ := H
     replace H : ((furrowref4_Diff.f kj4 l0 l1).bind fun t288 => ((furrowlaw3_Same.f kj4 t279 t288).bind fun t291 => (if t291 = true then (if (t283.length : Int) = 0 then ((furrowref4_SameLines.f kj4 t282 l1).bind fun t292 => (some t292)) else (some false)) else (some false)))) = some true := H
     have A10 := mk0 A100
     clear A100
     replace H := Option.bind_eq_some_iff.mp H
     obtain ⟨t288, A110, H⟩ := H
     replace H : ((furrowlaw3_Same.f kj4 t279 t288).bind fun t291 => (if t291 = true then (if (t283.length : Int) = 0 then ((furrowref4_SameLines.f kj4 t282 l1).bind fun t292 => (some t292)) else (some false)) else (some false))) = some true := H
     have A11 := mk0 A110
     clear A110
     replace H := Option.bind_eq_some_iff.mp H
     obtain ⟨t291, A120, H⟩ := H
     replace H : (if t291 = true then (if (t283.length : Int) = 0 then ((furrowref4_SameLines.f kj4 t282 l1).bind fun t292 => (some t292)) else (some false)) else (some false)) = some true := H
     have A12 := mk0 A120
     clear A120
     by_cases c13 : t291 = true
     ·subst c13
      have H1 : (if (t283.length : Int) = 0 then ((furrowref4_SameLines.f kj4 t282 l1).bind fun t292 => (some t292)) else (some false)) = some true := by rw [if_pos rfl] at H; first | done | exact H
      clear H
      have H := H1
      clear H1
      by_cases c14 : (t283.length : Int) = 0
      ·rw [if_pos c14] at H
       have c14b0 : ((t283.length : Int) == 0) = true := beq_iff_eq.mpr c14
       have c14b1 : ((t283.length : Int) != 0) = false := bne_eq_false_iff_eq.mpr c14
       clear c14
       replace H := Option.bind_eq_some_iff.mp H
       obtain ⟨t292, A150, H⟩ := H
       replace H : (some t292) = some true := H
       have A15 := mk0 A150
       clear A150
       have HT := mk0 (Option.some.inj H)
       clear H
       go_wp2_with (first | ((with_reducible refine gate_callee (f := 15) rfl ?_); refine goesL_ (some 20) rfl rfl Tryd.func15 (by kernel_rfl) rfl #[.slice A0 l0.length c0, .slice A1 l1.length c1] rfl (by (try simp only [List.map_toArray, List.map_cons, List.map_nil]); first | done | rfl | (simp only [List.length_drop, List.length_take]; rfl)) ?_; (with_reducible refine (edit_Diff.calls kj4 _ _ l0 _ _ l1 t279 _ ?side1 ?side2 ?side3 ?side4 A9.out).mono ?_); (case side1 => repeat (first | exact (Kd.C_below HR0.out HB.out) | (with_reducible refine Kd.C_alloc ?_ _) | (with_reducible refine Kd.C_drewN ?_ _) | (with_reducible refine Kd.C_drew ?_))); (case side2 => exact HC0.out); (case side3 => repeat (first | exact (Kd.C_below HR1.out HB.out) | (with_reducible refine Kd.C_alloc ?_ _) | (with_reducible refine Kd.C_drewN ?_ _) | (with_reducible refine Kd.C_drew ?_))); (case side4 => exact HC1.out); rintro e w16 ⟨v280, rfl, ho0, hb⟩; refine ⟨_, rfl, ?_⟩; have n0_ := mk0 (Kd.N_lower (Kd.N_mono (ok' := fun k_ => True) ho0 (fun k_ hk_ => trivial)) (below_size (uL HB.out))); have n1_ := mk0 (below_step (uL HB.out) hb); clear HB; have HO281 := n0_; have HB := n1_; clear n0_ n1_; (try clear hb); (try clear hb2); (try clear hk); (try clear hi); (try clear ho0); obtain ⟨Ao17, co17, eo17⟩ := Kd.N_slice HO281.out; subst eo17) | ((with_reducible refine gate_callee (f := 12) rfl ?_); refine goesL_ (some 24) rfl rfl Tryd.func12 (by kernel_rfl) rfl #[.slice A0 l0.length c0, .slice Ao17 t279.length co17] rfl (by (try simp only [List.map_toArray, List.map_cons, List.map_nil]); first | done | rfl | (simp only [List.length_drop, List.length_take]; rfl)) ?_; (with_reducible refine (edit_Apply.calls kj4 _ _ l0 _ _ t279 t282 t283 _ ?side1 ?side2 ?side3 ?side4 A10.out).mono ?_); (case side1 => repeat (first | exact (Kd.C_below HR0.out HB.out) | (with_reducible refine Kd.C_alloc ?_ _) | (with_reducible refine Kd.C_drewN ?_ _) | (with_reducible refine Kd.C_drew ?_))); (case side2 => exact HC0.out); (case side3 => repeat (first | exact (Kd.N_reads' HO281.out).2.2 | (with_reducible refine Kd.C_alloc ?_ _) | (with_reducible refine Kd.C_drewN ?_ _) | (with_reducible refine Kd.C_drew ?_))); (case side4 => exact (Kd.N_reads' HO281.out).2.1); rintro e w18 ⟨v284, v286, rfl, ho0, ho1, hb⟩; refine ⟨_, rfl, ?_⟩; have n0_ := mk0 (Kd.N_mono (Kd.N_told (Kd.N_told (Kd.N_old (uN HO281.out) hb) (Kd.R_base ho0)) (Kd.R_base ho1)) (fun _ h_ => h_.1)); have n1_ := mk0 (Kd.R_lower ho0 (below_size (uL HB.out))); have n2_ := mk0 (Kd.R_lower ho1 (below_size (uL HB.out))); have n3_ := mk0 (below_step (uL HB.out) hb); clear HO281; clear HB; have HO281 := n0_; have HO285 := n1_; have HO287 := n2_; have HB := n3_; clear n0_ n1_ n2_ n3_; (try clear hb); (try clear hb2); (try clear hk); (try clear hi); (try clear ho0); (try clear ho1); (first | (have EHO287 := cmpV_no HO287.out (by with_reducible assumption)) | (have EHO287 := cmpV_yes HO287.out (by with_reducible assumption)) | skip)) | ((with_reducible refine gate_callee (f := 17) rfl ?_); refine goesL_ (some 30) rfl rfl Tryd.func17 (by kernel_rfl) rfl #[.slice A0 l0.length c0, .slice A1 l1.length c1] rfl (by (try simp only [List.map_toArray, List.map_cons, List.map_nil]); first | done | rfl | (simp only [List.length_drop, List.length_take]; rfl)) ?_; (with_reducible refine (furrowref4_Diff.calls kj4 _ _ l0 _ _ l1 t288 _ ?side1 ?side2 ?side3 ?side4 A11.out).mono ?_); (case side1 => repeat (first | exact (Kd.C_below HR0.out HB.out) | (with_reducible refine Kd.C_alloc ?_ _) | (with_reducible refine Kd.C_drewN ?_ _) | (with_reducible refine Kd.C_drew ?_))); (case side2 => exact HC0.out); (case side3 => repeat (first | exact (Kd.C_below HR1.out HB.out) | (with_reducible refine Kd.C_alloc ?_ _) | (with_reducible refine Kd.C_drewN ?_ _) | (with_reducible refine Kd.C_drew ?_))); (case side4 => exact HC1.out); rintro e w19 ⟨v289, rfl, ho0, hb⟩; refine ⟨_, rfl, ?_⟩; have n0_ := mk0 (Kd.N_elder' (uN HO281.out) (Kd.N_base ho0) hb); have n1_ := mk0 (Kd.R_below (uR HO285.out) hb); have n2_ := mk0 (Kd.R_below (uR HO287.out) hb); have n3_ := mk0 (Kd.N_lower (Kd.N_mono (ok' := fun k_ => some k_ ≠ (.slice Ao17 t279.length co17 : Value).ownBlock ∧ some k_ ≠ (v284 : Value).ownBlock ∧ some k_ ≠ (v286 : Value).ownBlock) ho0 (fun k_ hk_ => ⟨(Kd.fresh' (Kd.N_lt (uN HO281.out)) k_ hk_), (Kd.fresh' (Kd.R_lt (uR HO285.out)) k_ hk_), (Kd.fresh' (Kd.R_lt (uR HO287.out)) k_ hk_)⟩)) (below_size (uL HB.out))); have n4_ := mk0 (below_step (uL HB.out) hb); clear HO281; clear HO285; clear HO287; clear HB; have HO281 := n0_; have HO285 := n1_; have HO287 := n2_; have HO290 := n3_; have HB := n4_; clear n0_ n1_ n2_ n3_ n4_; (try clear hb); (try clear hb2); (try clear hk); (try clear hi); (try clear ho0); obtain ⟨Ao20, co20, eo20⟩ := Kd.N_slice HO290.out; subst eo20) | ((with_reducible refine gate_callee (f := 16) rfl ?_); refine goesL_ (some 31) rfl rfl Tryd.func16 (by kernel_rfl) rfl #[.slice Ao17 t279.length co17, .slice Ao20 t288.length co20] rfl (by (try simp only [List.map_toArray, List.map_cons, List.map_nil]); first | done | rfl | (simp only [List.length_drop, List.length_take]; rfl)) ?_; (with_reducible refine (furrowlaw3_Same.calls kj4 _ _ t279 _ _ t288 true _ ?side1 ?side2 ?side3 ?side4 A12.out).mono ?_); (case side1 => repeat (first | exact (Kd.N_reads' HO281.out).2.2 | (with_reducible refine Kd.C_alloc ?_ _) | (with_reducible refine Kd.C_drewN ?_ _) | (with_reducible refine Kd.C_drew ?_))); (case side2 => exact (Kd.N_reads' HO281.out).2.1); (case side3 => repeat (first | exact (Kd.N_reads' HO290.out).2.2 | (with_reducible refine Kd.C_alloc ?_ _) | (with_reducible refine Kd.C_drewN ?_ _) | (with_reducible refine Kd.C_drew ?_))); (case side4 => exact (Kd.N_reads' HO290.out).2.1); rintro e w21 ⟨rfl, hb⟩; refine ⟨_, rfl, ?_⟩; have n0_ := mk0 (Kd.N_below (uN HO281.out) hb); have n1_ := mk0 (Kd.R_below (uR HO285.out) hb); have n2_ := mk0 (Kd.R_below (uR HO287.out) hb); have n3_ := mk0 (Kd.N_below (uN HO290.out) hb); have n4_ := mk0 (below_step (uL HB.out) hb); clear HO281; clear HO285; clear HO287; clear HO290; clear HB; have HO281 := n0_; have HO285 := n1_; have HO287 := n2_; have HO290 := n3_; have HB := n4_; clear n0_ n1_ n2_ n3_ n4_; (try clear hb); (try clear hb2); (try clear hk); (try clear hi); obtain ⟨Ao22, co22, eo22⟩ := Kd.R_slice HO285.out; subst eo22) | (go_at_call 14; (with_reducible refine (furrowref4_SameLines.calls kj4 _ _ t282 _ _ l1 t292 _ ?side1 ?side2 ?side3 ?side4 A15.out).mono ?_); (case side1 => repeat (first | exact (Kd.R_reads' HO285.out).2.2 | (with_reducible refine Kd.C_alloc ?_ _) | (with_reducible refine Kd.C_drewN ?_ _) | (with_reducible refine Kd.C_drew ?_))); (case side2 => exact (Kd.R_reads' HO285.out).2.1); (case side3 => repeat (first | exact (Kd.C_below HR1.out HB.out) | (with_reducible refine Kd.C_alloc ?_ _) | (with_reducible refine Kd.C_drewN ?_ _) | (with_reducible refine Kd.C_drew ?_))); (case side4 => exact HC1.out); rintro e w' ⟨rfl, ⟨nd, rfl⟩⟩))
       go_ret
       exact ⟨by first | rfl | (simp [errW_none, errW_some] <;> rfl) | (exact congrArg (fun b_ => Ending.returned (Value.bool b_)) HT.out) | (rw [show _ = _ from HT.out]) | (simp [HT.out]; done) | (simp [show _ = _ from HT.out]; done) | (simp [*, errW_none, errW_some] <;> rfl), uL HB.out⟩
      ·rw [if_neg c14] at H
       have c14b0 : ((t283.length : Int) == 0) = false := beq_eq_false_iff_ne.mpr c14
       have c14b1 : ((t283.length : Int) != 0) = true := bne_iff_ne.mpr c14
       have c14b2 : ¬ (t283 = []) := fun h_ => c14 (by rw [h_]; rfl)
       exact absurd H (by simp)
     ·replace c13 := Bool.eq_false_iff.mpr c13
      subst c13
      have H1 : (some false) = some true := by rw [if_neg (show ¬ (false = true) by decide)] at H; first | done | exact H
      clear H
      have H := H1
      clear H1
      exact absurd H (by simp)
 ·replace c4 := Bool.eq_false_iff.mpr c4
  subst c4
  have H1 : (some false) = some true := by rw [if_neg (show ¬ (false = true) by decide)] at H; first | done | exact H
  clear H
  have H := H1
  clear H1
  exact absurd H (by simp)

end Go.Proofs.YteeeoblpfepepaaDoor.X
