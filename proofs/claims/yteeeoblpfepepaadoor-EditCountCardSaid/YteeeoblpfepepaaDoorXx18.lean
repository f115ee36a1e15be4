-- PRINTED by print.py (a twelfth state) out of the translation. Not trusted: Lean checks it.
import Derived.Test.YteeeoblpfepepaaDoorXx0
import Derived.Test.YteeeoblpfepepaaDoorXx11
import Derived.Test.YteeeoblpfepepaaDoorXx13
import Derived.Test.YteeeoblpfepepaaDoorXx14
import Derived.Test.YteeeoblpfepepaaDoorXx6
import Derived.Test.YteeeoblpfepepaaDoorXx7
import Derived.Test.YteeeoblpfepepaaDoorHandE
namespace Go.Proofs.YteeeoblpfepepaaDoor.X
open Go.Proofs.YteeeoblpfepepaaDoor.Flt Go.Proofs.YteeeoblpfepepaaDoor.H Go.RowKit Go.Proofs.YteeeoblpfepepaaDoorW.PrintWords Go.Proofs.YteeeoblpfepepaaDoorW.PrintLast Go.Proofs.YteeeoblpfepepaaDoorW.PrintMore
attribute [local go_sem] max2_int min2_int max_two min_two max_three min_three max_four min_four   -- for this text's walks alone
set_option linter.unusedVariables false
set_option linter.unusedSimpArgs false

/-! ### furrowlaw3_EditCount: function 8 -/
def furrowlaw3_EditCount.f (k : Nat) (a0 : Int) (l1 : List (S38)) : Option (Bool) := (furrowlaw3_known.f k).bind fun t420 => (if t420 = true then (if (l1.length : Int) > 20 then (some true) else ((edit_Check.f k a0 l1).bind fun t421 => ((furrowlaw3_Of.f k l1).bind fun t424 => ((furrowref4_CheckEdits.f k a0 t424).bind fun bt427 => ((furrowlaw2_Tells.f t421 bt427.1 bt427.2).bind fun t431 => (some t431)))))) else (some false))
theorem furrowlaw3_EditCount.mono : ∀ a0 a1 k, LeO (furrowlaw3_EditCount.f k a0 a1) (furrowlaw3_EditCount.f (k + 1) a0 a1) := by
 intro a0 a1 k
 unfold furrowlaw3_EditCount.f
 repeat' first
   | (with_reducible exact edit_Check.mono _ _ _)
   | (with_reducible exact furrowlaw3_Of.mono _ _)
   | (with_reducible exact furrowlaw3_known.mono _)
   | (with_reducible exact furrowref4_CheckEdits.mono _ _ _)
   | (with_reducible exact LeO.refl _)
   | (with_reducible exact LeO.none _)
   | (with_reducible refine LeO.ite ?_ ?_)
   | (with_reducible refine LeO.bind ?_ (fun _ => ?_))
   | exact edit_Check.mono _ _ _
   | exact furrowlaw3_Of.mono _ _
   | exact furrowlaw3_known.mono _
   | exact furrowref4_CheckEdits.mono _ _ _
   | exact LeO.none _
   | refine LeO.ite ?_ ?_
   | refine LeO.bind ?_ (fun _ => ?_)
set_option maxHeartbeats 8000000 in
set_option maxRecDepth 100000 in
theorem furrowlaw3_EditCount.calls (k : Nat) (a0 : Int) (A1 : Option Addr) (c1 : Nat) (l1 : List (S38)) (w : World) (hr1 : Kd.C k38 w A1 l1.length l1) (hc1 : l1.length ≤ c1) (hG : Glob w) (h : furrowlaw3_EditCount.f k a0 l1 = some true) :
  Calls Tryd.prog 8 #[.int .i64 a0, .slice A1 l1.length c1] w fun e w' => e = .returned (.bool true) ∧ Below w.heap.size w w' := by
 have HR1 := mk0 hr1
 have HC1 := mk0 hc1
 clear hr1 hc1
 have HG := mk0 hG
 clear hG
 have HB := mk0 (Below.refl w.heap.size w)
 have H : ((furrowlaw3_known.f k).bind fun t420 => (if t420 = true then (if (l1.length : Int) > 20 then (some true) else ((edit_Check.f k a0 l1).bind fun t421 => ((furrowlaw3_Of.f k l1).bind fun t424 => ((furrowref4_CheckEdits.f k a0 t424).bind fun bt427 => ((furrowlaw2_Tells.f t421 bt427.1 bt427.2).bind fun t431 => (some t431)))))) else (some false))) = some true := h
 clear h
 replace H := Option.bind_eq_some_iff.mp H
 obtain ⟨t420, A30, H⟩ := H
 replace H : (if t420 = true then (if (l1.length : Int) > 20 then (some true) else ((edit_Check.f k a0 l1).bind fun t421 => ((furrowlaw3_Of.f k l1).bind fun t424 => ((furrowref4_CheckEdits.f k a0 t424).bind fun bt427 => ((furrowlaw2_Tells.f t421 bt427.1 bt427.2).bind fun t431 => (some t431)))))) else (some false)) = some true := H
 have A3 := mk0 A30
 clear A30
 by_cases c4 : t420 = true
 ·subst c4
  have H1 : (if (l1.length : Int) > 20 then (some true) else ((edit_Check.f k a0 l1).bind fun t421 => ((furrowlaw3_Of.f k l1).bind fun t424 => ((furrowref4_CheckEdits.f k a0 t424).bind fun bt427 => ((furrowlaw2_Tells.f t421 bt427.1 bt427.2).bind fun t431 => (some t431)))))) = some true := by rw [if_pos rfl] at H; first | done | exact H
  clear H
  have H := H1
  clear H1
  by_cases c5 : (l1.length : Int) > 20
  ·rw [if_pos c5] at H
   have c5b0 : decide (20 < (l1.length : Int)) = true := decide_eq_true c5
   have c5b1 : decide (20 < l1.length) = true := decide_eq_true (by omega)
   clear c5
   have HT := mk0 (Option.some.inj H)
   clear H
   go_enter Tryd.func8, Tryd.ntmps8
   go_wp2_with (first | ((with_reducible refine gate_callee (f := 10) rfl ?_); refine goesL_ (some 5) rfl rfl Tryd.func10 (by kernel_rfl) rfl #[] rfl (by (try simp only [List.map_toArray, List.map_cons, List.map_nil]); first | done | rfl | (simp only [List.length_drop, List.length_take]; rfl)) ?_; (with_reducible refine (furrowlaw3_known.calls k   _ ?side1 A3.out).mono ?_); (case side1 => exact Glob.below HG.out (uL HB.out)); rintro e w6 ⟨rfl, hb⟩; refine ⟨_, rfl, ?_⟩; have n0_ := mk0 (below_step (uL HB.out) hb); clear HB; have HB := n0_; clear n0_; (try clear hb); (try clear hb2); (try clear hk); (try clear hi)))
   go_ret
   exact ⟨by first | rfl | (simp [errW_none, errW_some] <;> rfl) | (exact congrArg (fun b_ => Ending.returned (Value.bool b_)) HT.out) | (rw [show _ = _ from HT.out]) | (simp [HT.out]; done) | (simp [show _ = _ from HT.out]; done) | (simp [*, errW_none, errW_some] <;> rfl), uL HB.out⟩
  ·rw [if_neg c5] at H
   have c5b0 : decide (20 < (l1.length : Int)) = false := decide_eq_false c5
   have c5b1 : decide (20 < l1.length) = false := decide_eq_false (by omega)
   clear c5
   replace H := Option.bind_eq_some_iff.mp H
   obtain ⟨t421, A70, H⟩ := H
   replace H : ((furrowlaw3_Of.f k l1).bind fun t424 => ((furrowref4_CheckEdits.f k a0 t424).bind fun bt427 => ((furrowlaw2_Tells.f t421 bt427.1 bt427.2).bind fun t431 => (some t431)))) = some true := H
   have A7 := mk0 A70
   clear A70
   replace H := Option.bind_eq_some_iff.mp H
   obtain ⟨t424, A80, H⟩ := H
   replace H : ((furrowref4_CheckEdits.f k a0 t424).bind fun bt427 => ((furrowlaw2_Tells.f t421 bt427.1 bt427.2).bind fun t431 => (some t431))) = some true := H
   have A8 := mk0 A80
   clear A80
   replace H := Option.bind_eq_some_iff.mp H
   obtain ⟨⟨t427, t430⟩, A90, H⟩ := H
   replace H : ((furrowlaw2_Tells.f t421 t427 t430).bind fun t431 => (some t431)) = some true := H
   have A9 := mk0 A90
   clear A90
   replace H := Option.bind_eq_some_iff.mp H
   obtain ⟨t431, A100, H⟩ := H
   replace H : (some t431) = some true := H
   have A10 := mk0 A100
   clear A100
   have HT := mk0 (Option.some.inj H)
   clear H
   go_enter Tryd.func8, Tryd.ntmps8
   go_wp2_with (first | ((with_reducible refine gate_callee (f := 10) rfl ?_); refine goesL_ (some 5) rfl rfl Tryd.func10 (by kernel_rfl) rfl #[] rfl (by (try simp only [List.map_toArray, List.map_cons, List.map_nil]); first | done | rfl | (simp only [List.length_drop, List.length_take]; rfl)) ?_; (with_reducible refine (furrowlaw3_known.calls k   _ ?side1 A3.out).mono ?_); (case side1 => exact Glob.below HG.out (uL HB.out)); rintro e w11 ⟨rfl, hb⟩; refine ⟨_, rfl, ?_⟩; have n0_ := mk0 (below_step (uL HB.out) hb); clear HB; have HB := n0_; clear n0_; (try clear hb); (try clear hb2); (try clear hk); (try clear hi)) | ((with_reducible refine gate_callee (f := 23) rfl ?_); refine goesL_ (some 12) rfl rfl Tryd.func23 (by kernel_rfl) rfl #[.int .i64 a0, .slice A1 l1.length c1] rfl (by (try simp only [List.map_toArray, List.map_cons, List.map_nil]); first | done | rfl | (simp only [List.length_drop, List.length_take]; rfl)) ?_; (with_reducible refine (edit_Check.calls k a0 _ _ l1 t421 _ ?side1 ?side2 A7.out).mono ?_); (case side1 => repeat (first | exact (Kd.C_below HR1.out HB.out) | (with_reducible refine Kd.C_alloc ?_ _) | (with_reducible refine Kd.C_drewN ?_ _) | (with_reducible refine Kd.C_drew ?_))); (case side2 => exact HC1.out); rintro e w12 ⟨v422, rfl, ho0, hb⟩; refine ⟨_, rfl, ?_⟩; have n0_ := mk0 (Kd.R_lower ho0 (below_size (uL HB.out))); have n1_ := mk0 (below_step (uL HB.out) hb); clear HB; have HO423 := n0_; have HB := n1_; clear n0_ n1_; (try clear hb); (try clear hb2); (try clear hk); (try clear hi); (try clear ho0); (first | (have EHO423 := cmpV_no HO423.out (by with_reducible assumption)) | (have EHO423 := cmpV_yes HO423.out (by with_reducible assumption)) | skip)) | ((with_reducible refine gate_callee (f := 18) rfl ?_); refine goesL_ (some 15) rfl rfl Tryd.func18 (by kernel_rfl) rfl #[.slice A1 l1.length c1] rfl (by (try simp only [List.map_toArray, List.map_cons, List.map_nil]); first | done | rfl | (simp only [List.length_drop, List.length_take]; rfl)) ?_; (with_reducible refine (furrowlaw3_Of.calls k (fun k_ => k_ < w.heap.size) _ _ l1 t424 _ ?side1 A8.out).mono ?_); (case side1 => exact Kd.V_mk HC1.out (Kd.F_below (Kd.C_F k38_heap HR1.out) (uL HB.out))); rintro e w13 ⟨v425, rfl, ho0, hb⟩; refine ⟨_, rfl, ?_⟩; have n0_ := mk0 (Kd.R_below (uR HO423.out) hb); have n1_ := mk0 (Kd.N_lower (Kd.N_mono (ok' := fun k_ => some k_ ≠ (v422 : Value).ownBlock) ho0 (fun k_ hk_ => Or.elim hk_ (fun hs_ => fun e_ => Nat.not_le.2 hs_ (Kd.R_base HO423.out k_ e_.symm)) (fun hn_ => (Kd.fresh' (Kd.R_lt (uR HO423.out)) k_ hn_)))) (below_size (uL HB.out))); have n2_ := mk0 (below_step (uL HB.out) hb); clear HO423; clear HB; have HO423 := n0_; have HO426 := n1_; have HB := n2_; clear n0_ n1_ n2_; (try clear hb); (try clear hb2); (try clear hk); (try clear hi); (try clear ho0); obtain ⟨Ao14, co14, eo14⟩ := Kd.N_slice HO426.out; subst eo14) | ((with_reducible refine gate_callee (f := 19) rfl ?_); refine goesL_ (some 16) rfl rfl Tryd.func19 (by kernel_rfl) rfl #[.int .i64 a0, .slice Ao14 t424.length co14] rfl (by (try simp only [List.map_toArray, List.map_cons, List.map_nil]); first | done | rfl | (simp only [List.length_drop, List.length_take]; rfl)) ?_; (with_reducible refine (furrowref4_CheckEdits.calls k a0 _ _ t424 t427 t430 _ ?side1 ?side2 A9.out).mono ?_); (case side1 => repeat (first | exact (Kd.N_reads' HO426.out).2.2 | (with_reducible refine Kd.C_alloc ?_ _) | (with_reducible refine Kd.C_drewN ?_ _) | (with_reducible refine Kd.C_drew ?_))); (case side2 => exact (Kd.N_reads' HO426.out).2.1); rintro e w15 ⟨v428, rfl, ho0, hb⟩; refine ⟨_, rfl, ?_⟩; have n0_ := mk0 (Kd.R_below (uR HO423.out) hb); have n1_ := mk0 (Kd.N_elder' (uN HO426.out) (Kd.R_base ho0) hb); have n2_ := mk0 (Kd.R_lower ho0 (below_size (uL HB.out))); have n3_ := mk0 (below_step (uL HB.out) hb); clear HO423; clear HO426; clear HB; have HO423 := n0_; have HO426 := n1_; have HO429 := n2_; have HB := n3_; clear n0_ n1_ n2_ n3_; (try clear hb); (try clear hb2); (try clear hk); (try clear hi); (try clear ho0); obtain ⟨Ao16, co16, eo16⟩ := Kd.R_slice HO423.out; subst eo16; obtain ⟨Ao17, co17, eo17⟩ := Kd.R_slice HO429.out; subst eo17) | ((with_reducible refine gate_callee (f := 22) rfl ?_); refine goesL_ (some 17) rfl rfl Tryd.func22 (by kernel_rfl) rfl #[errV (.slice Ao16 t421.length co16), .agg #[.slice Ao17 t427.length co17, .int .i64 t430]] rfl (by (try simp only [List.map_toArray, List.map_cons, List.map_nil]); first | done | rfl | (simp only [List.length_drop, List.length_take]; rfl)) ?_; (with_reducible refine (furrowlaw2_Tells.calls _ _ t421 _ _ t427 t430 t431 _ ?side1 ?side2 ?side3 ?side4 ?side5 A10.out).mono ?_); (case side1 => repeat (first | exact (Kd.R_reads' HO423.out).2.2 | (with_reducible refine Kd.C_alloc ?_ _) | (with_reducible refine Kd.C_drewN ?_ _) | (with_reducible refine Kd.C_drew ?_))); (case side2 => exact (Kd.R_reads' HO423.out).2.1); (case side3 => repeat (first | exact (Kd.R_reads' HO429.out).2.2 | (with_reducible refine Kd.C_alloc ?_ _) | (with_reducible refine Kd.C_drewN ?_ _) | (with_reducible refine Kd.C_drew ?_))); (case side4 => exact (Kd.R_reads' HO429.out).2.1); (case side5 => exact Glob.below HG.out (uL HB.out)); rintro e w18 ⟨rfl, hb⟩; refine ⟨_, rfl, ?_⟩; have n0_ := mk0 (Kd.R_below (uR HO423.out) hb); have n1_ := mk0 (Kd.N_below (uN HO426.out) hb); have n2_ := mk0 (Kd.R_below (uR HO429.out) hb); have n3_ := mk0 (below_step (uL HB.out) hb); clear HO423; clear HO426; clear HO429; clear HB; have HO423 := n0_; have HO426 := n1_; have HO429 := n2_; have HB := n3_; clear n0_ n1_ n2_ n3_; (try clear hb); (try clear hb2); (try clear hk); (try clear hi)))
   go_ret
   exact ⟨by first | rfl | (simp [errW_none, errW_some] <;> rfl) | (exact congrArg (fun b_ => Ending.returned (Value.bool b_)) HT.out) | (rw [show _ = _ from HT.out]) | (simp [HT.out]; done) | (simp [show _ = _ from HT.out]; done) | (simp [*, errW_none, errW_some] <;> rfl), uL HB.out⟩
 ·replace c4 := Bool.eq_false_iff.mpr c4
  subst c4
  have H1 : (some false) = some true := by rw [if_neg (show ¬ (false = true) by decide)] at H; first | done | exact H
  clear H
  have H := H1
  clear H1
  exact absurd H (by simp)

/-! ### furrowlaw3_EditTouch: function 9 -/
def furrowlaw3_EditTouch.f (k : Nat) (a0 : Int) (a1 : Int) (a2 : Int) (a3 : Int) : Option (Bool) := (furrowlaw3_known.f k).bind fun t437 => (if t437 = true then ((edit_Check.f k 20 (([(⟨wrap64 (Int.tmod a0 8), wrap64 ((wrap64 (Int.tmod a0 8)) + (wrap64 (Int.tmod a1 4))), ([] : List ByteArray)⟩ : S38), (⟨wrap64 (Int.tmod a2 14), wrap64 ((wrap64 (Int.tmod a2 14)) + (wrap64 (Int.tmod a3 4))), ([] : List ByteArray)⟩ : S38)] : List (S38)))).bind fun t441 => (if (wrap64 (Int.tmod a2 14)) > (wrap64 ((wrap64 (Int.tmod a0 8)) + (wrap64 (Int.tmod a1 4)))) then (if (t441.length : Int) = 0 then (some true) else (some false)) else ((furrowlaw3_tells.f t441).bind fun t444 => (some t444)))) else (some false))
theorem furrowlaw3_EditTouch.mono : ∀ a0 a1 a2 a3 k, LeO (furrowlaw3_EditTouch.f k a0 a1 a2 a3) (furrowlaw3_EditTouch.f (k + 1) a0 a1 a2 a3) := by
 intro a0 a1 a2 a3 k
 unfold furrowlaw3_EditTouch.f
 repeat' first
   | (with_reducible exact edit_Check.mono _ _ _)
   | (with_reducible exact furrowlaw3_known.mono _)
   | (with_reducible exact LeO.refl _)
   | (with_reducible exact LeO.none _)
   | (with_reducible refine LeO.ite ?_ ?_)
   | (with_reducible refine LeO.bind ?_ (fun _ => ?_))
   | exact edit_Check.mono _ _ _
   | exact furrowlaw3_known.mono _
   | exact LeO.none _
   | refine LeO.ite ?_ ?_
   | refine LeO.bind ?_ (fun _ => ?_)
set_option maxHeartbeats 8000000 in
set_option maxRecDepth 100000 in
theorem furrowlaw3_EditTouch.calls (k : Nat) (a0 : Int) (a1 : Int) (a2 : Int) (a3 : Int) (w : World) (hG : Glob w) (h : furrowlaw3_EditTouch.f k a0 a1 a2 a3 = some true) :
  Calls Tryd.prog 9 #[.int .u8 a0, .int .u8 a1, .int .u8 a2, .int .u8 a3] w fun e w' => e = .returned (.bool true) ∧ Below w.heap.size w w' := by
 have hu38 := Tryd.underlying38
 have HG := mk0 hG
 clear hG
 have HB := mk0 (Below.refl w.heap.size w)
 have H : ((furrowlaw3_known.f k).bind fun t437 => (if t437 = true then ((edit_Check.f k 20 (([(⟨wrap64 (Int.tmod a0 8), wrap64 ((wrap64 (Int.tmod a0 8)) + (wrap64 (Int.tmod a1 4))), ([] : List ByteArray)⟩ : S38), (⟨wrap64 (Int.tmod a2 14), wrap64 ((wrap64 (Int.tmod a2 14)) + (wrap64 (Int.tmod a3 4))), ([] : List ByteArray)⟩ : S38)] : List (S38)))).bind fun t441 => (if (wrap64 (Int.tmod a2 14)) > (wrap64 ((wrap64 (Int.tmod a0 8)) + (wrap64 (Int.tmod a1 4)))) then (if (t441.length : Int) = 0 then (some true) else (some false)) else ((furrowlaw3_tells.f t441).bind fun t444 => (some t444)))) else (some false))) = some true := h
 clear h
 replace H := Option.bind_eq_some_iff.mp H
 obtain ⟨t437, A50, H⟩ := H
 replace H : (if t437 = true then ((edit_Check.f k 20 (([(⟨wrap64 (Int.tmod a0 8), wrap64 ((wrap64 (Int.tmod a0 8)) + (wrap64 (Int.tmod a1 4))), ([] : List ByteArray)⟩ : S38), (⟨wrap64 (Int.tmod a2 14), wrap64 ((wrap64 (Int.tmod a2 14)) + (wrap64 (Int.tmod a3 4))), ([] : List ByteArray)⟩ : S38)] : List (S38)))).bind fun t441 => (if (wrap64 (Int.tmod a2 14)) > (wrap64 ((wrap64 (Int.tmod a0 8)) + (wrap64 (Int.tmod a1 4)))) then (if (t441.length : Int) = 0 then (some true) else (some false)) else ((furrowlaw3_tells.f t441).bind fun t444 => (some t444)))) else (some false)) = some true := H
 have A5 := mk0 A50
 clear A50
 by_cases c6 : t437 = true
 ·subst c6
  have H1 : ((edit_Check.f k 20 (([(⟨wrap64 (Int.tmod a0 8), wrap64 ((wrap64 (Int.tmod a0 8)) + (wrap64 (Int.tmod a1 4))), ([] : List ByteArray)⟩ : S38), (⟨wrap64 (Int.tmod a2 14), wrap64 ((wrap64 (Int.tmod a2 14)) + (wrap64 (Int.tmod a3 4))), ([] : List ByteArray)⟩ : S38)] : List (S38)))).bind fun t441 => (if (wrap64 (Int.tmod a2 14)) > (wrap64 ((wrap64 (Int.tmod a0 8)) + (wrap64 (Int.tmod a1 4)))) then (if (t441.length : Int) = 0 then (some true) else (some false)) else ((furrowlaw3_tells.f t441).bind fun t444 => (some t444)))) = some true := by rw [if_pos rfl] at H; first | done | exact H
  clear H
  have H := H1
  clear H1
  obtain ⟨y438, hy438⟩ : ∃ y_ : List (S38), y_ = (([(⟨wrap64 (Int.tmod a0 8), wrap64 ((wrap64 (Int.tmod a0 8)) + (wrap64 (Int.tmod a1 4))), ([] : List ByteArray)⟩ : S38), (⟨wrap64 (Int.tmod a2 14), wrap64 ((wrap64 (Int.tmod a2 14)) + (wrap64 (Int.tmod a3 4))), ([] : List ByteArray)⟩ : S38)] : List (S38))) := ⟨_, rfl⟩
  replace H : ((edit_Check.f k 20 y438).bind fun t441 => (if (wrap64 (Int.tmod a2 14)) > (wrap64 ((wrap64 (Int.tmod a0 8)) + (wrap64 (Int.tmod a1 4)))) then (if (t441.length : Int) = 0 then (some true) else (some false)) else ((furrowlaw3_tells.f t441).bind fun t444 => (some t444)))) = some true := by first | (rw [hy438]; with_reducible exact H) | (have H2_ := (Option.bind_some _ _).symm.trans H; rw [hy438]; with_reducible exact H2_) | (have H2_ := (Option.bind_some _ _).symm.trans H; with_reducible exact H2_) | with_reducible exact H | (rw [hy438]; exact H) | exact H
  have Ny438 := mk0 hy438
  clear hy438
  replace H := Option.bind_eq_some_iff.mp H
  obtain ⟨t441, A70, H⟩ := H
  replace H : (if (wrap64 (Int.tmod a2 14)) > (wrap64 ((wrap64 (Int.tmod a0 8)) + (wrap64 (Int.tmod a1 4)))) then (if (t441.length : Int) = 0 then (some true) else (some false)) else ((furrowlaw3_tells.f t441).bind fun t444 => (some t444))) = some true := H
  have A7 := mk0 A70
  clear A70
  by_cases c8 : (wrap64 (Int.tmod a2 14)) > (wrap64 ((wrap64 (Int.tmod a0 8)) + (wrap64 (Int.tmod a1 4))))
  ·rw [if_pos c8] at H
   have c8b0 : decide ((wrap64 ((wrap64 (Int.tmod a0 8)) + (wrap64 (Int.tmod a1 4)))) < (wrap64 (Int.tmod a2 14))) = true := decide_eq_true c8
   clear c8
   by_cases c9 : (t441.length : Int) = 0
   ·rw [if_pos c9] at H
    have c9b0 : ((t441.length : Int) == 0) = true := beq_iff_eq.mpr c9
    have c9b1 : ((t441.length : Int) != 0) = false := bne_eq_false_iff_eq.mpr c9
    clear c9
    have HT := mk0 (Option.some.inj H)
    clear H
    go_enter Tryd.func9, Tryd.ntmps9
    go_wp2_with (first | ((with_reducible refine gate_callee (f := 10) rfl ?_); refine goesL_ (some 14) rfl rfl Tryd.func10 (by kernel_rfl) rfl #[] rfl (by (try simp only [List.map_toArray, List.map_cons, List.map_nil]); first | done | rfl | (simp only [List.length_drop, List.length_take]; rfl)) ?_; (with_reducible refine (furrowlaw3_known.calls k   _ ?side1 A5.out).mono ?_); (case side1 => exact Glob.below HG.out (uL HB.out)); rintro e w10 ⟨rfl, hb⟩; refine ⟨_, rfl, ?_⟩; have n0_ := mk0 (below_step (uL HB.out) hb); clear HB; have HB := n0_; clear n0_; (try clear hb); (try clear hb2); (try clear hk); (try clear hi)) | ((with_reducible refine gate_dst (N := 38) rfl ?_); refine Kd.S_lit k38 _ 38 ?hg (N := 38) ?hd (xs := ([(⟨wrap64 (Int.tmod a0 8), wrap64 ((wrap64 (Int.tmod a0 8)) + (wrap64 (Int.tmod a1 4))), ([] : List ByteArray)⟩ : S38), (⟨wrap64 (Int.tmod a2 14), wrap64 ((wrap64 (Int.tmod a2 14)) + (wrap64 (Int.tmod a3 4))), ([] : List ByteArray)⟩ : S38)] : List (S38))) (inner := [.int .i64 (wrap64 (Int.tmod a0 8)), .int .i64 (wrap64 ((wrap64 (Int.tmod a0 8)) + (wrap64 (Int.tmod a1 4)))), .slice none 0 0, .int .i64 (wrap64 (Int.tmod a2 14)), .int .i64 (wrap64 ((wrap64 (Int.tmod a2 14)) + (wrap64 (Int.tmod a3 4)))), .slice none 0 0]) (ok := fun _ => True) (okp := fun _ => True) ?hr ?hp (fun _ hk => hk) trivial (Below.refl _ _) (Nat.le_refl _) (by simp) ?_; (case hd => rfl); (case hg => rfl); (case hr => first | (go_simp; done) | (go_simp; rfl)); (case hp => exact (Reps.c3 (show Kd.M k38 _ _ _ (⟨wrap64 (Int.tmod a0 8), wrap64 ((wrap64 (Int.tmod a0 8)) + (wrap64 (Int.tmod a1 4))), ([] : List ByteArray)⟩ : S38) [.int .i64 (wrap64 (Int.tmod a0 8)), .int .i64 (wrap64 ((wrap64 (Int.tmod a0 8)) + (wrap64 (Int.tmod a1 4)))), .slice none 0 0] from (k38_mkM _ _ _ (⟨wrap64 (Int.tmod a0 8), wrap64 ((wrap64 (Int.tmod a0 8)) + (wrap64 (Int.tmod a1 4))), ([] : List ByteArray)⟩ : S38) (Kd.R_nil _ _ _ _ _))) (Reps.c3 (show Kd.M k38 _ _ _ (⟨wrap64 (Int.tmod a2 14), wrap64 ((wrap64 (Int.tmod a2 14)) + (wrap64 (Int.tmod a3 4))), ([] : List ByteArray)⟩ : S38) [.int .i64 (wrap64 (Int.tmod a2 14)), .int .i64 (wrap64 ((wrap64 (Int.tmod a2 14)) + (wrap64 (Int.tmod a3 4)))), .slice none 0 0] from (k38_mkM _ _ _ (⟨wrap64 (Int.tmod a2 14), wrap64 ((wrap64 (Int.tmod a2 14)) + (wrap64 (Int.tmod a3 4))), ([] : List ByteArray)⟩ : S38) (Kd.R_nil _ _ _ _ _))) (Reps.none _ _)))); intro v439 w11 ho12 hb hg_ hnew_; clear hg_ hnew_; (first | rw [← Ny438.out] at ho12 | (simp only [Int.reduceToNat] at ho12; rw [← Ny438.out] at ho12)); have n0_ := mk0 (Kd.S_lower ho12 (below_size (uL HB.out))); have n1_ := mk0 (below_step (uL HB.out) hb); clear HB; have HO440 := n0_; have HB := n1_; clear n0_ n1_; clear hb ho12; obtain ⟨Ao13, co13, eo13⟩ := Kd.S_slice HO440.out; subst eo13) | ((with_reducible refine gate_callee (f := 23) rfl ?_); refine goesL_ (some 39) rfl rfl Tryd.func23 (by kernel_rfl) rfl #[.int .i64 20, .slice Ao13 y438.length co13] rfl (by (try simp only [List.map_toArray, List.map_cons, List.map_nil]); first | done | rfl | (simp only [List.length_drop, List.length_take]; rfl)) ?_; (with_reducible refine (edit_Check.calls k 20 _ _ y438 t441 _ ?side1 ?side2 A7.out).mono ?_); (case side1 => repeat (first | exact (Kd.S_reads' HO440.out).2.2 | (with_reducible refine Kd.C_alloc ?_ _) | (with_reducible refine Kd.C_drewN ?_ _) | (with_reducible refine Kd.C_drew ?_))); (case side2 => exact (Kd.S_reads' HO440.out).2.1); rintro e w14 ⟨v442, rfl, ho0, hb⟩; refine ⟨_, rfl, ?_⟩; have n0_ := mk0 (Kd.S_below (by (with_reducible repeat (first | apply Kd.S_alloc | apply Kd.S_drewN | apply Kd.S_drew)); exact HO440.out) hb); have n1_ := mk0 (Kd.R_lower ho0 (below_size (uL HB.out))); have n2_ := mk0 (below_step (uL HB.out) hb); clear HO440; clear HB; have HO440 := n0_; have HO443 := n1_; have HB := n2_; clear n0_ n1_ n2_; (try clear hb); (try clear hb2); (try clear hk); (try clear hi); (try clear ho0); (first | (have EHO443 := cmpV_no HO443.out (by with_reducible assumption)) | (have EHO443 := cmpV_yes HO443.out (by with_reducible assumption)) | skip)))
    go_ret
    exact ⟨by first | rfl | (simp [errW_none, errW_some] <;> rfl) | (exact congrArg (fun b_ => Ending.returned (Value.bool b_)) HT.out) | (rw [show _ = _ from HT.out]) | (simp [HT.out]; done) | (simp [show _ = _ from HT.out]; done) | (simp [*, errW_none, errW_some] <;> rfl), uL HB.out⟩
   ·rw [if_neg c9] at H
    have c9b0 : ((t441.length : Int) == 0) = false := beq_eq_false_iff_ne.mpr c9
    have c9b1 : ((t441.length : Int) != 0) = true := bne_iff_ne.mpr c9
    have c9b2 : ¬ (t441 = []) := fun h_ => c9 (by rw [h_]; rfl)
    exact absurd H (by simp)
  ·rw [if_neg c8] at H
   have c8b0 : decide ((wrap64 ((wrap64 (Int.tmod a0 8)) + (wrap64 (Int.tmod a1 4)))) < (wrap64 (Int.tmod a2 14))) = false := decide_eq_false c8
   clear c8
   replace H := Option.bind_eq_some_iff.mp H
   obtain ⟨t444, A150, H⟩ := H
   replace H : (some t444) = some true := H
   have A15 := mk0 A150
   clear A150
   have HT := mk0 (Option.some.inj H)
   clear H
   go_enter Tryd.func9, Tryd.ntmps9
   go_wp2_with (first | ((with_reducible refine gate_callee (f := 10) rfl ?_); refine goesL_ (some 14) rfl rfl Tryd.func10 (by kernel_rfl) rfl #[] rfl (by (try simp only [List.map_toArray, List.map_cons, List.map_nil]); first | done | rfl | (simp only [List.length_drop, List.length_take]; rfl)) ?_; (with_reducible refine (furrowlaw3_known.calls k   _ ?side1 A5.out).mono ?_); (case side1 => exact Glob.below HG.out (uL HB.out)); rintro e w16 ⟨rfl, hb⟩; refine ⟨_, rfl, ?_⟩; have n0_ := mk0 (below_step (uL HB.out) hb); clear HB; have HB := n0_; clear n0_; (try clear hb); (try clear hb2); (try clear hk); (try clear hi)) | ((with_reducible refine gate_dst (N := 38) rfl ?_); refine Kd.S_lit k38 _ 38 ?hg (N := 38) ?hd (xs := ([(⟨wrap64 (Int.tmod a0 8), wrap64 ((wrap64 (Int.tmod a0 8)) + (wrap64 (Int.tmod a1 4))), ([] : List ByteArray)⟩ : S38), (⟨wrap64 (Int.tmod a2 14), wrap64 ((wrap64 (Int.tmod a2 14)) + (wrap64 (Int.tmod a3 4))), ([] : List ByteArray)⟩ : S38)] : List (S38))) (inner := [.int .i64 (wrap64 (Int.tmod a0 8)), .int .i64 (wrap64 ((wrap64 (Int.tmod a0 8)) + (wrap64 (Int.tmod a1 4)))), .slice none 0 0, .int .i64 (wrap64 (Int.tmod a2 14)), .int .i64 (wrap64 ((wrap64 (Int.tmod a2 14)) + (wrap64 (Int.tmod a3 4)))), .slice none 0 0]) (ok := fun _ => True) (okp := fun _ => True) ?hr ?hp (fun _ hk => hk) trivial (Below.refl _ _) (Nat.le_refl _) (by simp) ?_; (case hd => rfl); (case hg => rfl); (case hr => first | (go_simp; done) | (go_simp; rfl)); (case hp => exact (Reps.c3 (show Kd.M k38 _ _ _ (⟨wrap64 (Int.tmod a0 8), wrap64 ((wrap64 (Int.tmod a0 8)) + (wrap64 (Int.tmod a1 4))), ([] : List ByteArray)⟩ : S38) [.int .i64 (wrap64 (Int.tmod a0 8)), .int .i64 (wrap64 ((wrap64 (Int.tmod a0 8)) + (wrap64 (Int.tmod a1 4)))), .slice none 0 0] from (k38_mkM _ _ _ (⟨wrap64 (Int.tmod a0 8), wrap64 ((wrap64 (Int.tmod a0 8)) + (wrap64 (Int.tmod a1 4))), ([] : List ByteArray)⟩ : S38) (Kd.R_nil _ _ _ _ _))) (Reps.c3 (show Kd.M k38 _ _ _ (⟨wrap64 (Int.tmod a2 14), wrap64 ((wrap64 (Int.tmod a2 14)) + (wrap64 (Int.tmod a3 4))), ([] : List ByteArray)⟩ : S38) [.int .i64 (wrap64 (Int.tmod a2 14)), .int .i64 (wrap64 ((wrap64 (Int.tmod a2 14)) + (wrap64 (Int.tmod a3 4)))), .slice none 0 0] from (k38_mkM _ _ _ (⟨wrap64 (Int.tmod a2 14), wrap64 ((wrap64 (Int.tmod a2 14)) + (wrap64 (Int.tmod a3 4))), ([] : List ByteArray)⟩ : S38) (Kd.R_nil _ _ _ _ _))) (Reps.none _ _)))); intro v439 w17 ho18 hb hg_ hnew_; clear hg_ hnew_; (first | rw [← Ny438.out] at ho18 | (simp only [Int.reduceToNat] at ho18; rw [← Ny438.out] at ho18)); have n0_ := mk0 (Kd.S_lower ho18 (below_size (uL HB.out))); have n1_ := mk0 (below_step (uL HB.out) hb); clear HB; have HO440 := n0_; have HB := n1_; clear n0_ n1_; clear hb ho18; obtain ⟨Ao19, co19, eo19⟩ := Kd.S_slice HO440.out; subst eo19) | ((with_reducible refine gate_callee (f := 23) rfl ?_); refine goesL_ (some 39) rfl rfl Tryd.func23 (by kernel_rfl) rfl #[.int .i64 20, .slice Ao19 y438.length co19] rfl (by (try simp only [List.map_toArray, List.map_cons, List.map_nil]); first | done | rfl | (simp only [List.length_drop, List.length_take]; rfl)) ?_; (with_reducible refine (edit_Check.calls k 20 _ _ y438 t441 _ ?side1 ?side2 A7.out).mono ?_); (case side1 => repeat (first | exact (Kd.S_reads' HO440.out).2.2 | (with_reducible refine Kd.C_alloc ?_ _) | (with_reducible refine Kd.C_drewN ?_ _) | (with_reducible refine Kd.C_drew ?_))); (case side2 => exact (Kd.S_reads' HO440.out).2.1); rintro e w20 ⟨v442, rfl, ho0, hb⟩; refine ⟨_, rfl, ?_⟩; have n0_ := mk0 (Kd.S_below (by (with_reducible repeat (first | apply Kd.S_alloc | apply Kd.S_drewN | apply Kd.S_drew)); exact HO440.out) hb); have n1_ := mk0 (Kd.R_lower ho0 (below_size (uL HB.out))); have n2_ := mk0 (below_step (uL HB.out) hb); clear HO440; clear HB; have HO440 := n0_; have HO443 := n1_; have HB := n2_; clear n0_ n1_ n2_; (try clear hb); (try clear hb2); (try clear hk); (try clear hi); (try clear ho0); (first | (have EHO443 := cmpV_no HO443.out (by with_reducible assumption)) | (have EHO443 := cmpV_yes HO443.out (by with_reducible assumption)) | skip); obtain ⟨Ao21, co21, eo21⟩ := Kd.R_slice HO443.out; subst eo21) | ((with_reducible refine gate_callee (f := 24) rfl ?_); refine goesL_ (some 46) rfl rfl Tryd.func24 (by kernel_rfl) rfl #[errV (.slice Ao21 t441.length co21)] rfl (by (try simp only [List.map_toArray, List.map_cons, List.map_nil]); first | done | rfl | (simp only [List.length_drop, List.length_take]; rfl)) ?_; (with_reducible refine (furrowlaw3_tells.calls _ _ t441 t444 _ ?side1 ?side2 ?side3 A15.out).mono ?_); (case side1 => repeat (first | exact (Kd.R_reads' HO443.out).2.2 | (with_reducible refine Kd.C_alloc ?_ _) | (with_reducible refine Kd.C_drewN ?_ _) | (with_reducible refine Kd.C_drew ?_))); (case side2 => exact (Kd.R_reads' HO443.out).2.1); (case side3 => exact Glob.below HG.out (uL HB.out)); rintro e w22 ⟨rfl, hb⟩; refine ⟨_, rfl, ?_⟩; have n0_ := mk0 (Kd.S_below (by (with_reducible repeat (first | apply Kd.S_alloc | apply Kd.S_drewN | apply Kd.S_drew)); exact HO440.out) hb); have n1_ := mk0 (Kd.R_below (uR HO443.out) hb); have n2_ := mk0 (below_step (uL HB.out) hb); clear HO440; clear HO443; clear HB; have HO440 := n0_; have HO443 := n1_; have HB := n2_; clear n0_ n1_ n2_; (try clear hb); (try clear hb2); (try clear hk); (try clear hi)))
   go_ret
   exact ⟨by first | rfl | (simp [errW_none, errW_some] <;> rfl) | (exact congrArg (fun b_ => Ending.returned (Value.bool b_)) HT.out) | (rw [show _ = _ from HT.out]) | (simp [HT.out]; done) | (simp [show _ = _ from HT.out]; done) | (simp [*, errW_none, errW_some] <;> rfl), uL HB.out⟩
 ·replace c6 := Bool.eq_false_iff.mpr c6
  subst c6
  have H1 : (some false) = some true := by rw [if_neg (show ¬ (false = true) by decide)] at H; first | done | exact H
  clear H
  have H := H1
  clear H1
  exact absurd H (by simp)

/-- THE ONE PURE STATEMENT of furrowlaw3_EditTouch: yours. -/
def furrowlaw3_EditTouch.Pure : Prop := ∀ (a0 : Int) (a1 : Int) (a2 : Int) (a3 : Int), (Lit.int .u8 a0).wf = true → (Lit.int .u8 a1).wf = true → (Lit.int .u8 a2).wf = true → (Lit.int .u8 a3).wf = true → ∃ k, furrowlaw3_EditTouch.f k a0 a1 a2 a3 = some true
theorem furrowlaw3_EditTouch.walk (P : furrowlaw3_EditTouch.Pure) (a0 : Int) (a1 : Int) (a2 : Int) (a3 : Int) (w : World) (w0 : (Lit.int .u8 a0).wf = true) (w1 : (Lit.int .u8 a1).wf = true) (w2 : (Lit.int .u8 a2).wf = true) (w3 : (Lit.int .u8 a3).wf = true) (hG : Glob w) :
  Calls Tryd.prog 9 #[.int .u8 a0, .int .u8 a1, .int .u8 a2, .int .u8 a3] w fun e w' => e = .returned (.bool true) ∧ Below w.heap.size w w' := by
 obtain ⟨k, h⟩ := P a0 a1 a2 a3 w0 w1 w2 w3
 refine (furrowlaw3_EditTouch.calls k a0 a1 a2 a3  w hG h).mono ?_
 rintro e w' ⟨rfl, hd⟩
 exact ⟨rfl, hd⟩

end Go.Proofs.YteeeoblpfepepaaDoor.X
