-- PRINTED by print.py (a twelfth state) out of the translation. Not trusted: Lean checks it.
import Derived.Test.YtnecoebdmjkblaaDoorXx0
import Derived.Test.YtnecoebdmjkblaaDoorXx2
import Derived.Test.YtnecoebdmjkblaaDoorXx3
import Derived.Test.YtnecoebdmjkblaaDoorXx5
import Derived.Test.YtnecoebdmjkblaaDoorHandE
import Derived.Test.YtnecoebdmjkblaaDoorHandU
import Derived.Test.YtnecoebdmjkblaaDoorHandX
namespace Go.Proofs.YtnecoebdmjkblaaDoor.X
open Go.Proofs.YtnecoebdmjkblaaDoor.Flt Go.Proofs.YtnecoebdmjkblaaDoor.H Go.RowKit Go.Proofs.YtnecoebdmjkblaaDoorW.PrintWords Go.Proofs.YtnecoebdmjkblaaDoorW.PrintLast Go.Proofs.YtnecoebdmjkblaaDoorW.PrintMore
attribute [local go_sem] max2_int min2_int max_two min_two max_three min_three max_four min_four   -- for this text's walks alone
set_option linter.unusedVariables false
set_option linter.unusedSimpArgs false

/-! ### furrowlaw2_LineSplit: function 5 -/
def furrowlaw2_LineSplit.f (k : Nat) (a0 : ByteArray) : Option (Bool) := (furrowlaw2_known.f).bind fun t197 => (if t197 = true then (if (a0.size : Int) > 70000 then (some true) else ((line_Split.f a0).bind fun bt198 => ((furrowref4_Split.f k a0).bind fun bt204 => ((furrowlaw2_Tells.f bt198.2 bt204.2.1 bt204.2.2).bind fun t212 => (if t212 = true then ((furrowref4_SameLines.f k bt198.1 bt204.1).bind fun t213 => (if t213 = true then (if bt204.2.2 = 0 then ((line_Join.f bt198.1).bind fun t214 => (some (t214.toList == a0.toList))) else (some true)) else (some false))) else (some false)))))) else (some false))
theorem furrowlaw2_LineSplit.mono : ∀ a0 k, LeO (furrowlaw2_LineSplit.f k a0) (furrowlaw2_LineSplit.f (k + 1) a0) := by
 intro a0 k
 unfold furrowlaw2_LineSplit.f
 repeat' first
   | (with_reducible exact furrowref4_SameLines.mono _ _ _)
   | (with_reducible exact furrowref4_Split.mono _ _)
   | (with_reducible exact LeO.refl _)
   | (with_reducible exact LeO.none _)
   | (with_reducible refine LeO.ite ?_ ?_)
   | (with_reducible refine LeO.bind ?_ (fun _ => ?_))
   | exact furrowref4_SameLines.mono _ _ _
   | exact furrowref4_Split.mono _ _
   | exact LeO.none _
   | refine LeO.ite ?_ ?_
   | refine LeO.bind ?_ (fun _ => ?_)
set_option maxHeartbeats 8000000 in
set_option maxRecDepth 100000 in
theorem furrowlaw2_LineSplit.calls (k : Nat) (a0 : ByteArray) (w : World) (hG : Glob w) (h : furrowlaw2_LineSplit.f k a0 = some true) :
  Calls Tryd.prog 5 #[.string a0] w fun e w' => e = .returned (.bool true) ∧ Below w.heap.size w w' := by
 have hu36 := Tryd.underlying36
 have HG := mk0 hG
 clear hG
 have HB := mk0 (Below.refl w.heap.size w)
 have H : ((furrowlaw2_known.f).bind fun t197 => (if t197 = true then (if (a0.size : Int) > 70000 then (some true) else ((line_Split.f a0).bind fun bt198 => ((furrowref4_Split.f k a0).bind fun bt204 => ((furrowlaw2_Tells.f bt198.2 bt204.2.1 bt204.2.2).bind fun t212 => (if t212 = true then ((furrowref4_SameLines.f k bt198.1 bt204.1).bind fun t213 => (if t213 = true then (if bt204.2.2 = 0 then ((line_Join.f bt198.1).bind fun t214 => (some (t214.toList == a0.toList))) else (some true)) else (some false))) else (some false)))))) else (some false))) = some true := h
 clear h
 replace H := Option.bind_eq_some_iff.mp H
 obtain ⟨t197, A20, H⟩ := H
 replace H : (if t197 = true then (if (a0.size : Int) > 70000 then (some true) else ((line_Split.f a0).bind fun bt198 => ((furrowref4_Split.f k a0).bind fun bt204 => ((furrowlaw2_Tells.f bt198.2 bt204.2.1 bt204.2.2).bind fun t212 => (if t212 = true then ((furrowref4_SameLines.f k bt198.1 bt204.1).bind fun t213 => (if t213 = true then (if bt204.2.2 = 0 then ((line_Join.f bt198.1).bind fun t214 => (some (t214.toList == a0.toList))) else (some true)) else (some false))) else (some false)))))) else (some false)) = some true := H
 have A2 := mk0 A20
 clear A20
 by_cases c3 : t197 = true
 ·subst c3
  have H1 : (if (a0.size : Int) > 70000 then (some true) else ((line_Split.f a0).bind fun bt198 => ((furrowref4_Split.f k a0).bind fun bt204 => ((furrowlaw2_Tells.f bt198.2 bt204.2.1 bt204.2.2).bind fun t212 => (if t212 = true then ((furrowref4_SameLines.f k bt198.1 bt204.1).bind fun t213 => (if t213 = true then (if bt204.2.2 = 0 then ((line_Join.f bt198.1).bind fun t214 => (some (t214.toList == a0.toList))) else (some true)) else (some false))) else (some false)))))) = some true := by rw [if_pos rfl] at H; first | done | exact H
  clear H
  have H := H1
  clear H1
  by_cases c4 : (a0.size : Int) > 70000
  ·rw [if_pos c4] at H
   have c4b0 : decide (70000 < (a0.size : Int)) = true := decide_eq_true c4
   have c4b1 : decide (70000 < a0.size) = true := decide_eq_true (by omega)
   clear c4
   have HT := mk0 (Option.some.inj H)
   clear H
   go_enter Tryd.func5, Tryd.ntmps5
   go_wp2_with (first | ((with_reducible refine gate_callee (f := 8) rfl ?_); refine goesL_ (some 7) rfl rfl Tryd.func8 (by kernel_rfl) rfl #[] rfl (by (try simp only [List.map_toArray, List.map_cons, List.map_nil]); first | done | rfl | (simp only [List.length_drop, List.length_take]; rfl)) ?_; (with_reducible refine (furrowlaw2_known.calls   _ A2.out).mono ?_); rintro e w5 ⟨rfl, hb⟩; refine ⟨_, rfl, ?_⟩; have n0_ := mk0 (below_step (uL HB.out) hb); clear HB; have HB := n0_; clear n0_; (try clear hb); (try clear hb2); (try clear hk); (try clear hi)))
   go_ret
   exact ⟨by first | rfl | (simp [errW_none, errW_some] <;> rfl) | (exact congrArg (fun b_ => Ending.returned (Value.bool b_)) HT.out) | (rw [show _ = _ from HT.out]) | (simp [HT.out]; done) | (simp [show _ = _ from HT.out]; done) | (simp [*, errW_none, errW_some] <;> rfl), uL HB.out⟩
  ·rw [if_neg c4] at H
   have c4b0 : decide (70000 < (a0.size : Int)) = false := decide_eq_false c4
   have c4b1 : decide (70000 < a0.size) = false := decide_eq_false (by omega)
   clear c4
   replace H := Option.bind_eq_some_iff.mp H
   obtain ⟨⟨t198, t199⟩, A60, H⟩ := H
   replace H : ((furrowref4_Split.f k a0).bind fun bt204 => ((furrowlaw2_Tells.f t199 bt204.2.1 bt204.2.2).bind fun t212 => (if t212 = true then ((furrowref4_SameLines.f k t198 bt204.1).bind fun t213 => (if t213 = true then (if bt204.2.2 = 0 then ((line_Join.f t198).bind fun t214 => (some (t214.toList == a0.toList))) else (some true)) else (some false))) else (some false)))) = some true := H
   have A6 := mk0 A60
   clear A60
   replace H := Option.bind_eq_some_iff.mp H
   obtain ⟨⟨t204, t207, t210⟩, A70, H⟩ := H
   replace H : ((furrowlaw2_Tells.f t199 t207 t210).bind fun t212 => (if t212 = true then ((furrowref4_SameLines.f k t198 t204).bind fun t213 => (if t213 = true then (if t210 = 0 then ((line_Join.f t198).bind fun t214 => (some (t214.toList == a0.toList))) else (some true)) else (some false))) else (some false))) = some true := H
   have A7 := mk0 A70
   clear A70
   replace H := Option.bind_eq_some_iff.mp H
   obtain ⟨t212, A80, H⟩ := H
   replace H : (if t212 = true then ((furrowref4_SameLines.f k t198 t204).bind fun t213 => (if t213 = true then (if t210 = 0 then ((line_Join.f t198).bind fun t214 => (some (t214.toList == a0.toList))) else (some true)) else (some false))) else (some false)) = some true := H
   have A8 := mk0 A80
   clear A80
   by_cases c9 : t212 = true
   ·subst c9
    have H1 : ((furrowref4_SameLines.f k t198 t204).bind fun t213 => (if t213 = true then (if t210 = 0 then ((line_Join.f t198).bind fun t214 => (some (t214.toList == a0.toList))) else (some true)) else (some false))) = some true := by rw [if_pos rfl] at H; first | done | exact H
    clear H
    have H := H1
    clear H1
    replace H := Option.bind_eq_some_iff.mp H
    obtain ⟨t213, A100, H⟩ := H
    replace H : (if t213 = true then (if t210 = 0 then ((line_Join.f t198).bind fun t214 => (some (t214.toList == a0.toList))) else (some true)) else (some false)) = some true := H
    have A10 := mk0 A100
    clear A100
    by_cases c11 : t213 = true
    ·subst c11
     have H1 : (if t210 = 0 then ((line_Join.f t198).bind fun t214 => (some (t214.toList == a0.toList))) else (some true)) = some true := by rw [if_pos rfl] at H; first | done | exact H
     clear H
     have H := H1
     clear H1
     by_cases c12 : t210 = 0
     ·rw [if_pos c12] at H
      have c12b0 : (t210 == 0) = true := beq_iff_eq.mpr c12
      have c12b1 : (t210 != 0) = false := bne_eq_false_iff_eq.mpr c12
      clear c12
      replace H := Option.bind_eq_some_iff.mp H
      obtain ⟨t214, A130, H⟩ := H
      replace H : (some (t214.toList == a0.toList)) = some true := H
      have A13 := mk0 A130
      clear A130
      have HT := mk0 (Option.some.inj H)
      clear H
      go_enter Tryd.func5, Tryd.ntmps5
      go_wp2_with (first | ((with_reducible refine gate_callee (f := 8) rfl ?_); refine goesL_ (some 7) rfl rfl Tryd.func8 (by kernel_rfl) rfl #[] rfl (by (try simp only [List.map_toArray, List.map_cons, List.map_nil]); first | done | rfl | (simp only [List.length_drop, List.length_take]; rfl)) ?_; (with_reducible refine (furrowlaw2_known.calls   _ A2.out).mono ?_); rintro e w14 ⟨rfl, hb⟩; refine ⟨_, rfl, ?_⟩; have n0_ := mk0 (below_step (uL HB.out) hb); clear HB; have HB := n0_; clear n0_; (try clear hb); (try clear hb2); (try clear hk); (try clear hi)) | ((with_reducible refine gate_callee (f := 13) rfl ?_); refine goesL_ (some 14) rfl rfl Tryd.func13 (by kernel_rfl) rfl #[.string a0] rfl (by (try simp only [List.map_toArray, List.map_cons, List.map_nil]); first | done | rfl | (simp only [List.length_drop, List.length_take]; rfl)) ?_; (with_reducible refine (line_Split.calls a0 t198 t199 _ A6.out).mono ?_); rintro e w15 ⟨v200, v202, rfl, ho0, ho1, hb⟩; refine ⟨_, rfl, ?_⟩; have n0_ := mk0 (Kd.R_lower ho0 (below_size (uL HB.out))); have n1_ := mk0 (Kd.R_lower ho1 (below_size (uL HB.out))); have n2_ := mk0 (below_step (uL HB.out) hb); clear HB; have HO201 := n0_; have HO203 := n1_; have HB := n2_; clear n0_ n1_ n2_; (try clear hb); (try clear hb2); (try clear hk); (try clear hi); (try clear ho0); (try clear ho1); (first | (have EHO203 := cmpV_no HO203.out (by with_reducible assumption)) | (have EHO203 := cmpV_yes HO203.out (by with_reducible assumption)) | skip)) | ((with_reducible refine gate_callee (f := 16) rfl ?_); refine goesL_ (some 19) rfl rfl Tryd.func16 (by kernel_rfl) rfl #[.string a0] rfl (by (try simp only [List.map_toArray, List.map_cons, List.map_nil]); first | done | rfl | (simp only [List.length_drop, List.length_take]; rfl)) ?_; (with_reducible refine (furrowref4_Split.calls k a0 t204 t207 t210 _ A7.out).mono ?_); rintro e w16 ⟨v205, v208, rfl, ho0, ho1, hb⟩; refine ⟨_, rfl, ?_⟩; have n0_ := mk0 (Kd.R_elder' (uR HO201.out) (Kd.R_base ho0) hb); have n1_ := mk0 (Kd.R_below (uR HO203.out) hb); have n2_ := mk0 (Kd.R_lower (Kd.R_new' ho0 (Kd.R_lt (uR HO201.out))) (below_size (uL HB.out))); have n3_ := mk0 (Kd.R_lower ho1 (below_size (uL HB.out))); have n4_ := mk0 (below_step (uL HB.out) hb); clear HO201; clear HO203; clear HB; have HO201 := n0_; have HO203 := n1_; have HO206 := n2_; have HO209 := n3_; have HB := n4_; clear n0_ n1_ n2_ n3_ n4_; (try clear hb); (try clear hb2); (try clear hk); (try clear hi); (try clear ho0); (try clear ho1)) | ((with_reducible refine gate_dst (N := 6) rfl ?_); refine box_event ?hg (N := 6) ?hd (cs := #[.slice none 0 0, .int .i64 0]) (t := 36) ?hr ?_; (case hd => rfl); (case hg => rfl); (case hr => first | (go_simp; done) | (go_simp; rfl)); intro gb211 hg w17 hbox hb; have n0_ := mk0 (Kd.R_below (uR HO201.out) hb); have n1_ := mk0 (Kd.R_below (uR HO203.out) hb); have n2_ := mk0 (Kd.R_below (uR HO206.out) hb); have n3_ := mk0 (Kd.R_below (uR HO209.out) hb); have n4_ := mk0 (below_step (uL HB.out) hb); have n5_ := mk0 (hbox); have n6_ := mk0 ((by rw [hg]; exact (below_size (uL HB.out)) : w.heap.size ≤ gb211)); have n7_ := mk0 ((by rw [hg]; exact (below_size (uL HB.out)) : w.heap.size ≤ gb211)); clear HO201; clear HO203; clear HO206; clear HO209; clear HB; have HO201 := n0_; have HO203 := n1_; have HO206 := n2_; have HO209 := n3_; have HB := n4_; have BK211 := n5_; have GW211 := n6_; have GE211 := n7_; clear n0_ n1_ n2_ n3_ n4_ n5_ n6_ n7_; clear hb hbox hg; obtain ⟨Ao18, co18, eo18⟩ := Kd.R_slice HO209.out; subst eo18; have hcz19_0 : w17.cell? ⟨gb211, 0, none⟩ = some (.slice none 0 0) := (blk_cell BK211.out 0).trans rfl; have hcz19_1 : w17.cell? ⟨gb211, 1, none⟩ = some (.int .i64 0) := (blk_cell BK211.out 1).trans rfl; have hfz19_0 := blk_frozen BK211.out 0; have hfz19_1 := blk_frozen BK211.out 1; obtain ⟨Ao20, co20, eo20⟩ := Kd.R_slice HO203.out; subst eo20) | ((with_reducible refine gate_callee (f := 17) rfl ?_); refine goesL_ (some 24) rfl rfl Tryd.func17 (by kernel_rfl) rfl #[errV (.slice Ao20 t199.length co20), .agg #[.slice Ao18 t207.length co18, .int .i64 t210]] rfl (by (try simp only [List.map_toArray, List.map_cons, List.map_nil]); first | done | rfl | (simp only [List.length_drop, List.length_take]; rfl)) ?_; (with_reducible refine (furrowlaw2_Tells.calls _ _ t199 _ _ t207 t210 true _ ?side1 ?side2 ?side3 ?side4 ?side5 A8.out).mono ?_); (case side1 => refine (Kd.R_reads' (e := 52) (base := w.heap.size) (ok := fun k_ => True) (n := t199.length) (c := co20) ?_).2.2; exact (uR (Kd.R_mono (Kd.R_far (p := ⟨gb211, 1, none⟩) (Kd.R_far (p := ⟨gb211, 0, none⟩) (Kd.R_types HO203.out BK211.out (by decide)) (fun _ hk => hk.2) (.slice Ao18 t207.length co18)) (fun _ hk => hk.2) (.int .i64 t210)) (fun _ h_ => h_.1)))); (case side2 => exact (Kd.R_reads' HO203.out).2.1); (case side3 => refine (Kd.R_reads' (e := 63) (base := w.heap.size) (ok := fun k_ => True) (n := t207.length) (c := co18) ?_).2.2; exact (uR (Kd.R_mono (Kd.R_far (p := ⟨gb211, 1, none⟩) (Kd.R_far (p := ⟨gb211, 0, none⟩) (Kd.R_types HO209.out BK211.out (by decide)) (fun _ hk => hk.2) (.slice Ao18 t207.length co18)) (fun _ hk => hk.2) (.int .i64 t210)) (fun _ h_ => h_.1)))); (case side4 => exact (Kd.R_reads' HO209.out).2.1); (case side5 => exact Glob.below HG.out (by repeat (first | (with_reducible first | exact HB.out | apply bA | apply bN | apply bD | refine bS ?_ (by assumption)) | exact HB.out))); rintro e w21 ⟨rfl, hb⟩; refine ⟨_, rfl, ?_⟩; have n0_ := mk0 (Kd.R_below (uR (Kd.R_mono (Kd.R_far (p := ⟨gb211, 1, none⟩) (Kd.R_far (p := ⟨gb211, 0, none⟩) (Kd.R_types HO201.out BK211.out (by decide)) (fun _ hk => hk.2) (.slice Ao18 t207.length co18)) (fun _ hk => hk.2) (.int .i64 t210)) (fun _ h_ => h_.1))) hb); have n1_ := mk0 (Kd.R_below (uR (Kd.R_mono (Kd.R_far (p := ⟨gb211, 1, none⟩) (Kd.R_far (p := ⟨gb211, 0, none⟩) (Kd.R_types HO203.out BK211.out (by decide)) (fun _ hk => hk.2) (.slice Ao18 t207.length co18)) (fun _ hk => hk.2) (.int .i64 t210)) (fun _ h_ => h_.1))) hb); have n2_ := mk0 (Kd.R_below (uR (Kd.R_mono (Kd.R_far (p := ⟨gb211, 1, none⟩) (Kd.R_far (p := ⟨gb211, 0, none⟩) (Kd.R_types HO206.out BK211.out (by decide)) (fun _ hk => hk.2) (.slice Ao18 t207.length co18)) (fun _ hk => hk.2) (.int .i64 t210)) (fun _ h_ => h_.1))) hb); have n3_ := mk0 (Kd.R_below (uR (Kd.R_mono (Kd.R_far (p := ⟨gb211, 1, none⟩) (Kd.R_far (p := ⟨gb211, 0, none⟩) (Kd.R_types HO209.out BK211.out (by decide)) (fun _ hk => hk.2) (.slice Ao18 t207.length co18)) (fun _ hk => hk.2) (.int .i64 t210)) (fun _ h_ => h_.1))) hb); have n4_ := mk0 (blk_below (g := gb211) (o := .cells #[.slice Ao18 t207.length co18, .int .i64 t210] 36 (0, 0)) (by (with_reducible repeat (first | refine blk_drewN ?_ _ | refine blk_drew ?_ | refine blk_alloc ?_ _)); refine blk_put (cs := #[.slice Ao18 t207.length co18, .int .i64 0]) ?_ 1 _ rfl; (with_reducible repeat (first | refine blk_drewN ?_ _ | refine blk_drew ?_ | refine blk_alloc ?_ _)); refine blk_put (cs := #[.slice none 0 0, .int .i64 0]) ?_ 0 _ rfl; (with_reducible repeat (first | refine blk_drewN ?_ _ | refine blk_drew ?_ | refine blk_alloc ?_ _)); exact BK211.out) hb); have n5_ := mk0 (below_step (by repeat (first | (with_reducible first | exact HB.out | apply bA | apply bN | apply bD | refine bS ?_ (by assumption)) | exact HB.out)) hb); clear HO201; clear HO203; clear HO206; clear HO209; clear BK211; clear HB; have HO201 := n0_; have HO203 := n1_; have HO206 := n2_; have HO209 := n3_; have BK211 := n4_; have HB := n5_; clear n0_ n1_ n2_ n3_ n4_ n5_; (try clear hb); (try clear hb2); (try clear hk); (try clear hi); obtain ⟨Ao22, co22, eo22⟩ := Kd.R_slice HO201.out; subst eo22; obtain ⟨Ao23, co23, eo23⟩ := Kd.R_slice HO206.out; subst eo23) | (go_at_call 14; (with_reducible refine (furrowref4_SameLines.calls k _ _ t198 _ _ t204 true _ ?side1 ?side2 ?side3 ?side4 A10.out).mono ?_); (case side1 => repeat (first | exact (Kd.R_reads' HO201.out).2.2 | (with_reducible refine Kd.C_alloc ?_ _) | (with_reducible refine Kd.C_drewN ?_ _) | (with_reducible refine Kd.C_drew ?_))); (case side2 => exact (Kd.R_reads' HO201.out).2.1); (case side3 => repeat (first | exact (Kd.R_reads' HO206.out).2.2 | (with_reducible refine Kd.C_alloc ?_ _) | (with_reducible refine Kd.C_drewN ?_ _) | (with_reducible refine Kd.C_drew ?_))); (case side4 => exact (Kd.R_reads' HO206.out).2.1); rintro e w' ⟨rfl, ⟨nd, rfl⟩⟩; have hcz24_0 : w21.cell? ⟨gb211, 0, none⟩ = some (.slice Ao18 t207.length co18) := (blk_cell BK211.out 0).trans rfl; have hcz24_1 : w21.cell? ⟨gb211, 1, none⟩ = some (.int .i64 t210) := (blk_cell BK211.out 1).trans rfl; have hfz24_0 := blk_frozen BK211.out 0; have hfz24_1 := blk_frozen BK211.out 1) | (go_at_call 15; (with_reducible refine (line_Join.calls _ _ t198 t214 _ ?side1 ?side2 A13.out).mono ?_); (case side1 => repeat (first | exact (Kd.R_reads' HO201.out).2.2 | (with_reducible refine Kd.C_alloc ?_ _) | (with_reducible refine Kd.C_drewN ?_ _) | (with_reducible refine Kd.C_drew ?_))); (case side2 => exact (Kd.R_reads' HO201.out).2.1); rintro e w25 ⟨rfl, hb⟩; have n0_ := mk0 (Kd.R_below (uR HO201.out) hb); have n1_ := mk0 (Kd.R_below (uR HO203.out) hb); have n2_ := mk0 (Kd.R_below (uR HO206.out) hb); have n3_ := mk0 (Kd.R_below (uR HO209.out) hb); have n4_ := mk0 (blk_below (g := gb211) (o := .cells #[.slice Ao18 t207.length co18, .int .i64 t210] 36 (0, 0)) (uB BK211.out) hb); have n5_ := mk0 (below_step (by repeat (first | (with_reducible first | exact HB.out | apply bA | apply bN | apply bD | refine bS ?_ (by assumption)) | exact HB.out)) hb); clear HO201; clear HO203; clear HO206; clear HO209; clear BK211; clear HB; have HO201 := n0_; have HO203 := n1_; have HO206 := n2_; have HO209 := n3_; have BK211 := n4_; have HB := n5_; clear n0_ n1_ n2_ n3_ n4_ n5_; (try clear hb); (try clear hb2); (try clear hk); (try clear hi)))
      go_ret
      exact ⟨by first | rfl | (simp [errW_none, errW_some] <;> rfl) | (exact congrArg (fun b_ => Ending.returned (Value.bool b_)) HT.out) | (rw [show _ = _ from HT.out]) | (simp [HT.out]; done) | (simp [show _ = _ from HT.out]; done) | (simp [*, errW_none, errW_some] <;> rfl), by repeat (first | (with_reducible first | exact HB.out | apply bA | apply bN | apply bD | refine bS ?_ (by assumption)) | exact HB.out)⟩
     ·rw [if_neg c12] at H
      have c12b0 : (t210 == 0) = false := beq_eq_false_iff_ne.mpr c12
      have c12b1 : (t210 != 0) = true := bne_iff_ne.mpr c12
      have HT := mk0 (Option.some.inj H)
      clear H
      go_enter Tryd.func5, Tryd.ntmps5
      go_wp2_with (first | ((with_reducible refine gate_callee (f := 8) rfl ?_); refine goesL_ (some 7) rfl rfl Tryd.func8 (by kernel_rfl) rfl #[] rfl (by (try simp only [List.map_toArray, List.map_cons, List.map_nil]); first | done | rfl | (simp only [List.length_drop, List.length_take]; rfl)) ?_; (with_reducible refine (furrowlaw2_known.calls   _ A2.out).mono ?_); rintro e w26 ⟨rfl, hb⟩; refine ⟨_, rfl, ?_⟩; have n0_ := mk0 (below_step (uL HB.out) hb); clear HB; have HB := n0_; clear n0_; (try clear hb); (try clear hb2); (try clear hk); (try clear hi)) | ((with_reducible refine gate_callee (f := 13) rfl ?_); refine goesL_ (some 14) rfl rfl Tryd.func13 (by kernel_rfl) rfl #[.string a0] rfl (by (try simp only [List.map_toArray, List.map_cons, List.map_nil]); first | done | rfl | (simp only [List.length_drop, List.length_take]; rfl)) ?_; (with_reducible refine (line_Split.calls a0 t198 t199 _ A6.out).mono ?_); rintro e w27 ⟨v200, v202, rfl, ho0, ho1, hb⟩; refine ⟨_, rfl, ?_⟩; have n0_ := mk0 (Kd.R_lower ho0 (below_size (uL HB.out))); have n1_ := mk0 (Kd.R_lower ho1 (below_size (uL HB.out))); have n2_ := mk0 (below_step (uL HB.out) hb); clear HB; have HO201 := n0_; have HO203 := n1_; have HB := n2_; clear n0_ n1_ n2_; (try clear hb); (try clear hb2); (try clear hk); (try clear hi); (try clear ho0); (try clear ho1); (first | (have EHO203 := cmpV_no HO203.out (by with_reducible assumption)) | (have EHO203 := cmpV_yes HO203.out (by with_reducible assumption)) | skip)) | ((with_reducible refine gate_callee (f := 16) rfl ?_); refine goesL_ (some 19) rfl rfl Tryd.func16 (by kernel_rfl) rfl #[.string a0] rfl (by (try simp only [List.map_toArray, List.map_cons, List.map_nil]); first | done | rfl | (simp only [List.length_drop, List.length_take]; rfl)) ?_; (with_reducible refine (furrowref4_Split.calls k a0 t204 t207 t210 _ A7.out).mono ?_); rintro e w28 ⟨v205, v208, rfl, ho0, ho1, hb⟩; refine ⟨_, rfl, ?_⟩; have n0_ := mk0 (Kd.R_elder' (uR HO201.out) (Kd.R_base ho0) hb); have n1_ := mk0 (Kd.R_below (uR HO203.out) hb); have n2_ := mk0 (Kd.R_lower (Kd.R_new' ho0 (Kd.R_lt (uR HO201.out))) (below_size (uL HB.out))); have n3_ := mk0 (Kd.R_lower ho1 (below_size (uL HB.out))); have n4_ := mk0 (below_step (uL HB.out) hb); clear HO201; clear HO203; clear HB; have HO201 := n0_; have HO203 := n1_; have HO206 := n2_; have HO209 := n3_; have HB := n4_; clear n0_ n1_ n2_ n3_ n4_; (try clear hb); (try clear hb2); (try clear hk); (try clear hi); (try clear ho0); (try clear ho1)) | ((with_reducible refine gate_dst (N := 6) rfl ?_); refine box_event ?hg (N := 6) ?hd (cs := #[.slice none 0 0, .int .i64 0]) (t := 36) ?hr ?_; (case hd => rfl); (case hg => rfl); (case hr => first | (go_simp; done) | (go_simp; rfl)); intro gb211 hg w29 hbox hb; have n0_ := mk0 (Kd.R_below (uR HO201.out) hb); have n1_ := mk0 (Kd.R_below (uR HO203.out) hb); have n2_ := mk0 (Kd.R_below (uR HO206.out) hb); have n3_ := mk0 (Kd.R_below (uR HO209.out) hb); have n4_ := mk0 (below_step (uL HB.out) hb); have n5_ := mk0 (hbox); have n6_ := mk0 ((by rw [hg]; exact (below_size (uL HB.out)) : w.heap.size ≤ gb211)); have n7_ := mk0 ((by rw [hg]; exact (below_size (uL HB.out)) : w.heap.size ≤ gb211)); clear HO201; clear HO203; clear HO206; clear HO209; clear HB; have HO201 := n0_; have HO203 := n1_; have HO206 := n2_; have HO209 := n3_; have HB := n4_; have BK211 := n5_; have GW211 := n6_; have GE211 := n7_; clear n0_ n1_ n2_ n3_ n4_ n5_ n6_ n7_; clear hb hbox hg; obtain ⟨Ao30, co30, eo30⟩ := Kd.R_slice HO209.out; subst eo30; have hcz31_0 : w29.cell? ⟨gb211, 0, none⟩ = some (.slice none 0 0) := (blk_cell BK211.out 0).trans rfl; have hcz31_1 : w29.cell? ⟨gb211, 1, none⟩ = some (.int .i64 0) := (blk_cell BK211.out 1).trans rfl; have hfz31_0 := blk_frozen BK211.out 0; have hfz31_1 := blk_frozen BK211.out 1; obtain ⟨Ao32, co32, eo32⟩ := Kd.R_slice HO203.out; subst eo32) | ((with_reducible refine gate_callee (f := 17) rfl ?_); refine goesL_ (some 24) rfl rfl Tryd.func17 (by kernel_rfl) rfl #[errV (.slice Ao32 t199.length co32), .agg #[.slice Ao30 t207.length co30, .int .i64 t210]] rfl (by (try simp only [List.map_toArray, List.map_cons, List.map_nil]); first | done | rfl | (simp only [List.length_drop, List.length_take]; rfl)) ?_; (with_reducible refine (furrowlaw2_Tells.calls _ _ t199 _ _ t207 t210 true _ ?side1 ?side2 ?side3 ?side4 ?side5 A8.out).mono ?_); (case side1 => refine (Kd.R_reads' (e := 52) (base := w.heap.size) (ok := fun k_ => True) (n := t199.length) (c := co32) ?_).2.2; exact (uR (Kd.R_mono (Kd.R_far (p := ⟨gb211, 1, none⟩) (Kd.R_far (p := ⟨gb211, 0, none⟩) (Kd.R_types HO203.out BK211.out (by decide)) (fun _ hk => hk.2) (.slice Ao30 t207.length co30)) (fun _ hk => hk.2) (.int .i64 t210)) (fun _ h_ => h_.1)))); (case side2 => exact (Kd.R_reads' HO203.out).2.1); (case side3 => refine (Kd.R_reads' (e := 63) (base := w.heap.size) (ok := fun k_ => True) (n := t207.length) (c := co30) ?_).2.2; exact (uR (Kd.R_mono (Kd.R_far (p := ⟨gb211, 1, none⟩) (Kd.R_far (p := ⟨gb211, 0, none⟩) (Kd.R_types HO209.out BK211.out (by decide)) (fun _ hk => hk.2) (.slice Ao30 t207.length co30)) (fun _ hk => hk.2) (.int .i64 t210)) (fun _ h_ => h_.1)))); (case side4 => exact (Kd.R_reads' HO209.out).2.1); (case side5 => exact Glob.below HG.out (by repeat (first | (with_reducible first | exact HB.out | apply bA | apply bN | apply bD | refine bS ?_ (by assumption)) | exact HB.out))); rintro e w33 ⟨rfl, hb⟩; refine ⟨_, rfl, ?_⟩; have n0_ := mk0 (Kd.R_below (uR (Kd.R_mono (Kd.R_far (p := ⟨gb211, 1, none⟩) (Kd.R_far (p := ⟨gb211, 0, none⟩) (Kd.R_types HO201.out BK211.out (by decide)) (fun _ hk => hk.2) (.slice Ao30 t207.length co30)) (fun _ hk => hk.2) (.int .i64 t210)) (fun _ h_ => h_.1))) hb); have n1_ := mk0 (Kd.R_below (uR (Kd.R_mono (Kd.R_far (p := ⟨gb211, 1, none⟩) (Kd.R_far (p := ⟨gb211, 0, none⟩) (Kd.R_types HO203.out BK211.out (by decide)) (fun _ hk => hk.2) (.slice Ao30 t207.length co30)) (fun _ hk => hk.2) (.int .i64 t210)) (fun _ h_ => h_.1))) hb); have n2_ := mk0 (Kd.R_below (uR (Kd.R_mono (Kd.R_far (p := ⟨gb211, 1, none⟩) (Kd.R_far (p := ⟨gb211, 0, none⟩) (Kd.R_types HO206.out BK211.out (by decide)) (fun _ hk => hk.2) (.slice Ao30 t207.length co30)) (fun _ hk => hk.2) (.int .i64 t210)) (fun _ h_ => h_.1))) hb); have n3_ := mk0 (Kd.R_below (uR (Kd.R_mono (Kd.R_far (p := ⟨gb211, 1, none⟩) (Kd.R_far (p := ⟨gb211, 0, none⟩) (Kd.R_types HO209.out BK211.out (by decide)) (fun _ hk => hk.2) (.slice Ao30 t207.length co30)) (fun _ hk => hk.2) (.int .i64 t210)) (fun _ h_ => h_.1))) hb); have n4_ := mk0 (blk_below (g := gb211) (o := .cells #[.slice Ao30 t207.length co30, .int .i64 t210] 36 (0, 0)) (by (with_reducible repeat (first | refine blk_drewN ?_ _ | refine blk_drew ?_ | refine blk_alloc ?_ _)); refine blk_put (cs := #[.slice Ao30 t207.length co30, .int .i64 0]) ?_ 1 _ rfl; (with_reducible repeat (first | refine blk_drewN ?_ _ | refine blk_drew ?_ | refine blk_alloc ?_ _)); refine blk_put (cs := #[.slice none 0 0, .int .i64 0]) ?_ 0 _ rfl; (with_reducible repeat (first | refine blk_drewN ?_ _ | refine blk_drew ?_ | refine blk_alloc ?_ _)); exact BK211.out) hb); have n5_ := mk0 (below_step (by repeat (first | (with_reducible first | exact HB.out | apply bA | apply bN | apply bD | refine bS ?_ (by assumption)) | exact HB.out)) hb); clear HO201; clear HO203; clear HO206; clear HO209; clear BK211; clear HB; have HO201 := n0_; have HO203 := n1_; have HO206 := n2_; have HO209 := n3_; have BK211 := n4_; have HB := n5_; clear n0_ n1_ n2_ n3_ n4_ n5_; (try clear hb); (try clear hb2); (try clear hk); (try clear hi); obtain ⟨Ao34, co34, eo34⟩ := Kd.R_slice HO201.out; subst eo34; obtain ⟨Ao35, co35, eo35⟩ := Kd.R_slice HO206.out; subst eo35) | (go_at_call 14; (with_reducible refine (furrowref4_SameLines.calls k _ _ t198 _ _ t204 true _ ?side1 ?side2 ?side3 ?side4 A10.out).mono ?_); (case side1 => repeat (first | exact (Kd.R_reads' HO201.out).2.2 | (with_reducible refine Kd.C_alloc ?_ _) | (with_reducible refine Kd.C_drewN ?_ _) | (with_reducible refine Kd.C_drew ?_))); (case side2 => exact (Kd.R_reads' HO201.out).2.1); (case side3 => repeat (first | exact (Kd.R_reads' HO206.out).2.2 | (with_reducible refine Kd.C_alloc ?_ _) | (with_reducible refine Kd.C_drewN ?_ _) | (with_reducible refine Kd.C_drew ?_))); (case side4 => exact (Kd.R_reads' HO206.out).2.1); rintro e w' ⟨rfl, ⟨nd, rfl⟩⟩; have hcz36_0 : w33.cell? ⟨gb211, 0, none⟩ = some (.slice Ao30 t207.length co30) := (blk_cell BK211.out 0).trans rfl; have hcz36_1 : w33.cell? ⟨gb211, 1, none⟩ = some (.int .i64 t210) := (blk_cell BK211.out 1).trans rfl; have hfz36_0 := blk_frozen BK211.out 0; have hfz36_1 := blk_frozen BK211.out 1))
      go_ret
      exact ⟨by first | rfl | (simp [errW_none, errW_some] <;> rfl) | (exact congrArg (fun b_ => Ending.returned (Value.bool b_)) HT.out) | (rw [show _ = _ from HT.out]) | (simp [HT.out]; done) | (simp [show _ = _ from HT.out]; done) | (simp [*, errW_none, errW_some] <;> rfl), by repeat (first | (with_reducible first | exact HB.out | apply bA | apply bN | apply bD | refine bS ?_ (by assumption)) | exact HB.out)⟩
    ·replace c11 := Bool.eq_false_iff.mpr c11
     subst c11
     have H1 : (some false) = some true := by rw [if_neg (show ¬ (false = true) by decide)] at H; first | done | exact H
     clear H
     have H := H1
     clear H1
     exact absurd H (by simp)
   ·replace c9 := Bool.eq_false_iff.mpr c9
    subst c9
    have H1 : (some false) = some true := by rw [if_neg (show ¬ (false = true) by decide)] at H; first | done | exact H
    clear H
    have H := H1
    clear H1
    exact absurd H (by simp)
 ·replace c3 := Bool.eq_false_iff.mpr c3
  subst c3
  have H1 : (some false) = some true := by rw [if_neg (show ¬ (false = true) by decide)] at H; first | done | exact H
  clear H
  have H := H1
  clear H1
  exact absurd H (by simp)

/-- THE ONE PURE STATEMENT of furrowlaw2_LineSplit: yours. -/
def furrowlaw2_LineSplit.Pure : Prop := ∀ (a0 : ByteArray), a0.size ≤ 140737488351232 → ∃ k, furrowlaw2_LineSplit.f k a0 = some true
theorem furrowlaw2_LineSplit.walk (P : furrowlaw2_LineSplit.Pure) (a0 : ByteArray) (w : World) (w0 : a0.size ≤ 140737488351232) (hG : Glob w) :
  Calls Tryd.prog 5 #[.string a0] w fun e w' => e = .returned (.bool true) ∧ Below w.heap.size w w' := by
 obtain ⟨k, h⟩ := P a0 w0
 refine (furrowlaw2_LineSplit.calls k a0  w hG h).mono ?_
 rintro e w' ⟨rfl, hd⟩
 exact ⟨rfl, hd⟩

end Go.Proofs.YtnecoebdmjkblaaDoor.X
