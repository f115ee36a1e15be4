/- EditMany: walked; no conditions but what is known of the package-level variable that errors.As reads. -/
import Derived.Test.YteeeoblpfepepaaDoorHandB
import Derived.Test.YteeeoblpfepepaaDoorHandN
import Derived.Test.YteeeoblpfepepaaDoorSq
import Derived.Test.YteeeoblpfepepaaDoorXx0
import Derived.Test.YteeeoblpfepepaaDoorXx1
import Derived.Test.YteeeoblpfepepaaDoorXx12
import Derived.Test.YteeeoblpfepepaaDoorXx14
import Derived.Test.YteeeoblpfepepaaDoorXx3
namespace Go.Proofs.YteeeoblpfepepaaDoor.X
open Go.Proofs.YteeeoblpfepepaaDoor.Flt Go.Proofs.YteeeoblpfepepaaDoor.H Go.RowKit Go.Proofs.YteeeoblpfepepaaDoorW.PrintWords Go.Proofs.YteeeoblpfepepaaDoorW.PrintLast Go.Proofs.YteeeoblpfepepaaDoorW.PrintMore
attribute [local go_sem] max2_int min2_int max_two min_two max_three min_three max_four min_four   -- for this text's walks alone
set_option linter.unusedVariables false
set_option linter.unusedSimpArgs false
def furrowlaw3_EditMany.l0 : Nat → List (S38) → List ByteArray → List ByteArray → Int → Option (Bool)
 | 0, _, _, _, _ => none
 | k + 1, x1, x5, x7, x8 => if x8 ≥ 0 then (if 0 ≤ x8 then (if x8 < (x1.length : Int) then ((edit_Apply.f k x7 ([rd_T38 x1 x8] : List S38)).bind fun bt217 => (if (bt217.2.length : Int) = 0 then (furrowlaw3_EditMany.l0 k x1 x5 bt217.1 (wrap64 (x8 - 1))) else (some false))) else (none)) else (none)) else ((furrowref4_SameLines.f k x5 x7).bind fun t223 => (some t223))
def furrowlaw3_EditMany.f (k : Nat) (l0 : List ByteArray) (l1 : List (S38)) : Option (Bool) := (furrowlaw3_known.f k).bind fun t202 => (if t202 = true then ((furrowlaw3_few.f k l0 l1).bind fun t203 => (if t203 = true then ((edit_Apply.f k l0 l1).bind fun bt204 => (if (bt204.2.length : Int) = 0 then (furrowlaw3_EditMany.l0 k l1 bt204.1 l0 (wrap64 ((l1.length : Int) - 1))) else (some true))) else (some true))) else (some false))
theorem furrowlaw3_EditMany.mono_l : ∀ k, (∀ y0 y1 y2 y3, LeO (furrowlaw3_EditMany.l0 k y0 y1 y2 y3) (furrowlaw3_EditMany.l0 (k + 1) y0 y1 y2 y3))
 | 0 => fun _ _ _ _ r h => by simp [furrowlaw3_EditMany.l0] at h
 | k + 1 => by
  have ih0 := furrowlaw3_EditMany.mono_l k
  ·intro y0 y1 y2 y3
   unfold furrowlaw3_EditMany.l0
   repeat' first
   | (with_reducible exact ih0 _ _ _ _)
   | (with_reducible exact edit_Apply.mono _ _ _)
   | (with_reducible exact furrowlaw3_few.mono _ _ _)
   | (with_reducible exact furrowlaw3_known.mono _)
   | (with_reducible exact furrowref4_SameLines.mono _ _ _)
   | (with_reducible exact LeO.refl _)
   | (with_reducible exact LeO.none _)
   | (with_reducible refine LeO.ite ?_ ?_)
   | (with_reducible refine LeO.bind ?_ (fun _ => ?_))
   | exact ih0 _ _ _ _
   | exact edit_Apply.mono _ _ _
   | exact furrowlaw3_few.mono _ _ _
   | exact furrowlaw3_known.mono _
   | exact furrowref4_SameLines.mono _ _ _
   | exact LeO.none _
   | refine LeO.ite ?_ ?_
   | refine LeO.bind ?_ (fun _ => ?_)
theorem furrowlaw3_EditMany.mono : ∀ a0 a1 k, LeO (furrowlaw3_EditMany.f k a0 a1) (furrowlaw3_EditMany.f (k + 1) a0 a1) := by
 intro a0 a1 k
 have ih0 := furrowlaw3_EditMany.mono_l k
 unfold furrowlaw3_EditMany.f
 repeat' first
   | (with_reducible exact ih0 _ _ _ _)
   | (with_reducible exact edit_Apply.mono _ _ _)
   | (with_reducible exact furrowlaw3_few.mono _ _ _)
   | (with_reducible exact furrowlaw3_known.mono _)
   | (with_reducible exact furrowref4_SameLines.mono _ _ _)
   | (with_reducible exact LeO.refl _)
   | (with_reducible exact LeO.none _)
   | (with_reducible refine LeO.ite ?_ ?_)
   | (with_reducible refine LeO.bind ?_ (fun _ => ?_))
   | exact ih0 _ _ _ _
   | exact edit_Apply.mono _ _ _
   | exact furrowlaw3_few.mono _ _ _
   | exact furrowlaw3_known.mono _
   | exact furrowref4_SameLines.mono _ _ _
   | exact LeO.none _
   | refine LeO.ite ?_ ?_
   | refine LeO.bind ?_ (fun _ => ?_)
set_option maxHeartbeats 8000000 in
set_option maxRecDepth 100000 in
theorem furrowlaw3_EditMany.calls (k : Nat) (A0 : Option Addr) (c0 : Nat) (l0 : List ByteArray) (A1 : Option Addr) (c1 : Nat) (l1 : List (S38)) (w : World) (hr0 : Kd.C Kd.string w A0 l0.length l0) (hc0 : l0.length ≤ c0) (hr1 : Kd.C k38 w A1 l1.length l1) (hc1 : l1.length ≤ c1) (hG : Glob w) (h : furrowlaw3_EditMany.f k l0 l1 = some true) :
  Calls Tryd.prog 6 #[.slice A0 l0.length c0, .slice A1 l1.length c1] w fun e w' => e = .returned (.bool true) ∧ Below w.heap.size w w' := by
 have hu38 := Tryd.underlying38
 have HR0 := mk0 hr0
 have HC0 := mk0 hc0
 clear hr0 hc0
 have HR1 := mk0 hr1
 have HC1 := mk0 hc1
 clear hr1 hc1
 have HG := mk0 hG
 clear hG
 have HB := mk0 (Below.refl w.heap.size w)
 have H : ((furrowlaw3_known.f k).bind fun t202 => (if t202 = true then ((furrowlaw3_few.f k l0 l1).bind fun t203 => (if t203 = true then ((edit_Apply.f k l0 l1).bind fun bt204 => (if (bt204.2.length : Int) = 0 then (furrowlaw3_EditMany.l0 k l1 bt204.1 l0 (wrap64 ((l1.length : Int) - 1))) else (some true))) else (some true))) else (some false))) = some true := h
 clear h
 replace H := Option.bind_eq_some_iff.mp H
 obtain ⟨t202, A30, H⟩ := H
 replace H : (if t202 = true then ((furrowlaw3_few.f k l0 l1).bind fun t203 => (if t203 = true then ((edit_Apply.f k l0 l1).bind fun bt204 => (if (bt204.2.length : Int) = 0 then (furrowlaw3_EditMany.l0 k l1 bt204.1 l0 (wrap64 ((l1.length : Int) - 1))) else (some true))) else (some true))) else (some false)) = some true := H
 have A3 := mk0 A30
 clear A30
 by_cases c4 : t202 = true
 ·subst c4
  have H1 : ((furrowlaw3_few.f k l0 l1).bind fun t203 => (if t203 = true then ((edit_Apply.f k l0 l1).bind fun bt204 => (if (bt204.2.length : Int) = 0 then (furrowlaw3_EditMany.l0 k l1 bt204.1 l0 (wrap64 ((l1.length : Int) - 1))) else (some true))) else (some true))) = some true := by rw [if_pos rfl] at H; first | done | exact H
  clear H
  have H := H1
  clear H1
  replace H := Option.bind_eq_some_iff.mp H
  obtain ⟨t203, A50, H⟩ := H
  replace H : (if t203 = true then ((edit_Apply.f k l0 l1).bind fun bt204 => (if (bt204.2.length : Int) = 0 then (furrowlaw3_EditMany.l0 k l1 bt204.1 l0 (wrap64 ((l1.length : Int) - 1))) else (some true))) else (some true)) = some true := H
  have A5 := mk0 A50
  clear A50
  by_cases c6 : t203 = true
  ·subst c6
   have H1 : ((edit_Apply.f k l0 l1).bind fun bt204 => (if (bt204.2.length : Int) = 0 then (furrowlaw3_EditMany.l0 k l1 bt204.1 l0 (wrap64 ((l1.length : Int) - 1))) else (some true))) = some true := by rw [if_pos rfl] at H; first | done | exact H
   clear H
   have H := H1
   clear H1
   replace H := Option.bind_eq_some_iff.mp H
   obtain ⟨⟨t204, t205⟩, A70, H⟩ := H
   replace H : (if (t205.length : Int) = 0 then (furrowlaw3_EditMany.l0 k l1 t204 l0 (wrap64 ((l1.length : Int) - 1))) else (some true)) = some true := H
   have A7 := mk0 A70
   clear A70
   by_cases c8 : (t205.length : Int) = 0
   ·rw [if_pos c8] at H
    have c8b0 : ((t205.length : Int) == 0) = true := beq_iff_eq.mpr c8
    have c8b1 : ((t205.length : Int) != 0) = false := bne_eq_false_iff_eq.mpr c8
    clear c8
    have H' := mk0 H
    clear H
    go_enter Tryd.func6, Tryd.ntmps6
    go_wp2_with (first | ((with_reducible refine gate_callee (f := 10) rfl ?_); refine goesL_ (some 11) rfl rfl Tryd.func10 (by kernel_rfl) rfl #[] rfl (by (try simp only [List.map_toArray, List.map_cons, List.map_nil]); first | done | rfl | (simp only [List.length_drop, List.length_take]; rfl)) ?_; (with_reducible refine (furrowlaw3_known.calls k   _ ?side1 A3.out).mono ?_); (case side1 => exact Glob.below HG.out (uL HB.out)); rintro e w10 ⟨rfl, hb⟩; refine ⟨_, rfl, ?_⟩; have n0_ := mk0 (below_step (uL HB.out) hb); clear HB; have HB := n0_; clear n0_; (try clear hb); (try clear hb2); (try clear hk); (try clear hi)) | ((with_reducible refine gate_callee (f := 11) rfl ?_); refine goesL_ (some 15) rfl rfl Tryd.func11 (by kernel_rfl) rfl #[.slice A0 l0.length c0, .slice A1 l1.length c1] rfl (by (try simp only [List.map_toArray, List.map_cons, List.map_nil]); first | done | rfl | (simp only [List.length_drop, List.length_take]; rfl)) ?_; (with_reducible refine (furrowlaw3_few.calls k _ _ l0 _ _ l1 true _ ?side1 ?side2 ?side3 ?side4 A5.out).mono ?_); (case side1 => repeat (first | exact (Kd.C_below HR0.out HB.out) | (with_reducible refine Kd.C_alloc ?_ _) | (with_reducible refine Kd.C_drewN ?_ _) | (with_reducible refine Kd.C_drew ?_))); (case side2 => exact HC0.out); (case side3 => repeat (first | exact (Kd.C_below HR1.out HB.out) | (with_reducible refine Kd.C_alloc ?_ _) | (with_reducible refine Kd.C_drewN ?_ _) | (with_reducible refine Kd.C_drew ?_))); (case side4 => exact HC1.out); rintro e w' ⟨rfl, ⟨nd, rfl⟩⟩; refine ⟨_, rfl, ?_⟩) | ((with_reducible refine gate_callee (f := 12) rfl ?_); refine goesL_ (some 20) rfl rfl Tryd.func12 (by kernel_rfl) rfl #[.slice A0 l0.length c0, .slice A1 l1.length c1] rfl (by (try simp only [List.map_toArray, List.map_cons, List.map_nil]); first | done | rfl | (simp only [List.length_drop, List.length_take]; rfl)) ?_; (with_reducible refine (edit_Apply.calls k _ _ l0 _ _ l1 t204 t205 _ ?side1 ?side2 ?side3 ?side4 A7.out).mono ?_); (case side1 => repeat (first | exact (Kd.C_below HR0.out (uL HB.out)) | (with_reducible refine Kd.C_alloc ?_ _) | (with_reducible refine Kd.C_drewN ?_ _) | (with_reducible refine Kd.C_drew ?_))); (case side2 => exact HC0.out); (case side3 => repeat (first | exact (Kd.C_below HR1.out (uL HB.out)) | (with_reducible refine Kd.C_alloc ?_ _) | (with_reducible refine Kd.C_drewN ?_ _) | (with_reducible refine Kd.C_drew ?_))); (case side4 => exact HC1.out); rintro e w11 ⟨v206, v208, rfl, ho0, ho1, hb⟩; refine ⟨_, rfl, ?_⟩; have n0_ := mk0 (Kd.R_lower ho0 (below_size (uL HB.out))); have n1_ := mk0 (Kd.R_lower ho1 (below_size (uL HB.out))); have n2_ := mk0 (below_step (uL HB.out) hb); clear HB; have HO207 := n0_; have HO209 := n1_; have HB := n2_; clear n0_ n1_ n2_; (try clear hb); (try clear hb2); (try clear hk); (try clear hi); (try clear ho0); (try clear ho1); (first | (have EHO209 := cmpV_no HO209.out (by with_reducible assumption)) | (have EHO209 := cmpV_yes HO209.out (by with_reducible assumption)) | skip)))
    go_loopg [7, 8] k (fun kq v7 v8 w' => ∃ (x7_1 : List ByteArray) (x8_1 : Int) (A7_ : Option Addr) (c7_ : Nat), v7 = .slice A7_ x7_1.length c7_ ∧ v8 = .int .i64 x8_1 ∧ Aside0 (furrowlaw3_EditMany.l0 kq l1 t204 x7_1 x8_1 = some true) ∧ Aside0 (kq ≤ k) ∧ Aside0 (Kd.R Kd.string 9 w' w.heap.size (fun _ => True) v206 t204) ∧ Aside0 (x7_1.length ≤ c7_) ∧ Aside0 (Kd.C Kd.string w' A7_ x7_1.length x7_1) ∧ Aside0 (Below w.heap.size w w'))
    case atStart => exact ⟨l0, (wrap64 ((l1.length : Int) - 1)), A0, c0, rfl, (by first | rfl | (simp; done) | (simp [*]; done) | (simp [bne_nil_, beq_nil_]; done)), H', ⟨Nat.le_refl _⟩, ⟨uR (Kd.R_mono HO207.out (fun _ _ => trivial))⟩, HC0, ⟨Kd.C_below HR0.out (uL HB.out)⟩, ⟨uL HB.out⟩⟩
    case round =>
     clear H'
     try clear c1
     try clear c2
     try clear p2
     try clear c4
     try clear c6
     try clear p6
     try clear c8
     try clear c8b0
     try clear c8b1
     try clear c10
     try clear c11
     try clear c12
     obtain ⟨x7_1, x8_1, A7_, c7_, rfl, rfl, HA, HK1, HO_5, HC_7, HR_7, HB⟩ := hrel
     cases gk with
     | zero => exact absurd HA.out (by simp [furrowlaw3_EditMany.l0])
     | succ k1 =>
      have H := HA.out
      clear HA
      simp only [furrowlaw3_EditMany.l0] at H
      by_cases c13 : x8_1 ≥ 0
      ·rw [if_pos c13] at H
       have c13b0 : decide (0 ≤ x8_1) = true := decide_eq_true c13
       clear c13
       by_cases c14 : 0 ≤ x8_1
       ·rw [if_pos c14] at H
        have c14b0 : decide (0 ≤ x8_1) = true := decide_eq_true c14
        clear c14
        by_cases c15 : x8_1 < (l1.length : Int)
        ·rw [if_pos c15] at H
         have c15b0 : decide (x8_1 < (l1.length : Int)) = true := decide_eq_true c15
         clear c15
         obtain ⟨y214, hy214⟩ : ∃ y_ : List (S38), y_ = ([rd_T38 l1 x8_1] : List S38) := ⟨_, rfl⟩
         replace H : ((edit_Apply.f k1 x7_1 y214).bind fun bt217 => (if (bt217.2.length : Int) = 0 then (furrowlaw3_EditMany.l0 k1 l1 t204 bt217.1 (wrap64 (x8_1 - 1))) else (some false))) = some true := by first | (rw [hy214]; with_reducible exact H) | (have H2_ := (Option.bind_some _ _).symm.trans H; rw [hy214]; with_reducible exact H2_) | (have H2_ := (Option.bind_some _ _).symm.trans H; with_reducible exact H2_) | with_reducible exact H | (rw [hy214]; exact H) | exact H
         have Ny214 := mk0 hy214
         clear hy214
         replace H := Option.bind_eq_some_iff.mp H
         obtain ⟨⟨t217, t218⟩, A160, H⟩ := H
         replace H : (if (t218.length : Int) = 0 then (furrowlaw3_EditMany.l0 k1 l1 t204 t217 (wrap64 (x8_1 - 1))) else (some false)) = some true := H
         have A16 := mk0 A160
         clear A160
         by_cases c17 : (t218.length : Int) = 0
         ·rw [if_pos c17] at H
          have c17b0 : ((t218.length : Int) == 0) = true := beq_iff_eq.mpr c17
          have c17b1 : ((t218.length : Int) != 0) = false := bne_eq_false_iff_eq.mpr c17
          clear c17
          have H' := mk0 H
          clear H
          have p213 : 0 ≤ (x8_1 : Int) := of_decide_eq_true (by first | (with_reducible assumption) | assumption)
          have q213 : x8_1 < (l1.length : Int) := of_decide_eq_true (by first | (with_reducible assumption) | assumption)
          obtain ⟨ad213, A213_2, c213_2, e213, hx213_0, hx213_1, hx213_2, hl213_2, hi213_2⟩ := at_T38 HR1.out x8_1 p213 q213
          cases e213
          replace hx213_0 := (HB.out.cell (World.block_lt_of_cell? w _ hx213_0)).trans hx213_0
          replace hx213_1 := (HB.out.cell (World.block_lt_of_cell? w _ hx213_1)).trans hx213_1
          replace hx213_2 := (HB.out.cell (World.block_lt_of_cell? w _ hx213_2)).trans hx213_2
          have HR213_2 := mk0 hi213_2
          have HC213_2 := mk0 hl213_2
          clear hi213_2 hl213_2
          replace p213 := eq_true p213
          replace q213 := eq_true q213
          go_wp2_with (first | ((with_reducible refine gate_dst (N := 39) rfl ?_); refine Kd.N_lit k38 _ 38 ?hg (N' := 39) ?hd (xs := ([rd_T38 l1 x8_1] : List S38)) (inner := [.int .i64 (rd_T38 l1 x8_1).f0, .int .i64 (rd_T38 l1 x8_1).f1, .slice A213_2 (rd_T38 l1 x8_1).f2.length c213_2]) (ok := fun _ => True) (okp := fun _ => True) ?hr ?hp (fun _ hk => hk) trivial (Below.refl _ _) (Nat.le_refl _) (by simp) ?_; (case hd => rfl); (case hg => rfl); (case hr => first | (go_simp; done) | (go_simp; rfl)); (case hp => exact (Reps.c3 (show Kd.FK k38 _ _ (rd_T38 l1 x8_1) [.int .i64 (rd_T38 l1 x8_1).f0, .int .i64 (rd_T38 l1 x8_1).f1, .slice A213_2 (rd_T38 l1 x8_1).f2.length c213_2] from (k38_mkF _ _ (rd_T38 l1 x8_1) HC213_2.out (Kd.F_mono (Kd.C_F Kd.heap_string (Kd.C_below HR213_2.out (uL HB.out))) (fun _ _ => trivial)))) (Reps.none _ _))); intro v215 w18 ho19 hb hg_ hnew_; clear hg_ hnew_; (first | rw [← Ny214.out] at ho19 | (simp only [Int.reduceToNat] at ho19; rw [← Ny214.out] at ho19)); have n0_ := mk0 (Kd.R_below (uR HO_5.out) hb); have n1_ := mk0 (Kd.C_below (by repeat (first | (with_reducible exact HR_7.out) | (with_reducible refine Kd.C_alloc ?_ _) | (with_reducible refine Kd.C_drewN ?_ _) | (with_reducible refine Kd.C_drew ?_) | exact HR_7.out)) hb); have n2_ := mk0 (Kd.N_lower ho19 (below_size (uL HB.out))); have n3_ := mk0 (below_step (uL HB.out) hb); clear HO_5; clear HR_7; clear HB; have HO_5 := n0_; have HR_7 := n1_; have HO216 := n2_; have HB := n3_; clear n0_ n1_ n2_ n3_; clear hb ho19; obtain ⟨Ao21, co21, eo21⟩ := Kd.N_slice HO216.out; subst eo21) | ((with_reducible refine gate_callee (f := 12) rfl ?_); refine goesL_ (some 40) rfl rfl Tryd.func12 (by kernel_rfl) rfl #[.slice A7_ x7_1.length c7_, .slice Ao21 y214.length co21] rfl (by (try simp only [List.map_toArray, List.map_cons, List.map_nil]); first | done | rfl | (simp only [List.length_drop, List.length_take]; rfl)) ?_; (with_reducible refine (edit_Apply.calls k1 _ _ x7_1 _ _ y214 t217 t218 _ ?side1 ?side2 ?side3 ?side4 A16.out).mono ?_); (case side1 => repeat (first | exact HR_7.out | (with_reducible refine Kd.C_alloc ?_ _) | (with_reducible refine Kd.C_drewN ?_ _) | (with_reducible refine Kd.C_drew ?_))); (case side2 => exact HC_7.out); (case side3 => repeat (first | exact (Kd.N_reads' HO216.out).2.2 | (with_reducible refine Kd.C_alloc ?_ _) | (with_reducible refine Kd.C_drewN ?_ _) | (with_reducible refine Kd.C_drew ?_))); (case side4 => exact (Kd.N_reads' HO216.out).2.1); rintro e w22 ⟨v219, v221, rfl, ho0, ho1, hb⟩; refine ⟨_, rfl, ?_⟩; have n0_ := mk0 (Kd.R_elder' (uR HO_5.out) (Kd.R_base ho0) hb); have n1_ := mk0 (Kd.C_below (by repeat (first | (with_reducible exact HR_7.out) | (with_reducible refine Kd.C_alloc ?_ _) | (with_reducible refine Kd.C_drewN ?_ _) | (with_reducible refine Kd.C_drew ?_) | exact HR_7.out)) hb); have n2_ := mk0 (Kd.N_elder' (uN HO216.out) (Kd.R_base ho0) hb); have n3_ := mk0 (Kd.R_lower (Kd.R_new' ho0 (Kd.R_lt (uR HO_5.out))) (below_size (uL HB.out))); have n4_ := mk0 (Kd.R_lower ho1 (below_size (uL HB.out))); have n5_ := mk0 (below_step (uL HB.out) hb); clear HO_5; clear HR_7; clear HO216; clear HB; have HO_5 := n0_; have HR_7 := n1_; have HO216 := n2_; have HO220 := n3_; have HO222 := n4_; have HB := n5_; clear n0_ n1_ n2_ n3_ n4_ n5_; (try clear hb); (try clear hb2); (try clear hk); (try clear hi); (try clear ho0); (try clear ho1); (first | (have EHO222 := cmpV_no HO222.out (by with_reducible assumption)) | (have EHO222 := cmpV_yes HO222.out (by with_reducible assumption)) | skip)))
          obtain ⟨Ar_, cr_, er_⟩ := Kd.R_slice HO220.out
          subst er_
          go_roundg k1
          case measure => have := HK1.out; omega
          case rel => exact ⟨t217, (wrap64 (x8_1 - 1)), Ar_, cr_, rfl, (by first | rfl | (simp; done) | (simp [*]; done) | (simp [bne_nil_, beq_nil_]; done)), H', ⟨by have := HK1.out; omega⟩, ⟨uR (Kd.R_mono HO_5.out (fun _ _ => trivial))⟩, ⟨(Kd.R_reads' HO220.out).2.1⟩, ⟨by repeat (first | (with_reducible exact (Kd.R_reads' HO220.out).2.2) | (with_reducible refine Kd.C_alloc ?_ _) | (with_reducible refine Kd.C_drewN ?_ _) | (with_reducible refine Kd.C_drew ?_) | exact (Kd.R_reads' HO220.out).2.2)⟩, ⟨uL HB.out⟩⟩
         ·rw [if_neg c17] at H
          have c17b0 : ((t218.length : Int) == 0) = false := beq_eq_false_iff_ne.mpr c17
          have c17b1 : ((t218.length : Int) != 0) = true := bne_iff_ne.mpr c17
          have c17b2 : ¬ (t218 = []) := fun h_ => c17 (by rw [h_]; rfl)
          exact absurd H (by simp)
        ·rw [if_neg c15] at H
         exact absurd H (by simp)
       ·rw [if_neg c14] at H
        exact absurd H (by simp)
      ·rw [if_neg c13] at H
       have c13b0 : decide (0 ≤ x8_1) = false := decide_eq_false c13
       clear c13
       replace H := Option.bind_eq_some_iff.mp H
       obtain ⟨t223, A230, H⟩ := H
       replace H : (some t223) = some true := H
       have A23 := mk0 A230
       clear A230
       have HT := mk0 (Option.some.inj H)
       clear H
       obtain ⟨Ao24, co24, eo24⟩ := Kd.R_slice HO_5.out
       subst eo24
       go_wp2_with (first | ((with_reducible refine gate_callee (f := 14) rfl ?_); refine goesL_ (some 48) rfl rfl Tryd.func14 (by kernel_rfl) rfl #[.slice Ao24 t204.length co24, .slice A7_ x7_1.length c7_] rfl (by (try simp only [List.map_toArray, List.map_cons, List.map_nil]); first | done | rfl | (simp only [List.length_drop, List.length_take]; rfl)) ?_; (with_reducible refine (furrowref4_SameLines.calls k1 _ _ t204 _ _ x7_1 t223 _ ?side1 ?side2 ?side3 ?side4 A23.out).mono ?_); (case side1 => repeat (first | exact (Kd.R_reads' HO_5.out).2.2 | (with_reducible refine Kd.C_alloc ?_ _) | (with_reducible refine Kd.C_drewN ?_ _) | (with_reducible refine Kd.C_drew ?_))); (case side2 => exact (Kd.R_reads' HO_5.out).2.1); (case side3 => repeat (first | exact HR_7.out | (with_reducible refine Kd.C_alloc ?_ _) | (with_reducible refine Kd.C_drewN ?_ _) | (with_reducible refine Kd.C_drew ?_))); (case side4 => exact HC_7.out); rintro e w' ⟨rfl, ⟨nd, rfl⟩⟩; refine ⟨_, rfl, ?_⟩))
       go_ret
       exact ⟨by first | rfl | (simp [errW_none, errW_some] <;> rfl) | (exact congrArg (fun b_ => Ending.returned (Value.bool b_)) HT.out) | (rw [show _ = _ from HT.out]) | (simp [HT.out]; done) | (simp [show _ = _ from HT.out]; done) | (simp [*, errW_none, errW_some] <;> rfl), uL HB.out⟩
   ·rw [if_neg c8] at H
    have c8b0 : ((t205.length : Int) == 0) = false := beq_eq_false_iff_ne.mpr c8
    have c8b1 : ((t205.length : Int) != 0) = true := bne_iff_ne.mpr c8
    have c8b2 : ¬ (t205 = []) := fun h_ => c8 (by rw [h_]; rfl)
    have HT := mk0 (Option.some.inj H)
    clear H
    go_enter Tryd.func6, Tryd.ntmps6
    go_wp2_with (first | ((with_reducible refine gate_callee (f := 10) rfl ?_); refine goesL_ (some 11) rfl rfl Tryd.func10 (by kernel_rfl) rfl #[] rfl (by (try simp only [List.map_toArray, List.map_cons, List.map_nil]); first | done | rfl | (simp only [List.length_drop, List.length_take]; rfl)) ?_; (with_reducible refine (furrowlaw3_known.calls k   _ ?side1 A3.out).mono ?_); (case side1 => exact Glob.below HG.out (uL HB.out)); rintro e w26 ⟨rfl, hb⟩; refine ⟨_, rfl, ?_⟩; have n0_ := mk0 (below_step (uL HB.out) hb); clear HB; have HB := n0_; clear n0_; (try clear hb); (try clear hb2); (try clear hk); (try clear hi)) | ((with_reducible refine gate_callee (f := 11) rfl ?_); refine goesL_ (some 15) rfl rfl Tryd.func11 (by kernel_rfl) rfl #[.slice A0 l0.length c0, .slice A1 l1.length c1] rfl (by (try simp only [List.map_toArray, List.map_cons, List.map_nil]); first | done | rfl | (simp only [List.length_drop, List.length_take]; rfl)) ?_; (with_reducible refine (furrowlaw3_few.calls k _ _ l0 _ _ l1 true _ ?side1 ?side2 ?side3 ?side4 A5.out).mono ?_); (case side1 => repeat (first | exact (Kd.C_below HR0.out HB.out) | (with_reducible refine Kd.C_alloc ?_ _) | (with_reducible refine Kd.C_drewN ?_ _) | (with_reducible refine Kd.C_drew ?_))); (case side2 => exact HC0.out); (case side3 => repeat (first | exact (Kd.C_below HR1.out HB.out) | (with_reducible refine Kd.C_alloc ?_ _) | (with_reducible refine Kd.C_drewN ?_ _) | (with_reducible refine Kd.C_drew ?_))); (case side4 => exact HC1.out); rintro e w' ⟨rfl, ⟨nd, rfl⟩⟩; refine ⟨_, rfl, ?_⟩) | ((with_reducible refine gate_callee (f := 12) rfl ?_); refine goesL_ (some 20) rfl rfl Tryd.func12 (by kernel_rfl) rfl #[.slice A0 l0.length c0, .slice A1 l1.length c1] rfl (by (try simp only [List.map_toArray, List.map_cons, List.map_nil]); first | done | rfl | (simp only [List.length_drop, List.length_take]; rfl)) ?_; (with_reducible refine (edit_Apply.calls k _ _ l0 _ _ l1 t204 t205 _ ?side1 ?side2 ?side3 ?side4 A7.out).mono ?_); (case side1 => repeat (first | exact (Kd.C_below HR0.out (uL HB.out)) | (with_reducible refine Kd.C_alloc ?_ _) | (with_reducible refine Kd.C_drewN ?_ _) | (with_reducible refine Kd.C_drew ?_))); (case side2 => exact HC0.out); (case side3 => repeat (first | exact (Kd.C_below HR1.out (uL HB.out)) | (with_reducible refine Kd.C_alloc ?_ _) | (with_reducible refine Kd.C_drewN ?_ _) | (with_reducible refine Kd.C_drew ?_))); (case side4 => exact HC1.out); rintro e w27 ⟨v206, v208, rfl, ho0, ho1, hb⟩; refine ⟨_, rfl, ?_⟩; have n0_ := mk0 (Kd.R_lower ho0 (below_size (uL HB.out))); have n1_ := mk0 (Kd.R_lower ho1 (below_size (uL HB.out))); have n2_ := mk0 (below_step (uL HB.out) hb); clear HB; have HO207 := n0_; have HO209 := n1_; have HB := n2_; clear n0_ n1_ n2_; (try clear hb); (try clear hb2); (try clear hk); (try clear hi); (try clear ho0); (try clear ho1); (first | (have EHO209 := cmpV_no HO209.out (by with_reducible assumption)) | (have EHO209 := cmpV_yes HO209.out (by with_reducible assumption)) | skip)))
    go_ret
    exact ⟨by first | rfl | (simp [errW_none, errW_some] <;> rfl) | (exact congrArg (fun b_ => Ending.returned (Value.bool b_)) HT.out) | (rw [show _ = _ from HT.out]) | (simp [HT.out]; done) | (simp [show _ = _ from HT.out]; done) | (simp [*, errW_none, errW_some] <;> rfl), uL HB.out⟩
  ·replace c6 := Bool.eq_false_iff.mpr c6
   subst c6
   have H1 : (some true) = some true := by rw [if_neg (show ¬ (false = true) by decide)] at H; first | done | exact H
   clear H
   have H := H1
   clear H1
   have HT := mk0 (Option.some.inj H)
   clear H
   go_enter Tryd.func6, Tryd.ntmps6
   go_wp2_with (first | ((with_reducible refine gate_callee (f := 10) rfl ?_); refine goesL_ (some 11) rfl rfl Tryd.func10 (by kernel_rfl) rfl #[] rfl (by (try simp only [List.map_toArray, List.map_cons, List.map_nil]); first | done | rfl | (simp only [List.length_drop, List.length_take]; rfl)) ?_; (with_reducible refine (furrowlaw3_known.calls k   _ ?side1 A3.out).mono ?_); (case side1 => exact Glob.below HG.out (uL HB.out)); rintro e w28 ⟨rfl, hb⟩; refine ⟨_, rfl, ?_⟩; have n0_ := mk0 (below_step (uL HB.out) hb); clear HB; have HB := n0_; clear n0_; (try clear hb); (try clear hb2); (try clear hk); (try clear hi)) | ((with_reducible refine gate_callee (f := 11) rfl ?_); refine goesL_ (some 15) rfl rfl Tryd.func11 (by kernel_rfl) rfl #[.slice A0 l0.length c0, .slice A1 l1.length c1] rfl (by (try simp only [List.map_toArray, List.map_cons, List.map_nil]); first | done | rfl | (simp only [List.length_drop, List.length_take]; rfl)) ?_; (with_reducible refine (furrowlaw3_few.calls k _ _ l0 _ _ l1 false _ ?side1 ?side2 ?side3 ?side4 A5.out).mono ?_); (case side1 => repeat (first | exact (Kd.C_below HR0.out HB.out) | (with_reducible refine Kd.C_alloc ?_ _) | (with_reducible refine Kd.C_drewN ?_ _) | (with_reducible refine Kd.C_drew ?_))); (case side2 => exact HC0.out); (case side3 => repeat (first | exact (Kd.C_below HR1.out HB.out) | (with_reducible refine Kd.C_alloc ?_ _) | (with_reducible refine Kd.C_drewN ?_ _) | (with_reducible refine Kd.C_drew ?_))); (case side4 => exact HC1.out); rintro e w' ⟨rfl, ⟨nd, rfl⟩⟩; refine ⟨_, rfl, ?_⟩))
   go_ret
   exact ⟨by first | rfl | (simp [errW_none, errW_some] <;> rfl) | (exact congrArg (fun b_ => Ending.returned (Value.bool b_)) HT.out) | (rw [show _ = _ from HT.out]) | (simp [HT.out]; done) | (simp [show _ = _ from HT.out]; done) | (simp [*, errW_none, errW_some] <;> rfl), uL HB.out⟩
 ·replace c4 := Bool.eq_false_iff.mpr c4
  subst c4
  have H1 : (some false) = some true := by rw [if_neg (show ¬ (false = true) by decide)] at H; first | done | exact H
  clear H
  have H := H1
  clear H1
  exact absurd H (by simp)

end Go.Proofs.YteeeoblpfepepaaDoor.X
