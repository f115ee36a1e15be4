-- PRINTED by print.py (a twelfth state) out of the translation. Not trusted: Lean checks it.
import Derived.Test.YtnecoebdmjkblaaDoorXx0
import Derived.Test.YtnecoebdmjkblaaDoorXx1
import Derived.Test.YtnecoebdmjkblaaDoorXx2
import Derived.Test.YtnecoebdmjkblaaDoorXx4
import Derived.Test.YtnecoebdmjkblaaDoorHandU
import Derived.Test.YtnecoebdmjkblaaDoorHandX
namespace Go.Proofs.YtnecoebdmjkblaaDoor.X
open Go.Proofs.YtnecoebdmjkblaaDoor.Flt Go.Proofs.YtnecoebdmjkblaaDoor.H Go.RowKit Go.Proofs.YtnecoebdmjkblaaDoorW.PrintWords Go.Proofs.YtnecoebdmjkblaaDoorW.PrintLast Go.Proofs.YtnecoebdmjkblaaDoorW.PrintMore
attribute [local go_sem] max2_int min2_int max_two min_two max_three min_three max_four min_four   -- for this text's walks alone
set_option linter.unusedVariables false
set_option linter.unusedSimpArgs false

/-! ### furrowlaw2_known: function 8 -/
def furrowlaw2_known.f  : Option (Bool) := (line_Part.f (⟨#[32, 32, 120, 32, 61, 32, 49, 32, 33, 32, 111, 110, 101, 32, 33, 32, 116, 119, 111, 10]⟩ : ByteArray)).bind fun bt106 => ((line_Split.f (⟨#[97, 10, 10, 98]⟩ : ByteArray)).bind fun bt109 => (if bt106.1.toList = ([32, 32, 120, 32, 61, 32, 49, 32] : List UInt8) then (if bt106.2.1.toList = ([33, 32, 111, 110, 101, 32, 33, 32, 116, 119, 111] : List UInt8) then (if bt106.2.2.toList = ([10] : List UInt8) then (if (bt109.2.length : Int) = 0 then (if (bt109.1.length : Int) = 3 then (if 1 < (bt109.1.length : Int) then (if (rdOf ByteArray.empty bt109.1 1).toList = ([10] : List UInt8) then (if 2 < (bt109.1.length : Int) then (if (rdOf ByteArray.empty bt109.1 2).toList = ([98] : List UInt8) then ((line_Join.f bt109.1).bind fun t117 => (if t117.toList = ([97, 10, 10, 98] : List UInt8) then ((line_Indent.f (⟨#[32, 9, 120]⟩ : ByteArray)).bind fun t118 => (some (t118.toList == ([32, 9] : List UInt8)))) else (some false))) else (some false)) else (none)) else (some false)) else (none)) else (some false)) else (some false)) else (some false)) else (some false)) else (some false)))
set_option maxHeartbeats 8000000 in
set_option maxRecDepth 100000 in
theorem furrowlaw2_known.calls  (w : World) (h : furrowlaw2_known.f  = some true) :
  Calls Tryd.prog 8 #[] w fun e w' => e = .returned (.bool true) ∧ Below w.heap.size w w' := by
 have HB := mk0 (Below.refl w.heap.size w)
 have H : ((line_Part.f (⟨#[32, 32, 120, 32, 61, 32, 49, 32, 33, 32, 111, 110, 101, 32, 33, 32, 116, 119, 111, 10]⟩ : ByteArray)).bind fun bt106 => ((line_Split.f (⟨#[97, 10, 10, 98]⟩ : ByteArray)).bind fun bt109 => (if bt106.1.toList = ([32, 32, 120, 32, 61, 32, 49, 32] : List UInt8) then (if bt106.2.1.toList = ([33, 32, 111, 110, 101, 32, 33, 32, 116, 119, 111] : List UInt8) then (if bt106.2.2.toList = ([10] : List UInt8) then (if (bt109.2.length : Int) = 0 then (if (bt109.1.length : Int) = 3 then (if 1 < (bt109.1.length : Int) then (if (rdOf ByteArray.empty bt109.1 1).toList = ([10] : List UInt8) then (if 2 < (bt109.1.length : Int) then (if (rdOf ByteArray.empty bt109.1 2).toList = ([98] : List UInt8) then ((line_Join.f bt109.1).bind fun t117 => (if t117.toList = ([97, 10, 10, 98] : List UInt8) then ((line_Indent.f (⟨#[32, 9, 120]⟩ : ByteArray)).bind fun t118 => (some (t118.toList == ([32, 9] : List UInt8)))) else (some false))) else (some false)) else (none)) else (some false)) else (none)) else (some false)) else (some false)) else (some false)) else (some false)) else (some false)))) = some true := h
 clear h
 replace H := Option.bind_eq_some_iff.mp H
 obtain ⟨⟨t106, t107, t108⟩, A10, H⟩ := H
 replace H : ((line_Split.f (⟨#[97, 10, 10, 98]⟩ : ByteArray)).bind fun bt109 => (if t106.toList = ([32, 32, 120, 32, 61, 32, 49, 32] : List UInt8) then (if t107.toList = ([33, 32, 111, 110, 101, 32, 33, 32, 116, 119, 111] : List UInt8) then (if t108.toList = ([10] : List UInt8) then (if (bt109.2.length : Int) = 0 then (if (bt109.1.length : Int) = 3 then (if 1 < (bt109.1.length : Int) then (if (rdOf ByteArray.empty bt109.1 1).toList = ([10] : List UInt8) then (if 2 < (bt109.1.length : Int) then (if (rdOf ByteArray.empty bt109.1 2).toList = ([98] : List UInt8) then ((line_Join.f bt109.1).bind fun t117 => (if t117.toList = ([97, 10, 10, 98] : List UInt8) then ((line_Indent.f (⟨#[32, 9, 120]⟩ : ByteArray)).bind fun t118 => (some (t118.toList == ([32, 9] : List UInt8)))) else (some false))) else (some false)) else (none)) else (some false)) else (none)) else (some false)) else (some false)) else (some false)) else (some false)) else (some false))) = some true := H
 have A1 := mk0 A10
 clear A10
 replace H := Option.bind_eq_some_iff.mp H
 obtain ⟨⟨t109, t110⟩, A20, H⟩ := H
 replace H : (if t106.toList = ([32, 32, 120, 32, 61, 32, 49, 32] : List UInt8) then (if t107.toList = ([33, 32, 111, 110, 101, 32, 33, 32, 116, 119, 111] : List UInt8) then (if t108.toList = ([10] : List UInt8) then (if (t110.length : Int) = 0 then (if (t109.length : Int) = 3 then (if 1 < (t109.length : Int) then (if (rdOf ByteArray.empty t109 1).toList = ([10] : List UInt8) then (if 2 < (t109.length : Int) then (if (rdOf ByteArray.empty t109 2).toList = ([98] : List UInt8) then ((line_Join.f t109).bind fun t117 => (if t117.toList = ([97, 10, 10, 98] : List UInt8) then ((line_Indent.f (⟨#[32, 9, 120]⟩ : ByteArray)).bind fun t118 => (some (t118.toList == ([32, 9] : List UInt8)))) else (some false))) else (some false)) else (none)) else (some false)) else (none)) else (some false)) else (some false)) else (some false)) else (some false)) else (some false)) = some true := H
 have A2 := mk0 A20
 clear A20
 by_cases c3 : t106.toList = ([32, 32, 120, 32, 61, 32, 49, 32] : List UInt8)
 ·rw [if_pos c3] at H
  have c3b0 : (t106.toList == ([32, 32, 120, 32, 61, 32, 49, 32] : List UInt8)) = true := beq_iff_eq.mpr c3
  have c3b1 : (t106.toList != ([32, 32, 120, 32, 61, 32, 49, 32] : List UInt8)) = false := bne_eq_false_iff_eq.mpr c3
  clear c3
  by_cases c4 : t107.toList = ([33, 32, 111, 110, 101, 32, 33, 32, 116, 119, 111] : List UInt8)
  ·rw [if_pos c4] at H
   have c4b0 : (t107.toList == ([33, 32, 111, 110, 101, 32, 33, 32, 116, 119, 111] : List UInt8)) = true := beq_iff_eq.mpr c4
   have c4b1 : (t107.toList != ([33, 32, 111, 110, 101, 32, 33, 32, 116, 119, 111] : List UInt8)) = false := bne_eq_false_iff_eq.mpr c4
   clear c4
   by_cases c5 : t108.toList = ([10] : List UInt8)
   ·rw [if_pos c5] at H
    have c5b0 : (t108.toList == ([10] : List UInt8)) = true := beq_iff_eq.mpr c5
    have c5b1 : (t108.toList != ([10] : List UInt8)) = false := bne_eq_false_iff_eq.mpr c5
    clear c5
    by_cases c6 : (t110.length : Int) = 0
    ·rw [if_pos c6] at H
     have c6b0 : ((t110.length : Int) == 0) = true := beq_iff_eq.mpr c6
     have c6b1 : ((t110.length : Int) != 0) = false := bne_eq_false_iff_eq.mpr c6
     clear c6
     by_cases c7 : (t109.length : Int) = 3
     ·rw [if_pos c7] at H
      have c7b0 : ((t109.length : Int) == 3) = true := beq_iff_eq.mpr c7
      have c7b1 : ((t109.length : Int) != 3) = false := bne_eq_false_iff_eq.mpr c7
      clear c7
      by_cases c8 : 1 < (t109.length : Int)
      ·rw [if_pos c8] at H
       have c8b0 : decide (1 < (t109.length : Int)) = true := decide_eq_true c8
       have c8b1 : decide (1 < t109.length) = true := decide_eq_true (by omega)
       clear c8
       by_cases c9 : (rdOf ByteArray.empty t109 1).toList = ([10] : List UInt8)
       ·rw [if_pos c9] at H
        have c9b0 : ((rdOf ByteArray.empty t109 1).toList == ([10] : List UInt8)) = true := beq_iff_eq.mpr c9
        have c9b1 : ((rdOf ByteArray.empty t109 1).toList != ([10] : List UInt8)) = false := bne_eq_false_iff_eq.mpr c9
        clear c9
        by_cases c10 : 2 < (t109.length : Int)
        ·rw [if_pos c10] at H
         have c10b0 : decide (2 < (t109.length : Int)) = true := decide_eq_true c10
         have c10b1 : decide (2 < t109.length) = true := decide_eq_true (by omega)
         clear c10
         by_cases c11 : (rdOf ByteArray.empty t109 2).toList = ([98] : List UInt8)
         ·rw [if_pos c11] at H
          have c11b0 : ((rdOf ByteArray.empty t109 2).toList == ([98] : List UInt8)) = true := beq_iff_eq.mpr c11
          have c11b1 : ((rdOf ByteArray.empty t109 2).toList != ([98] : List UInt8)) = false := bne_eq_false_iff_eq.mpr c11
          clear c11
          replace H := Option.bind_eq_some_iff.mp H
          obtain ⟨t117, A120, H⟩ := H
          replace H : (if t117.toList = ([97, 10, 10, 98] : List UInt8) then ((line_Indent.f (⟨#[32, 9, 120]⟩ : ByteArray)).bind fun t118 => (some (t118.toList == ([32, 9] : List UInt8)))) else (some false)) = some true := H
          have A12 := mk0 A120
          clear A120
          by_cases c13 : t117.toList = ([97, 10, 10, 98] : List UInt8)
          ·rw [if_pos c13] at H
           have c13b0 : (t117.toList == ([97, 10, 10, 98] : List UInt8)) = true := beq_iff_eq.mpr c13
           have c13b1 : (t117.toList != ([97, 10, 10, 98] : List UInt8)) = false := bne_eq_false_iff_eq.mpr c13
           clear c13
           replace H := Option.bind_eq_some_iff.mp H
           obtain ⟨t118, A140, H⟩ := H
           replace H : (some (t118.toList == ([32, 9] : List UInt8))) = some true := H
           have A14 := mk0 A140
           clear A140
           have HT := mk0 (Option.some.inj H)
           clear H
           go_enter Tryd.func8, Tryd.ntmps8
           go_wp2_with (first | ((with_reducible refine gate_callee (f := 9) rfl ?_); refine goesL_ (some 7) rfl rfl Tryd.func9 (by kernel_rfl) rfl #[.string (⟨#[32, 32, 120, 32, 61, 32, 49, 32, 33, 32, 111, 110, 101, 32, 33, 32, 116, 119, 111, 10]⟩ : ByteArray)] rfl (by (try simp only [List.map_toArray, List.map_cons, List.map_nil]); first | done | rfl | (simp only [List.length_drop, List.length_take]; rfl)) ?_; (with_reducible refine (line_Part.calls (⟨#[32, 32, 120, 32, 61, 32, 49, 32, 33, 32, 111, 110, 101, 32, 33, 32, 116, 119, 111, 10]⟩ : ByteArray) t106 t107 t108 _ A1.out).mono ?_); rintro e w15 ⟨rfl, hb⟩; refine ⟨_, rfl, ?_⟩; have n0_ := mk0 (below_step (uL HB.out) hb); clear HB; have HB := n0_; clear n0_; (try clear hb); (try clear hb2); (try clear hk); (try clear hi)) | ((with_reducible refine gate_callee (f := 13) rfl ?_); refine goesL_ (some 12) rfl rfl Tryd.func13 (by kernel_rfl) rfl #[.string (⟨#[97, 10, 10, 98]⟩ : ByteArray)] rfl (by (try simp only [List.map_toArray, List.map_cons, List.map_nil]); first | done | rfl | (simp only [List.length_drop, List.length_take]; rfl)) ?_; (with_reducible refine (line_Split.calls (⟨#[97, 10, 10, 98]⟩ : ByteArray) t109 t110 _ A2.out).mono ?_); rintro e w16 ⟨v111, v113, rfl, ho0, ho1, hb⟩; refine ⟨_, rfl, ?_⟩; have n0_ := mk0 (Kd.R_lower ho0 (below_size (uL HB.out))); have n1_ := mk0 (Kd.R_lower ho1 (below_size (uL HB.out))); have n2_ := mk0 (below_step (uL HB.out) hb); clear HB; have HO112 := n0_; have HO114 := n1_; have HB := n2_; clear n0_ n1_ n2_; (try clear hb); (try clear hb2); (try clear hk); (try clear hi); (try clear ho0); (try clear ho1); (first | (have EHO114 := cmpV_no HO114.out (by with_reducible assumption)) | (have EHO114 := cmpV_yes HO114.out (by with_reducible assumption)) | skip); obtain ⟨Ao17, co17, eo17⟩ := Kd.R_slice HO112.out; subst eo17; have p115 : 0 ≤ (1 : Int) := (by omega); have q115 : 1 < (t109.length : Int) := of_decide_eq_true (by first | (with_reducible assumption) | assumption); obtain ⟨ad115, e115, hx115_0⟩ := Kd.at_string (Kd.R_reads' HO112.out).2.2 1 p115 q115; cases e115; (try simp only [show (1 : Int).toNat = 1 from rfl, Nat.reduceMul, Nat.reduceEqDiff, Go.Addr.add, ↓reduceIte] at hx115_0); have qi115 : (1 < t109.length) = True := eq_true (by omega); (try rw [show ((1 : Int)).toNat = 1 from rfl] at hx115_0); replace p115 := eq_true p115; replace q115 := eq_true q115; have p116 : 0 ≤ (2 : Int) := (by omega); have q116 : 2 < (t109.length : Int) := of_decide_eq_true (by first | (with_reducible assumption) | assumption); obtain ⟨ad116, e116, hx116_0⟩ := Kd.at_string (Kd.R_reads' HO112.out).2.2 2 p116 q116; obtain rfl : ad115 = ad116 := (by injection e116); (try simp only [show (2 : Int).toNat = 2 from rfl, Nat.reduceMul, Nat.reduceEqDiff, Go.Addr.add, ↓reduceIte] at hx116_0); have qi116 : (2 < t109.length) = True := eq_true (by omega); (try rw [show ((2 : Int)).toNat = 2 from rfl] at hx116_0); replace p116 := eq_true p116; replace q116 := eq_true q116) | (go_at_call 15; (with_reducible refine (line_Join.calls _ _ t109 t117 _ ?side1 ?side2 A12.out).mono ?_); (case side1 => repeat (first | exact (Kd.R_reads' HO112.out).2.2 | (with_reducible refine Kd.C_alloc ?_ _) | (with_reducible refine Kd.C_drewN ?_ _) | (with_reducible refine Kd.C_drew ?_))); (case side2 => exact (Kd.R_reads' HO112.out).2.1); rintro e w18 ⟨rfl, hb⟩; have n0_ := mk0 (Kd.R_below (uR HO112.out) hb); have n1_ := mk0 (Kd.R_below (uR HO114.out) hb); have n2_ := mk0 (below_step (uL HB.out) hb); clear HO112; clear HO114; clear HB; have HO112 := n0_; have HO114 := n1_; have HB := n2_; clear n0_ n1_ n2_; (try clear hb); (try clear hb2); (try clear hk); (try clear hi)) | (go_at_call 11; (with_reducible refine (line_Indent.calls (⟨#[32, 9, 120]⟩ : ByteArray) t118 _ A14.out).mono ?_); rintro e w19 ⟨rfl, hb⟩; have n0_ := mk0 (Kd.R_below (uR HO112.out) hb); have n1_ := mk0 (Kd.R_below (uR HO114.out) hb); have n2_ := mk0 (below_step (uL HB.out) hb); clear HO112; clear HO114; clear HB; have HO112 := n0_; have HO114 := n1_; have HB := n2_; clear n0_ n1_ n2_; (try clear hb); (try clear hb2); (try clear hk); (try clear hi)))
           go_ret
           exact ⟨by first | rfl | (simp [errW_none, errW_some] <;> rfl) | (exact congrArg (fun b_ => Ending.returned (Value.bool b_)) HT.out) | (rw [show _ = _ from HT.out]) | (simp [HT.out]; done) | (simp [show _ = _ from HT.out]; done) | (simp [*, errW_none, errW_some] <;> rfl), uL HB.out⟩
          ·rw [if_neg c13] at H
           have c13b0 : (t117.toList == ([97, 10, 10, 98] : List UInt8)) = false := beq_eq_false_iff_ne.mpr c13
           have c13b1 : (t117.toList != ([97, 10, 10, 98] : List UInt8)) = true := bne_iff_ne.mpr c13
           exact absurd H (by simp)
         ·rw [if_neg c11] at H
          have c11b0 : ((rdOf ByteArray.empty t109 2).toList == ([98] : List UInt8)) = false := beq_eq_false_iff_ne.mpr c11
          have c11b1 : ((rdOf ByteArray.empty t109 2).toList != ([98] : List UInt8)) = true := bne_iff_ne.mpr c11
          exact absurd H (by simp)
        ·rw [if_neg c10] at H
         exact absurd H (by simp)
       ·rw [if_neg c9] at H
        have c9b0 : ((rdOf ByteArray.empty t109 1).toList == ([10] : List UInt8)) = false := beq_eq_false_iff_ne.mpr c9
        have c9b1 : ((rdOf ByteArray.empty t109 1).toList != ([10] : List UInt8)) = true := bne_iff_ne.mpr c9
        exact absurd H (by simp)
      ·rw [if_neg c8] at H
       exact absurd H (by simp)
     ·rw [if_neg c7] at H
      have c7b0 : ((t109.length : Int) == 3) = false := beq_eq_false_iff_ne.mpr c7
      have c7b1 : ((t109.length : Int) != 3) = true := bne_iff_ne.mpr c7
      exact absurd H (by simp)
    ·rw [if_neg c6] at H
     have c6b0 : ((t110.length : Int) == 0) = false := beq_eq_false_iff_ne.mpr c6
     have c6b1 : ((t110.length : Int) != 0) = true := bne_iff_ne.mpr c6
     have c6b2 : ¬ (t110 = []) := fun h_ => c6 (by rw [h_]; rfl)
     exact absurd H (by simp)
   ·rw [if_neg c5] at H
    have c5b0 : (t108.toList == ([10] : List UInt8)) = false := beq_eq_false_iff_ne.mpr c5
    have c5b1 : (t108.toList != ([10] : List UInt8)) = true := bne_iff_ne.mpr c5
    exact absurd H (by simp)
  ·rw [if_neg c4] at H
   have c4b0 : (t107.toList == ([33, 32, 111, 110, 101, 32, 33, 32, 116, 119, 111] : List UInt8)) = false := beq_eq_false_iff_ne.mpr c4
   have c4b1 : (t107.toList != ([33, 32, 111, 110, 101, 32, 33, 32, 116, 119, 111] : List UInt8)) = true := bne_iff_ne.mpr c4
   exact absurd H (by simp)
 ·rw [if_neg c3] at H
  have c3b0 : (t106.toList == ([32, 32, 120, 32, 61, 32, 49, 32] : List UInt8)) = false := beq_eq_false_iff_ne.mpr c3
  have c3b1 : (t106.toList != ([32, 32, 120, 32, 61, 32, 49, 32] : List UInt8)) = true := bne_iff_ne.mpr c3
  exact absurd H (by simp)

/-! ### furrowlaw2_LineParts: function 3 -/
mutual
def furrowlaw2_LineParts.j0 : Nat → ByteArray → ByteArray → ByteArray → ByteArray → Bool → Option (Bool)
 | 0, _, _, _, _, _ => none
 | k + 1, x0, x3, x4, x5, x46 => if x46 = true then (some false) else (furrowlaw2_LineParts.l0 k x0 x3 x4 x5 0)
def furrowlaw2_LineParts.l0 : Nat → ByteArray → ByteArray → ByteArray → ByteArray → Int → Option (Bool)
 | 0, _, _, _, _, _ => none
 | k + 1, x0, x3, x4, x5, x9 => if x9 < (x3.size : Int) then (if 0 ≤ x9 then (if (bt x3 x9) = 33 then (some false) else (furrowlaw2_LineParts.l0 k x0 x3 x4 x5 (wrap64 (x9 + 1)))) else (none)) else (if x3.size + x4.size ≤ 9223372036854775807 then (if (x3 ++ x4).size + x5.size ≤ 9223372036854775807 then (some (((x3 ++ x4) ++ x5).toList == x0.toList)) else (none)) else (none))
end
def furrowlaw2_LineParts.f (k : Nat) (a0 : ByteArray) : Option (Bool) := (furrowlaw2_known.f).bind fun t119 => (if t119 = true then (if (a0.size : Int) > 400 then (some true) else ((line_Part.f a0).bind fun bt120 => ((furrowref4_Parts.f k a0).bind fun bt123 => (if bt120.1.toList = bt123.1.toList then (if bt120.2.1.toList = bt123.2.1.toList then (if bt120.2.2.toList = bt123.2.2.toList then ((line_Indent.f a0).bind fun t126 => ((furrowref4_Indent.f k a0).bind fun t127 => (furrowlaw2_LineParts.j0 k a0 bt120.1 bt120.2.1 bt120.2.2 (t126.toList != t127.toList)))) else (furrowlaw2_LineParts.j0 k a0 bt120.1 bt120.2.1 bt120.2.2 true)) else (furrowlaw2_LineParts.j0 k a0 bt120.1 bt120.2.1 bt120.2.2 true)) else (furrowlaw2_LineParts.j0 k a0 bt120.1 bt120.2.1 bt120.2.2 true))))) else (some false))
theorem furrowlaw2_LineParts.mono_l : ∀ k, (∀ y0 y1 y2 y3 y4, LeO (furrowlaw2_LineParts.j0 k y0 y1 y2 y3 y4) (furrowlaw2_LineParts.j0 (k + 1) y0 y1 y2 y3 y4)) ∧ (∀ y0 y1 y2 y3 y4, LeO (furrowlaw2_LineParts.l0 k y0 y1 y2 y3 y4) (furrowlaw2_LineParts.l0 (k + 1) y0 y1 y2 y3 y4))
 | 0 => ⟨fun _ _ _ _ _ r h => by simp [furrowlaw2_LineParts.j0] at h, fun _ _ _ _ _ r h => by simp [furrowlaw2_LineParts.l0] at h⟩
 | k + 1 => by
  obtain ⟨ih0, ih1⟩ := furrowlaw2_LineParts.mono_l k
  refine ⟨?_, ?_⟩
  ·intro y0 y1 y2 y3 y4
   unfold furrowlaw2_LineParts.j0
   repeat' first
   | (with_reducible exact ih0 _ _ _ _ _)
   | (with_reducible exact ih1 _ _ _ _ _)
   | (with_reducible exact furrowref4_Indent.mono _ _)
   | (with_reducible exact furrowref4_Parts.mono _ _)
   | (with_reducible exact LeO.refl _)
   | (with_reducible exact LeO.none _)
   | (with_reducible refine LeO.ite ?_ ?_)
   | (with_reducible refine LeO.bind ?_ (fun _ => ?_))
   | exact ih0 _ _ _ _ _
   | exact ih1 _ _ _ _ _
   | exact furrowref4_Indent.mono _ _
   | exact furrowref4_Parts.mono _ _
   | exact LeO.none _
   | refine LeO.ite ?_ ?_
   | refine LeO.bind ?_ (fun _ => ?_)
  ·intro y0 y1 y2 y3 y4
   unfold furrowlaw2_LineParts.l0
   repeat' first
   | (with_reducible exact ih0 _ _ _ _ _)
   | (with_reducible exact ih1 _ _ _ _ _)
   | (with_reducible exact furrowref4_Indent.mono _ _)
   | (with_reducible exact furrowref4_Parts.mono _ _)
   | (with_reducible exact LeO.refl _)
   | (with_reducible exact LeO.none _)
   | (with_reducible refine LeO.ite ?_ ?_)
   | (with_reducible refine LeO.bind ?_ (fun _ => ?_))
   | exact ih0 _ _ _ _ _
   | exact ih1 _ _ _ _ _
   | exact furrowref4_Indent.mono _ _
   | exact furrowref4_Parts.mono _ _
   | exact LeO.none _
   | refine LeO.ite ?_ ?_
   | refine LeO.bind ?_ (fun _ => ?_)
theorem furrowlaw2_LineParts.mono : ∀ a0 k, LeO (furrowlaw2_LineParts.f k a0) (furrowlaw2_LineParts.f (k + 1) a0) := by
 intro a0 k
 obtain ⟨ih0, ih1⟩ := furrowlaw2_LineParts.mono_l k
 unfold furrowlaw2_LineParts.f
 repeat' first
   | (with_reducible exact ih0 _ _ _ _ _)
   | (with_reducible exact ih1 _ _ _ _ _)
   | (with_reducible exact furrowref4_Indent.mono _ _)
   | (with_reducible exact furrowref4_Parts.mono _ _)
   | (with_reducible exact LeO.refl _)
   | (with_reducible exact LeO.none _)
   | (with_reducible refine LeO.ite ?_ ?_)
   | (with_reducible refine LeO.bind ?_ (fun _ => ?_))
   | exact ih0 _ _ _ _ _
   | exact ih1 _ _ _ _ _
   | exact furrowref4_Indent.mono _ _
   | exact furrowref4_Parts.mono _ _
   | exact LeO.none _
   | refine LeO.ite ?_ ?_
   | refine LeO.bind ?_ (fun _ => ?_)
set_option maxHeartbeats 8000000 in
set_option maxRecDepth 100000 in
theorem furrowlaw2_LineParts.calls (k : Nat) (a0 : ByteArray) (w : World) (h : furrowlaw2_LineParts.f k a0 = some true) :
  Calls Tryd.prog 3 #[.string a0] w fun e w' => e = .returned (.bool true) ∧ Below w.heap.size w w' := by
 have HB := mk0 (Below.refl w.heap.size w)
 have H : ((furrowlaw2_known.f).bind fun t119 => (if t119 = true then (if (a0.size : Int) > 400 then (some true) else ((line_Part.f a0).bind fun bt120 => ((furrowref4_Parts.f k a0).bind fun bt123 => (if bt120.1.toList = bt123.1.toList then (if bt120.2.1.toList = bt123.2.1.toList then (if bt120.2.2.toList = bt123.2.2.toList then ((line_Indent.f a0).bind fun t126 => ((furrowref4_Indent.f k a0).bind fun t127 => (furrowlaw2_LineParts.j0 k a0 bt120.1 bt120.2.1 bt120.2.2 (t126.toList != t127.toList)))) else (furrowlaw2_LineParts.j0 k a0 bt120.1 bt120.2.1 bt120.2.2 true)) else (furrowlaw2_LineParts.j0 k a0 bt120.1 bt120.2.1 bt120.2.2 true)) else (furrowlaw2_LineParts.j0 k a0 bt120.1 bt120.2.1 bt120.2.2 true))))) else (some false))) = some true := h
 clear h
 replace H := Option.bind_eq_some_iff.mp H
 obtain ⟨t119, A20, H⟩ := H
 replace H : (if t119 = true then (if (a0.size : Int) > 400 then (some true) else ((line_Part.f a0).bind fun bt120 => ((furrowref4_Parts.f k a0).bind fun bt123 => (if bt120.1.toList = bt123.1.toList then (if bt120.2.1.toList = bt123.2.1.toList then (if bt120.2.2.toList = bt123.2.2.toList then ((line_Indent.f a0).bind fun t126 => ((furrowref4_Indent.f k a0).bind fun t127 => (furrowlaw2_LineParts.j0 k a0 bt120.1 bt120.2.1 bt120.2.2 (t126.toList != t127.toList)))) else (furrowlaw2_LineParts.j0 k a0 bt120.1 bt120.2.1 bt120.2.2 true)) else (furrowlaw2_LineParts.j0 k a0 bt120.1 bt120.2.1 bt120.2.2 true)) else (furrowlaw2_LineParts.j0 k a0 bt120.1 bt120.2.1 bt120.2.2 true))))) else (some false)) = some true := H
 have A2 := mk0 A20
 clear A20
 by_cases c3 : t119 = true
 ·subst c3
  have H1 : (if (a0.size : Int) > 400 then (some true) else ((line_Part.f a0).bind fun bt120 => ((furrowref4_Parts.f k a0).bind fun bt123 => (if bt120.1.toList = bt123.1.toList then (if bt120.2.1.toList = bt123.2.1.toList then (if bt120.2.2.toList = bt123.2.2.toList then ((line_Indent.f a0).bind fun t126 => ((furrowref4_Indent.f k a0).bind fun t127 => (furrowlaw2_LineParts.j0 k a0 bt120.1 bt120.2.1 bt120.2.2 (t126.toList != t127.toList)))) else (furrowlaw2_LineParts.j0 k a0 bt120.1 bt120.2.1 bt120.2.2 true)) else (furrowlaw2_LineParts.j0 k a0 bt120.1 bt120.2.1 bt120.2.2 true)) else (furrowlaw2_LineParts.j0 k a0 bt120.1 bt120.2.1 bt120.2.2 true))))) = some true := by rw [if_pos rfl] at H; first | done | exact H
  clear H
  have H := H1
  clear H1
  by_cases c4 : (a0.size : Int) > 400
  ·rw [if_pos c4] at H
   have c4b0 : decide (400 < (a0.size : Int)) = true := decide_eq_true c4
   have c4b1 : decide (400 < a0.size) = true := decide_eq_true (by omega)
   clear c4
   have HT := mk0 (Option.some.inj H)
   clear H
   go_enter Tryd.func3, Tryd.ntmps3
   go_wp2_with (first | ((with_reducible refine gate_callee (f := 8) rfl ?_); refine goesL_ (some 10) rfl rfl Tryd.func8 (by kernel_rfl) rfl #[] rfl (by (try simp only [List.map_toArray, List.map_cons, List.map_nil]); first | done | rfl | (simp only [List.length_drop, List.length_take]; rfl)) ?_; (with_reducible refine (furrowlaw2_known.calls   _ A2.out).mono ?_); rintro e w5 ⟨rfl, hb⟩; refine ⟨_, rfl, ?_⟩; have n0_ := mk0 (below_step (uL HB.out) hb); clear HB; have HB := n0_; clear n0_; (try clear hb); (try clear hb2); (try clear hk); (try clear hi)))
   go_ret
   exact ⟨by first | rfl | (simp [errW_none, errW_some] <;> rfl) | (exact congrArg (fun b_ => Ending.returned (Value.bool b_)) HT.out) | (rw [show _ = _ from HT.out]) | (simp [HT.out]; done) | (simp [show _ = _ from HT.out]; done) | (simp [*, errW_none, errW_some] <;> rfl), uL HB.out⟩
  ·rw [if_neg c4] at H
   have c4b0 : decide (400 < (a0.size : Int)) = false := decide_eq_false c4
   have c4b1 : decide (400 < a0.size) = false := decide_eq_false (by omega)
   clear c4
   replace H := Option.bind_eq_some_iff.mp H
   obtain ⟨⟨t120, t121, t122⟩, A60, H⟩ := H
   replace H : ((furrowref4_Parts.f k a0).bind fun bt123 => (if t120.toList = bt123.1.toList then (if t121.toList = bt123.2.1.toList then (if t122.toList = bt123.2.2.toList then ((line_Indent.f a0).bind fun t126 => ((furrowref4_Indent.f k a0).bind fun t127 => (furrowlaw2_LineParts.j0 k a0 t120 t121 t122 (t126.toList != t127.toList)))) else (furrowlaw2_LineParts.j0 k a0 t120 t121 t122 true)) else (furrowlaw2_LineParts.j0 k a0 t120 t121 t122 true)) else (furrowlaw2_LineParts.j0 k a0 t120 t121 t122 true))) = some true := H
   have A6 := mk0 A60
   clear A60
   replace H := Option.bind_eq_some_iff.mp H
   obtain ⟨⟨t123, t124, t125⟩, A70, H⟩ := H
   replace H : (if t120.toList = t123.toList then (if t121.toList = t124.toList then (if t122.toList = t125.toList then ((line_Indent.f a0).bind fun t126 => ((furrowref4_Indent.f k a0).bind fun t127 => (furrowlaw2_LineParts.j0 k a0 t120 t121 t122 (t126.toList != t127.toList)))) else (furrowlaw2_LineParts.j0 k a0 t120 t121 t122 true)) else (furrowlaw2_LineParts.j0 k a0 t120 t121 t122 true)) else (furrowlaw2_LineParts.j0 k a0 t120 t121 t122 true)) = some true := H
   have A7 := mk0 A70
   clear A70
   have HC8 := mk0 H
   clear H
   go_enter Tryd.func3, Tryd.ntmps3
   go_upto_region 7 with (first | ((with_reducible refine gate_callee (f := 8) rfl ?_); refine goesL_ (some 10) rfl rfl Tryd.func8 (by kernel_rfl) rfl #[] rfl (by (try simp only [List.map_toArray, List.map_cons, List.map_nil]); first | done | rfl | (simp only [List.length_drop, List.length_take]; rfl)) ?_; (with_reducible refine (furrowlaw2_known.calls   _ A2.out).mono ?_); rintro e w9 ⟨rfl, hb⟩; refine ⟨_, rfl, ?_⟩; have n0_ := mk0 (below_step (uL HB.out) hb); clear HB; have HB := n0_; clear n0_; (try clear hb); (try clear hb2); (try clear hk); (try clear hi)) | ((with_reducible refine gate_callee (f := 9) rfl ?_); refine goesL_ (some 17) rfl rfl Tryd.func9 (by kernel_rfl) rfl #[.string a0] rfl (by (try simp only [List.map_toArray, List.map_cons, List.map_nil]); first | done | rfl | (simp only [List.length_drop, List.length_take]; rfl)) ?_; (with_reducible refine (line_Part.calls a0 t120 t121 t122 _ A6.out).mono ?_); rintro e w10 ⟨rfl, hb⟩; refine ⟨_, rfl, ?_⟩; have n0_ := mk0 (below_step (uL HB.out) hb); clear HB; have HB := n0_; clear n0_; (try clear hb); (try clear hb2); (try clear hk); (try clear hi)) | ((with_reducible refine gate_callee (f := 10) rfl ?_); refine goesL_ (some 23) rfl rfl Tryd.func10 (by kernel_rfl) rfl #[.string a0] rfl (by (try simp only [List.map_toArray, List.map_cons, List.map_nil]); first | done | rfl | (simp only [List.length_drop, List.length_take]; rfl)) ?_; (with_reducible refine (furrowref4_Parts.calls k a0 t123 t124 t125 _ A7.out).mono ?_); rintro e w' ⟨rfl, ⟨nd, rfl⟩⟩; refine ⟨_, rfl, ?_⟩))
   (try simp only [Act.put, List.setIfInBounds_toArray, List.set_cons_zero, List.set_cons_succ])
   go_cut [46] (fun v46 wc => ∃ (kq : Nat) (x46_7 : Bool), v46 = .bool x46_7 ∧ Aside0 (furrowlaw2_LineParts.j0 kq a0 t120 t121 t122 x46_7 = some true) ∧ Aside0 (kq ≤ k) ∧ Aside0 (Below w.heap.size w wc))
   case first =>
    have H := HC8.out
    clear HC8
    by_cases c11 : t120.toList = t123.toList
    ·rw [if_pos c11] at H
     have c11b0 : (t120.toList == t123.toList) = true := beq_iff_eq.mpr c11
     have c11b1 : (t120.toList != t123.toList) = false := bne_eq_false_iff_eq.mpr c11
     clear c11
     (first | rw [c11b0] | (simp only [i64_w, i32_w]; rw [c11b0]) | skip)
     by_cases c12 : t121.toList = t124.toList
     ·rw [if_pos c12] at H
      have c12b0 : (t121.toList == t124.toList) = true := beq_iff_eq.mpr c12
      have c12b1 : (t121.toList != t124.toList) = false := bne_eq_false_iff_eq.mpr c12
      clear c12
      by_cases c13 : t122.toList = t125.toList
      ·rw [if_pos c13] at H
       have c13b0 : (t122.toList == t125.toList) = true := beq_iff_eq.mpr c13
       have c13b1 : (t122.toList != t125.toList) = false := bne_eq_false_iff_eq.mpr c13
       clear c13
       replace H := Option.bind_eq_some_iff.mp H
       obtain ⟨t126, A140, H⟩ := H
       replace H : ((furrowref4_Indent.f k a0).bind fun t127 => (furrowlaw2_LineParts.j0 k a0 t120 t121 t122 (t126.toList != t127.toList))) = some true := H
       have A14 := mk0 A140
       clear A140
       replace H := Option.bind_eq_some_iff.mp H
       obtain ⟨t127, A150, H⟩ := H
       replace H : (furrowlaw2_LineParts.j0 k a0 t120 t121 t122 (t126.toList != t127.toList)) = some true := H
       have A15 := mk0 A150
       clear A150
       have H' := mk0 H
       clear H
       go_wp2_with (first | (go_at_call 11; (with_reducible refine (line_Indent.calls a0 t126 _ A14.out).mono ?_); rintro e w16 ⟨rfl, hb⟩; have n0_ := mk0 (below_step (uL HB.out) hb); clear HB; have HB := n0_; clear n0_; (try clear hb); (try clear hb2); (try clear hk); (try clear hi)) | (go_at_call 12; (with_reducible refine (furrowref4_Indent.calls k a0 t127 _ A15.out).mono ?_); rintro e w' ⟨rfl, ⟨nd, rfl⟩⟩))
       go_meet
       case rel => exact ⟨_, ((t126.toList != t127.toList)), (by first | rfl | (simp; done) | (simp [*]; done) | (simp [bne_nil_, beq_nil_]; done)), H', ⟨by first | omega | exact Nat.le_refl _⟩, ⟨uL HB.out⟩⟩
      ·rw [if_neg c13] at H
       have c13b0 : (t122.toList == t125.toList) = false := beq_eq_false_iff_ne.mpr c13
       have c13b1 : (t122.toList != t125.toList) = true := bne_iff_ne.mpr c13
       have H' := mk0 H
       clear H
       go_wp2
       go_meet
       case rel => exact ⟨_, (true), (by first | rfl | (simp; done) | (simp [*]; done) | (simp [bne_nil_, beq_nil_]; done)), H', ⟨by first | omega | exact Nat.le_refl _⟩, ⟨uL HB.out⟩⟩
     ·rw [if_neg c12] at H
      have c12b0 : (t121.toList == t124.toList) = false := beq_eq_false_iff_ne.mpr c12
      have c12b1 : (t121.toList != t124.toList) = true := bne_iff_ne.mpr c12
      have H' := mk0 H
      clear H
      go_wp2
      go_meet
      case rel => exact ⟨_, (true), (by first | rfl | (simp; done) | (simp [*]; done) | (simp [bne_nil_, beq_nil_]; done)), H', ⟨by first | omega | exact Nat.le_refl _⟩, ⟨uL HB.out⟩⟩
    ·rw [if_neg c11] at H
     have c11b0 : (t120.toList == t123.toList) = false := beq_eq_false_iff_ne.mpr c11
     have c11b1 : (t120.toList != t123.toList) = true := bne_iff_ne.mpr c11
     (first | rw [c11b0] | (simp only [i64_w, i32_w]; rw [c11b0]) | skip)
     have H' := mk0 H
     clear H
     go_wp2
     go_meet
     case rel => exact ⟨_, (true), (by first | rfl | (simp; done) | (simp [*]; done) | (simp [bne_nil_, beq_nil_]; done)), H', ⟨by first | omega | exact Nat.le_refl _⟩, ⟨uL HB.out⟩⟩
   case rest =>
    clear HC8
    try clear c1
    try clear p2
    try clear c3
    try clear c4
    try clear c4b0
    try clear c4b1
    try clear c8
    try clear c9
    try clear c10
    try clear c11
    try clear c11b0
    try clear c11b1
    try clear c12
    try clear c12b0
    try clear c12b1
    try clear c13
    try clear c13b0
    try clear c13b1
    obtain ⟨kq, x46_7, rfl, HA, HJ7, HB⟩ := hcut
    cases kq with
    | zero => exact absurd HA.out (by simp [furrowlaw2_LineParts.j0])
    | succ kj7 =>
     have H := HA.out
     clear HA
     simp only [furrowlaw2_LineParts.j0] at H
     by_cases c17 : x46_7 = true
     ·subst c17
      have H1 : (some false) = some true := by rw [if_pos rfl] at H; first | done | exact H
      clear H
      have H := H1
      clear H1
      exact absurd H (by simp)
     ·replace c17 := Bool.eq_false_iff.mpr c17
      subst c17
      have H1 : (furrowlaw2_LineParts.l0 kj7 a0 t120 t121 t122 0) = some true := by rw [if_neg (show ¬ (false = true) by decide)] at H; first | done | exact H
      clear H
      have H := H1
      clear H1
      have H' := mk0 H
      clear H
      go_wp2
      go_loopg [9] kj7 (fun kq v9 w' => ∃ (x9_2 : Int), v9 = .int .i64 x9_2 ∧ Aside0 (furrowlaw2_LineParts.l0 kq a0 t120 t121 t122 x9_2 = some true) ∧ Aside0 (kq ≤ kj7) ∧ Aside0 (Below w.heap.size w w'))
      case atStart => exact ⟨(0), (by first | rfl | (simp; done) | (simp [*]; done) | (simp [bne_nil_, beq_nil_]; done)), H', ⟨Nat.le_refl _⟩, ⟨uL HB.out⟩⟩
      case round =>
       clear H'
       try clear c1
       try clear p2
       try clear c3
       try clear c4
       try clear c4b0
       try clear c4b1
       try clear c8
       try clear c9
       try clear c10
       try clear c11
       try clear c11b0
       try clear c11b1
       try clear c12
       try clear c12b0
       try clear c12b1
       try clear c13
       try clear c13b0
       try clear c13b1
       try clear c17
       try clear p2
       obtain ⟨x9_2, rfl, HA, HK2, HB⟩ := hrel
       cases gk with
       | zero => exact absurd HA.out (by simp [furrowlaw2_LineParts.l0])
       | succ k2 =>
        have H := HA.out
        clear HA
        simp only [furrowlaw2_LineParts.l0] at H
        by_cases c18 : x9_2 < (t120.size : Int)
        ·rw [if_pos c18] at H
         have c18b0 : decide (x9_2 < (t120.size : Int)) = true := decide_eq_true c18
         clear c18
         by_cases c19 : 0 ≤ x9_2
         ·rw [if_pos c19] at H
          have c19b0 : decide (0 ≤ x9_2) = true := decide_eq_true c19
          clear c19
          by_cases c21 : (bt t120 x9_2) = 33
          ·rw [if_pos c21] at H
           have c21b0 : ((bt t120 x9_2) == 33) = true := beq_iff_eq.mpr c21
           have c21b1 : ((bt t120 x9_2) != 33) = false := bne_eq_false_iff_eq.mpr c21
           clear c21
           exact absurd H (by simp)
          ·rw [if_neg c21] at H
           have c21b0 : ((bt t120 x9_2) == 33) = false := beq_eq_false_iff_ne.mpr c21
           have c21b1 : ((bt t120 x9_2) != 33) = true := bne_iff_ne.mpr c21
           have H' := mk0 H
           clear H
           have p20 : 0 ≤ (x9_2 : Int) := of_decide_eq_true (by first | (with_reducible assumption) | assumption)
           have q20 : x9_2 < (t120.size : Int) := of_decide_eq_true (by first | (with_reducible assumption) | assumption)
           have hx20 := bt_at t120 x9_2
           replace p20 := eq_true p20
           replace q20 := eq_true q20
           go_wp2
           go_roundg k2
           case measure => have := HJ7.out; have := HK2.out; omega
           case rel => exact ⟨(wrap64 (x9_2 + 1)), (by first | rfl | (simp; done) | (simp [*]; done) | (simp [bne_nil_, beq_nil_]; done)), H', ⟨by have := HJ7.out; have := HK2.out; omega⟩, ⟨uL HB.out⟩⟩
         ·rw [if_neg c19] at H
          exact absurd H (by simp)
        ·rw [if_neg c18] at H
         have c18b0 : decide (x9_2 < (t120.size : Int)) = false := decide_eq_false c18
         clear c18
         by_cases c22 : t120.size + t121.size ≤ 9223372036854775807
         ·rw [if_pos c22] at H
          have c22b0 := eq_true c22
          have c22b1 : decide (t120.size + t121.size ≤ 9223372036854775807) = true := decide_eq_true c22
          try have c22b2 : (9223372036854775807 < t120.size + t121.size) = False := eq_false (Nat.not_lt.2 c22)
          by_cases c23 : (t120 ++ t121).size + t122.size ≤ 9223372036854775807
          ·rw [if_pos c23] at H
           have c23b0 := eq_true c23
           have c23b1 : decide ((t120 ++ t121).size + t122.size ≤ 9223372036854775807) = true := decide_eq_true c23
           try have c23b2 : (9223372036854775807 < (t120 ++ t121).size + t122.size) = False := eq_false (Nat.not_lt.2 c23)
           have c23s := c23
           simp only [ByteArray.size_append] at c23s
           have c23b3 := eq_true c23s
           have c23b4 := decide_eq_true c23s
           have c23b5 := eq_false (Nat.not_lt.2 c23s)
           clear c23s
           have HT := mk0 (Option.some.inj H)
           clear H
           go_wp2
           go_ret
           exact ⟨by first | rfl | (simp [errW_none, errW_some] <;> rfl) | (exact congrArg (fun b_ => Ending.returned (Value.bool b_)) HT.out) | (rw [show _ = _ from HT.out]) | (simp [HT.out]; done) | (simp [show _ = _ from HT.out]; done) | (simp [*, errW_none, errW_some] <;> rfl), uL HB.out⟩
          ·rw [if_neg c23] at H
           exact absurd H (by simp)
         ·rw [if_neg c22] at H
          exact absurd H (by simp)
 ·replace c3 := Bool.eq_false_iff.mpr c3
  subst c3
  have H1 : (some false) = some true := by rw [if_neg (show ¬ (false = true) by decide)] at H; first | done | exact H
  clear H
  have H := H1
  clear H1
  exact absurd H (by simp)

/-- THE ONE PURE STATEMENT of furrowlaw2_LineParts: yours. -/
def furrowlaw2_LineParts.Pure : Prop := ∀ (a0 : ByteArray), a0.size ≤ 140737488351232 → ∃ k, furrowlaw2_LineParts.f k a0 = some true
theorem furrowlaw2_LineParts.walk (P : furrowlaw2_LineParts.Pure) (a0 : ByteArray) (w : World) (w0 : a0.size ≤ 140737488351232) :
  Calls Tryd.prog 3 #[.string a0] w fun e w' => e = .returned (.bool true) ∧ Below w.heap.size w w' := by
 obtain ⟨k, h⟩ := P a0 w0
 refine (furrowlaw2_LineParts.calls k a0  w h).mono ?_
 rintro e w' ⟨rfl, hd⟩
 exact ⟨rfl, hd⟩

end Go.Proofs.YtnecoebdmjkblaaDoor.X
