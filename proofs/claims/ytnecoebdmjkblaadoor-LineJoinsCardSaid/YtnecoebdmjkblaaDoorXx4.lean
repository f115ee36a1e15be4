-- PRINTED by print.py (a twelfth state) out of the translation. Not trusted: Lean checks it.
import Derived.Test.YtnecoebdmjkblaaDoorXx0
import Derived.Test.YtnecoebdmjkblaaDoorHandX
namespace Go.Proofs.YtnecoebdmjkblaaDoor.X
open Go.Proofs.YtnecoebdmjkblaaDoor.Flt Go.Proofs.YtnecoebdmjkblaaDoor.H Go.RowKit Go.Proofs.YtnecoebdmjkblaaDoorW.PrintWords Go.Proofs.YtnecoebdmjkblaaDoorW.PrintLast Go.Proofs.YtnecoebdmjkblaaDoorW.PrintMore
attribute [local go_sem] max2_int min2_int max_two min_two max_three min_three max_four min_four   -- for this text's walks alone
set_option linter.unusedVariables false
set_option linter.unusedSimpArgs false

/-! ### line_Part: function 9 -/
def line_Part.f (a0 : ByteArray) : Option (ByteArray × ByteArray × ByteArray) := (strings_CutSuffix.f a0 (⟨#[10]⟩ : ByteArray)).bind fun bt101 => (if bt101.2 = true then ((strings_IndexByte.f bt101.1 33).bind fun t103 => (if t103 ≥ 0 then (if 0 ≤ t103 then (if t103 ≤ (bt101.1.size : Int) then (some (bt101.1.extract 0 (t103 : Int).toNat, bt101.1.extract (t103 : Int).toNat bt101.1.size, (⟨#[10]⟩ : ByteArray))) else (none)) else (none)) else (some (bt101.1, (⟨#[]⟩ : ByteArray), (⟨#[10]⟩ : ByteArray))))) else ((strings_IndexByte.f bt101.1 33).bind fun t104 => (if t104 ≥ 0 then (if 0 ≤ t104 then (if t104 ≤ (bt101.1.size : Int) then (some (bt101.1.extract 0 (t104 : Int).toNat, bt101.1.extract (t104 : Int).toNat bt101.1.size, (⟨#[]⟩ : ByteArray))) else (none)) else (none)) else (some (bt101.1, (⟨#[]⟩ : ByteArray), (⟨#[]⟩ : ByteArray))))))
set_option maxHeartbeats 8000000 in
set_option maxRecDepth 100000 in
theorem line_Part.calls (a0 : ByteArray) (r1 : ByteArray) (r2 : ByteArray) (r3 : ByteArray) (w : World) (h : line_Part.f a0 = some (r1, r2, r3)) :
  Calls Tryd.prog 9 #[.string a0] w fun e w' => e = .returned (.tuple #[.string r1, .string r2, .string r3]) ∧ Below w.heap.size w w' := by
 have HB := mk0 (Below.refl w.heap.size w)
 have H : ((strings_CutSuffix.f a0 (⟨#[10]⟩ : ByteArray)).bind fun bt101 => (if bt101.2 = true then ((strings_IndexByte.f bt101.1 33).bind fun t103 => (if t103 ≥ 0 then (if 0 ≤ t103 then (if t103 ≤ (bt101.1.size : Int) then (some (bt101.1.extract 0 (t103 : Int).toNat, bt101.1.extract (t103 : Int).toNat bt101.1.size, (⟨#[10]⟩ : ByteArray))) else (none)) else (none)) else (some (bt101.1, (⟨#[]⟩ : ByteArray), (⟨#[10]⟩ : ByteArray))))) else ((strings_IndexByte.f bt101.1 33).bind fun t104 => (if t104 ≥ 0 then (if 0 ≤ t104 then (if t104 ≤ (bt101.1.size : Int) then (some (bt101.1.extract 0 (t104 : Int).toNat, bt101.1.extract (t104 : Int).toNat bt101.1.size, (⟨#[]⟩ : ByteArray))) else (none)) else (none)) else (some (bt101.1, (⟨#[]⟩ : ByteArray), (⟨#[]⟩ : ByteArray))))))) = some (r1, r2, r3) := h
 clear h
 replace H := Option.bind_eq_some_iff.mp H
 obtain ⟨⟨t101, t102⟩, A20, H⟩ := H
 replace H : (if t102 = true then ((strings_IndexByte.f t101 33).bind fun t103 => (if t103 ≥ 0 then (if 0 ≤ t103 then (if t103 ≤ (t101.size : Int) then (some (t101.extract 0 (t103 : Int).toNat, t101.extract (t103 : Int).toNat t101.size, (⟨#[10]⟩ : ByteArray))) else (none)) else (none)) else (some (t101, (⟨#[]⟩ : ByteArray), (⟨#[10]⟩ : ByteArray))))) else ((strings_IndexByte.f t101 33).bind fun t104 => (if t104 ≥ 0 then (if 0 ≤ t104 then (if t104 ≤ (t101.size : Int) then (some (t101.extract 0 (t104 : Int).toNat, t101.extract (t104 : Int).toNat t101.size, (⟨#[]⟩ : ByteArray))) else (none)) else (none)) else (some (t101, (⟨#[]⟩ : ByteArray), (⟨#[]⟩ : ByteArray)))))) = some (r1, r2, r3) := H
 have A2 := mk0 A20
 clear A20
 by_cases c3 : t102 = true
 ·subst c3
  have H1 : ((strings_IndexByte.f t101 33).bind fun t103 => (if t103 ≥ 0 then (if 0 ≤ t103 then (if t103 ≤ (t101.size : Int) then (some (t101.extract 0 (t103 : Int).toNat, t101.extract (t103 : Int).toNat t101.size, (⟨#[10]⟩ : ByteArray))) else (none)) else (none)) else (some (t101, (⟨#[]⟩ : ByteArray), (⟨#[10]⟩ : ByteArray))))) = some (r1, r2, r3) := by rw [if_pos rfl] at H; exact H
  clear H
  have H := H1
  clear H1
  replace H := Option.bind_eq_some_iff.mp H
  obtain ⟨t103, A40, H⟩ := H
  replace H : (if t103 ≥ 0 then (if 0 ≤ t103 then (if t103 ≤ (t101.size : Int) then (some (t101.extract 0 (t103 : Int).toNat, t101.extract (t103 : Int).toNat t101.size, (⟨#[10]⟩ : ByteArray))) else (none)) else (none)) else (some (t101, (⟨#[]⟩ : ByteArray), (⟨#[10]⟩ : ByteArray)))) = some (r1, r2, r3) := H
  have A4 := mk0 A40
  clear A40
  by_cases c5 : t103 ≥ 0
  ·rw [if_pos c5] at H
   have c5b0 : decide (0 ≤ t103) = true := decide_eq_true c5
   clear c5
   by_cases c6 : 0 ≤ t103
   ·rw [if_pos c6] at H
    have c6b0 := eq_true c6
    have c6b1 : decide (0 ≤ t103) = true := decide_eq_true c6
    clear c6
    by_cases c7 : t103 ≤ (t101.size : Int)
    ·rw [if_pos c7] at H
     have c7b0 := eq_true c7
     have c7b1 : decide (t103 ≤ (t101.size : Int)) = true := decide_eq_true c7
     clear c7
     have c8b0 := eq_true (of_decide_eq_true (by first | (with_reducible assumption) | assumption) : 0 ≤ t103)
     have c9b0 := eq_true (of_decide_eq_true (by first | (with_reducible assumption) | assumption) : t103 ≤ (t101.size : Int))
     simp only [Option.some.injEq, Prod.mk.injEq] at H
     obtain ⟨rfl, rfl, rfl⟩ := H
     go_enter Tryd.func9, Tryd.ntmps9
     go_wp2_with (first | (go_at_call 19; (with_reducible refine (strings_CutSuffix.calls a0 (⟨#[10]⟩ : ByteArray) t101 true _ A2.out).mono ?_); rintro e w10 ⟨rfl, hb⟩; have n0_ := mk0 (below_step (uL HB.out) hb); clear HB; have HB := n0_; clear n0_; (try clear hb); (try clear hb2); (try clear hk); (try clear hi)) | (go_at_call 20; (with_reducible refine (strings_IndexByte.calls t101 33 t103 _ A4.out).mono ?_); rintro e w11 ⟨rfl, hb⟩; have n0_ := mk0 (below_step (uL HB.out) hb); clear HB; have HB := n0_; clear n0_; (try clear hb); (try clear hb2); (try clear hk); (try clear hi)))
     repeat (go_quiet (first | (go_at_call 19; (with_reducible refine (strings_CutSuffix.calls a0 (⟨#[10]⟩ : ByteArray) t101 true _ A2.out).mono ?_); rintro e w10 ⟨rfl, hb⟩; have n0_ := mk0 (below_step (uL HB.out) hb); clear HB; have HB := n0_; clear n0_; (try clear hb); (try clear hb2); (try clear hk); (try clear hi)) | (go_at_call 20; (with_reducible refine (strings_IndexByte.calls t101 33 t103 _ A4.out).mono ?_); rintro e w11 ⟨rfl, hb⟩; have n0_ := mk0 (below_step (uL HB.out) hb); clear HB; have HB := n0_; clear n0_; (try clear hb); (try clear hb2); (try clear hk); (try clear hi))); try go_wp2_with (first | (go_at_call 19; (with_reducible refine (strings_CutSuffix.calls a0 (⟨#[10]⟩ : ByteArray) t101 true _ A2.out).mono ?_); rintro e w10 ⟨rfl, hb⟩; have n0_ := mk0 (below_step (uL HB.out) hb); clear HB; have HB := n0_; clear n0_; (try clear hb); (try clear hb2); (try clear hk); (try clear hi)) | (go_at_call 20; (with_reducible refine (strings_IndexByte.calls t101 33 t103 _ A4.out).mono ?_); rintro e w11 ⟨rfl, hb⟩; have n0_ := mk0 (below_step (uL HB.out) hb); clear HB; have HB := n0_; clear n0_; (try clear hb); (try clear hb2); (try clear hk); (try clear hi))))
     go_ret3
     exact ⟨by first | rfl | (simp [errW_none, errW_some] <;> rfl) | (simp [*, errW_none, errW_some] <;> rfl), uL HB.out⟩
    ·rw [if_neg c7] at H
     exact absurd H (by simp)
   ·rw [if_neg c6] at H
    exact absurd H (by simp)
  ·rw [if_neg c5] at H
   have c5b0 : decide (0 ≤ t103) = false := decide_eq_false c5
   clear c5
   simp only [Option.some.injEq, Prod.mk.injEq] at H
   obtain ⟨rfl, rfl, rfl⟩ := H
   go_enter Tryd.func9, Tryd.ntmps9
   go_wp2_with (first | (go_at_call 19; (with_reducible refine (strings_CutSuffix.calls a0 (⟨#[10]⟩ : ByteArray) t101 true _ A2.out).mono ?_); rintro e w12 ⟨rfl, hb⟩; have n0_ := mk0 (below_step (uL HB.out) hb); clear HB; have HB := n0_; clear n0_; (try clear hb); (try clear hb2); (try clear hk); (try clear hi)) | (go_at_call 20; (with_reducible refine (strings_IndexByte.calls t101 33 t103 _ A4.out).mono ?_); rintro e w13 ⟨rfl, hb⟩; have n0_ := mk0 (below_step (uL HB.out) hb); clear HB; have HB := n0_; clear n0_; (try clear hb); (try clear hb2); (try clear hk); (try clear hi)))
   repeat (go_quiet (first | (go_at_call 19; (with_reducible refine (strings_CutSuffix.calls a0 (⟨#[10]⟩ : ByteArray) t101 true _ A2.out).mono ?_); rintro e w12 ⟨rfl, hb⟩; have n0_ := mk0 (below_step (uL HB.out) hb); clear HB; have HB := n0_; clear n0_; (try clear hb); (try clear hb2); (try clear hk); (try clear hi)) | (go_at_call 20; (with_reducible refine (strings_IndexByte.calls t101 33 t103 _ A4.out).mono ?_); rintro e w13 ⟨rfl, hb⟩; have n0_ := mk0 (below_step (uL HB.out) hb); clear HB; have HB := n0_; clear n0_; (try clear hb); (try clear hb2); (try clear hk); (try clear hi))); try go_wp2_with (first | (go_at_call 19; (with_reducible refine (strings_CutSuffix.calls a0 (⟨#[10]⟩ : ByteArray) t101 true _ A2.out).mono ?_); rintro e w12 ⟨rfl, hb⟩; have n0_ := mk0 (below_step (uL HB.out) hb); clear HB; have HB := n0_; clear n0_; (try clear hb); (try clear hb2); (try clear hk); (try clear hi)) | (go_at_call 20; (with_reducible refine (strings_IndexByte.calls t101 33 t103 _ A4.out).mono ?_); rintro e w13 ⟨rfl, hb⟩; have n0_ := mk0 (below_step (uL HB.out) hb); clear HB; have HB := n0_; clear n0_; (try clear hb); (try clear hb2); (try clear hk); (try clear hi))))
   go_ret3
   exact ⟨by first | rfl | (simp [errW_none, errW_some] <;> rfl) | (simp [*, errW_none, errW_some] <;> rfl), uL HB.out⟩
 ·replace c3 := Bool.eq_false_iff.mpr c3
  subst c3
  have H1 : ((strings_IndexByte.f t101 33).bind fun t104 => (if t104 ≥ 0 then (if 0 ≤ t104 then (if t104 ≤ (t101.size : Int) then (some (t101.extract 0 (t104 : Int).toNat, t101.extract (t104 : Int).toNat t101.size, (⟨#[]⟩ : ByteArray))) else (none)) else (none)) else (some (t101, (⟨#[]⟩ : ByteArray), (⟨#[]⟩ : ByteArray))))) = some (r1, r2, r3) := by rw [if_neg (show ¬ (false = true) by decide)] at H; exact H
  clear H
  have H := H1
  clear H1
  replace H := Option.bind_eq_some_iff.mp H
  obtain ⟨t104, A140, H⟩ := H
  replace H : (if t104 ≥ 0 then (if 0 ≤ t104 then (if t104 ≤ (t101.size : Int) then (some (t101.extract 0 (t104 : Int).toNat, t101.extract (t104 : Int).toNat t101.size, (⟨#[]⟩ : ByteArray))) else (none)) else (none)) else (some (t101, (⟨#[]⟩ : ByteArray), (⟨#[]⟩ : ByteArray)))) = some (r1, r2, r3) := H
  have A14 := mk0 A140
  clear A140
  by_cases c15 : t104 ≥ 0
  ·rw [if_pos c15] at H
   have c15b0 : decide (0 ≤ t104) = true := decide_eq_true c15
   clear c15
   by_cases c16 : 0 ≤ t104
   ·rw [if_pos c16] at H
    have c16b0 := eq_true c16
    have c16b1 : decide (0 ≤ t104) = true := decide_eq_true c16
    clear c16
    by_cases c17 : t104 ≤ (t101.size : Int)
    ·rw [if_pos c17] at H
     have c17b0 := eq_true c17
     have c17b1 : decide (t104 ≤ (t101.size : Int)) = true := decide_eq_true c17
     clear c17
     have c18b0 := eq_true (of_decide_eq_true (by first | (with_reducible assumption) | assumption) : 0 ≤ t104)
     have c19b0 := eq_true (of_decide_eq_true (by first | (with_reducible assumption) | assumption) : t104 ≤ (t101.size : Int))
     simp only [Option.some.injEq, Prod.mk.injEq] at H
     obtain ⟨rfl, rfl, rfl⟩ := H
     go_enter Tryd.func9, Tryd.ntmps9
     go_wp2_with (first | (go_at_call 19; (with_reducible refine (strings_CutSuffix.calls a0 (⟨#[10]⟩ : ByteArray) t101 false _ A2.out).mono ?_); rintro e w20 ⟨rfl, hb⟩; have n0_ := mk0 (below_step (uL HB.out) hb); clear HB; have HB := n0_; clear n0_; (try clear hb); (try clear hb2); (try clear hk); (try clear hi)) | (go_at_call 20; (with_reducible refine (strings_IndexByte.calls t101 33 t104 _ A14.out).mono ?_); rintro e w21 ⟨rfl, hb⟩; have n0_ := mk0 (below_step (uL HB.out) hb); clear HB; have HB := n0_; clear n0_; (try clear hb); (try clear hb2); (try clear hk); (try clear hi)))
     repeat (go_quiet (first | (go_at_call 19; (with_reducible refine (strings_CutSuffix.calls a0 (⟨#[10]⟩ : ByteArray) t101 false _ A2.out).mono ?_); rintro e w20 ⟨rfl, hb⟩; have n0_ := mk0 (below_step (uL HB.out) hb); clear HB; have HB := n0_; clear n0_; (try clear hb); (try clear hb2); (try clear hk); (try clear hi)) | (go_at_call 20; (with_reducible refine (strings_IndexByte.calls t101 33 t104 _ A14.out).mono ?_); rintro e w21 ⟨rfl, hb⟩; have n0_ := mk0 (below_step (uL HB.out) hb); clear HB; have HB := n0_; clear n0_; (try clear hb); (try clear hb2); (try clear hk); (try clear hi))); try go_wp2_with (first | (go_at_call 19; (with_reducible refine (strings_CutSuffix.calls a0 (⟨#[10]⟩ : ByteArray) t101 false _ A2.out).mono ?_); rintro e w20 ⟨rfl, hb⟩; have n0_ := mk0 (below_step (uL HB.out) hb); clear HB; have HB := n0_; clear n0_; (try clear hb); (try clear hb2); (try clear hk); (try clear hi)) | (go_at_call 20; (with_reducible refine (strings_IndexByte.calls t101 33 t104 _ A14.out).mono ?_); rintro e w21 ⟨rfl, hb⟩; have n0_ := mk0 (below_step (uL HB.out) hb); clear HB; have HB := n0_; clear n0_; (try clear hb); (try clear hb2); (try clear hk); (try clear hi))))
     go_ret3
     exact ⟨by first | rfl | (simp [errW_none, errW_some] <;> rfl) | (simp [*, errW_none, errW_some] <;> rfl), uL HB.out⟩
    ·rw [if_neg c17] at H
     exact absurd H (by simp)
   ·rw [if_neg c16] at H
    exact absurd H (by simp)
  ·rw [if_neg c15] at H
   have c15b0 : decide (0 ≤ t104) = false := decide_eq_false c15
   clear c15
   simp only [Option.some.injEq, Prod.mk.injEq] at H
   obtain ⟨rfl, rfl, rfl⟩ := H
   go_enter Tryd.func9, Tryd.ntmps9
   go_wp2_with (first | (go_at_call 19; (with_reducible refine (strings_CutSuffix.calls a0 (⟨#[10]⟩ : ByteArray) t101 false _ A2.out).mono ?_); rintro e w22 ⟨rfl, hb⟩; have n0_ := mk0 (below_step (uL HB.out) hb); clear HB; have HB := n0_; clear n0_; (try clear hb); (try clear hb2); (try clear hk); (try clear hi)) | (go_at_call 20; (with_reducible refine (strings_IndexByte.calls t101 33 t104 _ A14.out).mono ?_); rintro e w23 ⟨rfl, hb⟩; have n0_ := mk0 (below_step (uL HB.out) hb); clear HB; have HB := n0_; clear n0_; (try clear hb); (try clear hb2); (try clear hk); (try clear hi)))
   repeat (go_quiet (first | (go_at_call 19; (with_reducible refine (strings_CutSuffix.calls a0 (⟨#[10]⟩ : ByteArray) t101 false _ A2.out).mono ?_); rintro e w22 ⟨rfl, hb⟩; have n0_ := mk0 (below_step (uL HB.out) hb); clear HB; have HB := n0_; clear n0_; (try clear hb); (try clear hb2); (try clear hk); (try clear hi)) | (go_at_call 20; (with_reducible refine (strings_IndexByte.calls t101 33 t104 _ A14.out).mono ?_); rintro e w23 ⟨rfl, hb⟩; have n0_ := mk0 (below_step (uL HB.out) hb); clear HB; have HB := n0_; clear n0_; (try clear hb); (try clear hb2); (try clear hk); (try clear hi))); try go_wp2_with (first | (go_at_call 19; (with_reducible refine (strings_CutSuffix.calls a0 (⟨#[10]⟩ : ByteArray) t101 false _ A2.out).mono ?_); rintro e w22 ⟨rfl, hb⟩; have n0_ := mk0 (below_step (uL HB.out) hb); clear HB; have HB := n0_; clear n0_; (try clear hb); (try clear hb2); (try clear hk); (try clear hi)) | (go_at_call 20; (with_reducible refine (strings_IndexByte.calls t101 33 t104 _ A14.out).mono ?_); rintro e w23 ⟨rfl, hb⟩; have n0_ := mk0 (below_step (uL HB.out) hb); clear HB; have HB := n0_; clear n0_; (try clear hb); (try clear hb2); (try clear hk); (try clear hi))))
   go_ret3
   exact ⟨by first | rfl | (simp [errW_none, errW_some] <;> rfl) | (simp [*, errW_none, errW_some] <;> rfl), uL HB.out⟩

/-! ### line_Indent: function 11 -/
def line_Indent.f (a0 : ByteArray) : Option (ByteArray) := (strings_TrimLeft.f a0 (⟨#[32, 9]⟩ : ByteArray)).bind fun t105 => (if 0 ≤ (wrap64 ((a0.size : Int) - (t105.size : Int))) then (if (wrap64 ((a0.size : Int) - (t105.size : Int))) ≤ (a0.size : Int) then (some (a0.extract 0 ((wrap64 ((a0.size : Int) - (t105.size : Int))) : Int).toNat)) else (none)) else (none))
set_option maxHeartbeats 8000000 in
set_option maxRecDepth 100000 in
theorem line_Indent.calls (a0 : ByteArray) (r : ByteArray) (w : World) (h : line_Indent.f a0 = some r) :
  Calls Tryd.prog 11 #[.string a0] w fun e w' => e = .returned (.string r) ∧ Below w.heap.size w w' := by
 have HB := mk0 (Below.refl w.heap.size w)
 have H : ((strings_TrimLeft.f a0 (⟨#[32, 9]⟩ : ByteArray)).bind fun t105 => (if 0 ≤ (wrap64 ((a0.size : Int) - (t105.size : Int))) then (if (wrap64 ((a0.size : Int) - (t105.size : Int))) ≤ (a0.size : Int) then (some (a0.extract 0 ((wrap64 ((a0.size : Int) - (t105.size : Int))) : Int).toNat)) else (none)) else (none))) = some r := h
 clear h
 replace H := Option.bind_eq_some_iff.mp H
 obtain ⟨t105, A20, H⟩ := H
 replace H : (if 0 ≤ (wrap64 ((a0.size : Int) - (t105.size : Int))) then (if (wrap64 ((a0.size : Int) - (t105.size : Int))) ≤ (a0.size : Int) then (some (a0.extract 0 ((wrap64 ((a0.size : Int) - (t105.size : Int))) : Int).toNat)) else (none)) else (none)) = some r := H
 have A2 := mk0 A20
 clear A20
 obtain ⟨ji3, hji3⟩ : ∃ j_ : Int, (wrap64 ((a0.size : Int) - (t105.size : Int))) = j_ := ⟨_, rfl⟩
 replace H : (if 0 ≤ (ji3) then (if (ji3) ≤ (a0.size : Int) then (some (a0.extract 0 ((ji3) : Int).toNat)) else (none)) else (none)) = some r := by first | (rw [hji3] at H; exact H) | (simp only [hji3] at H ⊢; exact H)
 (try rw [hji3] at A2)
 have hji3w : (IntKind.i64.wrap ((a0.size : Int) - (t105.size : Int))) = ji3 := (i64_w _).trans hji3
 by_cases c4 : 0 ≤ (ji3)
 ·rw [if_pos c4] at H
  have c4b0 := eq_true c4
  have c4b1 : decide (0 ≤ (ji3)) = true := decide_eq_true c4
  clear c4
  by_cases c5 : (ji3) ≤ (a0.size : Int)
  ·rw [if_pos c5] at H
   have c5b0 := eq_true c5
   have c5b1 : decide ((ji3) ≤ (a0.size : Int)) = true := decide_eq_true c5
   clear c5
   obtain rfl := Option.some.inj H
   go_enter Tryd.func11, Tryd.ntmps11
   go_wp2_with (first | ((with_reducible refine gate_callee (f := 21) rfl ?_); refine goesL_ (some 7) rfl rfl Tryd.func21 (by kernel_rfl) rfl #[.string a0, .string (⟨#[32, 9]⟩ : ByteArray)] rfl (by (try simp only [List.map_toArray, List.map_cons, List.map_nil]); first | done | rfl | (simp only [List.length_drop, List.length_take]; rfl)) ?_; (with_reducible refine (strings_TrimLeft.calls a0 (⟨#[32, 9]⟩ : ByteArray) t105 _ A2.out).mono ?_); rintro e w6 ⟨rfl, hb⟩; refine ⟨_, rfl, ?_⟩; have n0_ := mk0 (below_step (uL HB.out) hb); clear HB; have HB := n0_; clear n0_; (try clear hb); (try clear hb2); (try clear hk); (try clear hi)))
   go_ret
   exact ⟨by first | rfl | (simp [errW_none, errW_some] <;> rfl) | (simp only [← hji3]; first | rfl | (simp [errW_none, errW_some] <;> rfl)) | (simp [*, errW_none, errW_some] <;> rfl), uL HB.out⟩
  ·rw [if_neg c5] at H
   exact absurd H (by simp)
 ·rw [if_neg c4] at H
  exact absurd H (by simp)

end Go.Proofs.YtnecoebdmjkblaaDoor.X
