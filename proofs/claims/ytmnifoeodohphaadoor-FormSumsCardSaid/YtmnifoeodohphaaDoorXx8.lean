-- PRINTED by print.py (a twelfth state) out of the translation. Not trusted: Lean checks it.
import Derived.Test.YtmnifoeodohphaaDoorXx0
import Derived.Test.YtmnifoeodohphaaDoorHandS
namespace Go.Proofs.YtmnifoeodohphaaDoor.X
open Go.Proofs.YtmnifoeodohphaaDoor.Flt Go.Proofs.YtmnifoeodohphaaDoor.H Go.RowKit Go.Proofs.YtmnifoeodohphaaDoorW.PrintWords Go.Proofs.YtmnifoeodohphaaDoorW.PrintLast Go.Proofs.YtmnifoeodohphaaDoorW.PrintMore
attribute [local go_sem] max2_int min2_int max_two min_two max_three min_three max_four min_four   -- for this text's walks alone
set_option linter.unusedVariables false
set_option linter.unusedSimpArgs false

/-! ### lin_piece: function 45 -/
def lin_piece.j0 : Nat → ByteArray → ByteArray → ByteArray → Option (ByteArray × ByteArray)
 | 0, _, _, _ => none
 | k + 1, x1, x6, x7 => if x1.toList = ([] : List UInt8) then (some (x7, x6)) else (if x6.toList = ([49] : List UInt8) then (some (x7, x1)) else (if 1 + x1.size ≤ 9223372036854775807 then (if x6.size + ((⟨#[42]⟩ : ByteArray) ++ x1).size ≤ 9223372036854775807 then (some (x7, x6 ++ ((⟨#[42]⟩ : ByteArray) ++ x1))) else (none)) else (none)))
def lin_piece.f (k : Nat) (a0 : Int) (a1 : ByteArray) : Option (ByteArray × ByteArray) := (strconv_FormatInt.f a0 10).bind fun t101 => (if a0 < 0 then (if 1 ≤ (t101.size : Int) then (lin_piece.j0 k a1 (t101.extract 1 t101.size) (⟨#[45]⟩ : ByteArray)) else (none)) else (lin_piece.j0 k a1 t101 (⟨#[]⟩ : ByteArray)))
theorem lin_piece.mono_l : ∀ k, (∀ y0 y1 y2, LeO (lin_piece.j0 k y0 y1 y2) (lin_piece.j0 (k + 1) y0 y1 y2))
 | 0 => fun _ _ _ r h => by simp [lin_piece.j0] at h
 | k + 1 => by
  have ih0 := lin_piece.mono_l k
  ·intro y0 y1 y2
   unfold lin_piece.j0
   repeat' first
   | (with_reducible exact ih0 _ _ _)
   | (with_reducible exact LeO.refl _)
   | (with_reducible exact LeO.none _)
   | (with_reducible refine LeO.ite ?_ ?_)
   | (with_reducible refine LeO.bind ?_ (fun _ => ?_))
   | exact ih0 _ _ _
   | exact LeO.none _
   | refine LeO.ite ?_ ?_
   | refine LeO.bind ?_ (fun _ => ?_)
theorem lin_piece.mono : ∀ a0 a1 k, LeO (lin_piece.f k a0 a1) (lin_piece.f (k + 1) a0 a1) := by
 intro a0 a1 k
 have ih0 := lin_piece.mono_l k
 unfold lin_piece.f
 repeat' first
   | (with_reducible exact ih0 _ _ _)
   | (with_reducible exact LeO.refl _)
   | (with_reducible exact LeO.none _)
   | (with_reducible refine LeO.ite ?_ ?_)
   | (with_reducible refine LeO.bind ?_ (fun _ => ?_))
   | exact ih0 _ _ _
   | exact LeO.none _
   | refine LeO.ite ?_ ?_
   | refine LeO.bind ?_ (fun _ => ?_)
set_option maxHeartbeats 8000000 in
set_option maxRecDepth 100000 in
theorem lin_piece.calls (k : Nat) (a0 : Int) (a1 : ByteArray) (r1 : ByteArray) (r2 : ByteArray) (w : World) (hG : Glob w) (h : lin_piece.f k a0 a1 = some (r1, r2)) :
  Calls Tryd.prog 45 #[.int .i64 a0, .string a1] w fun e w' => e = .returned (.tuple #[.string r1, .string r2]) ∧ Below w.heap.size w w' := by
 have HG := mk0 hG
 clear hG
 have HB := mk0 (Below.refl w.heap.size w)
 have H : ((strconv_FormatInt.f a0 10).bind fun t101 => (if a0 < 0 then (if 1 ≤ (t101.size : Int) then (lin_piece.j0 k a1 (t101.extract 1 t101.size) (⟨#[45]⟩ : ByteArray)) else (none)) else (lin_piece.j0 k a1 t101 (⟨#[]⟩ : ByteArray)))) = some (r1, r2) := h
 clear h
 replace H := Option.bind_eq_some_iff.mp H
 obtain ⟨t101, A30, H⟩ := H
 have A3 := mk0 A30
 clear A30
 have HC4 := mk0 H
 clear H
 go_enter Tryd.func45, Tryd.ntmps45
 go_upto_if 11 with (first | (go_at_call 58; (with_reducible refine (strconv_FormatInt.calls a0 10 t101 _ ?side1 A3.out).mono ?_); (case side1 => exact Glob.below HG.out (uL HB.out)); rintro e w5 ⟨rfl, hb⟩; replace HB := hbB (uL HB.out) hb; (try clear hb); (try clear hb2); (try clear hk); (try clear hi)))
 repeat (go_quiet (first | (go_at_call 58; (with_reducible refine (strconv_FormatInt.calls a0 10 t101 _ ?side1 A3.out).mono ?_); (case side1 => exact Glob.below HG.out (uL HB.out)); rintro e w5 ⟨rfl, hb⟩; replace HB := hbB (uL HB.out) hb; (try clear hb); (try clear hb2); (try clear hk); (try clear hi))); go_upto_if 11 with (first | (go_at_call 58; (with_reducible refine (strconv_FormatInt.calls a0 10 t101 _ ?side1 A3.out).mono ?_); (case side1 => exact Glob.below HG.out (uL HB.out)); rintro e w5 ⟨rfl, hb⟩; replace HB := hbB (uL HB.out) hb; (try clear hb); (try clear hb2); (try clear hk); (try clear hi))))
 (try simp only [Act.put, List.setIfInBounds_toArray, List.set_cons_zero, List.set_cons_succ])
 go_cut [6, 7] (fun v6 v7 wc => ∃ (kq : Nat) (x6_3 : ByteArray) (x7_3 : ByteArray), v6 = .string x6_3 ∧ v7 = .string x7_3 ∧ Aside0 (lin_piece.j0 kq a1 x6_3 x7_3 = some (r1, r2)) ∧ Aside0 (kq ≤ k) ∧ Aside0 (Below w.heap.size w wc))
 case first =>
  have H := HC4.out; clear HC4
  by_cases c6 : a0 < 0
  ·rw [if_pos c6] at H
   have c6b0 : decide (a0 < 0) = true := decide_eq_true c6; clear c6; (first | rw [c6b0] | (simp only [i64_w, i32_w]; rw [c6b0]) | skip)
   by_cases c7 : 1 ≤ (t101.size : Int)
   ·rw [if_pos c7] at H
    have c7b0 := eq_true c7; have c7b1 : decide (1 ≤ (t101.size : Int)) = true := decide_eq_true c7; clear c7; have H' := mk0 H; clear H; go_wp2; (repeat (go_quiet (fail); try go_wp2))
    go_meet
    case rel => exact ⟨_, (t101.extract 1 t101.size), ((⟨#[45]⟩ : ByteArray)), (by first | rfl | (simp; done) | (simp [*]; done) | (simp [bne_nil_, beq_nil_]; done)), (by first | rfl | (simp; done) | (simp [*]; done) | (simp [bne_nil_, beq_nil_]; done)), H', ⟨by first | omega | exact Nat.le_refl _⟩, ⟨uL HB.out⟩⟩
   ·rw [if_neg c7] at H
    exact absurd H (by simp)
  ·rw [if_neg c6] at H
   have c6b0 : decide (a0 < 0) = false := decide_eq_false c6; clear c6; (first | rw [c6b0] | (simp only [i64_w, i32_w]; rw [c6b0]) | skip); have H' := mk0 H; clear H; go_wp2; (repeat (go_quiet (fail); try go_wp2))
   go_meet
   case rel => exact ⟨_, (t101), ((⟨#[]⟩ : ByteArray)), (by first | rfl | (simp; done) | (simp [*]; done) | (simp [bne_nil_, beq_nil_]; done)), (by first | rfl | (simp; done) | (simp [*]; done) | (simp [bne_nil_, beq_nil_]; done)), H', ⟨by first | omega | exact Nat.le_refl _⟩, ⟨uL HB.out⟩⟩
 case rest =>
  clear HC4; (try clear p2); (try clear c4); (try clear c6); (try clear c6b0); (try clear c7); (try clear c7b0); (try clear c7b1); obtain ⟨kq, x6_3, x7_3, rfl, rfl, HA, HJ3, HB⟩ := hcut
  cases kq with
  | zero => exact absurd HA.out (by simp [lin_piece.j0])
  | succ kj3 =>
   have H := HA.out; clear HA; simp only [lin_piece.j0] at H
   by_cases c8 : a1.toList = ([] : List UInt8)
   ·rw [if_pos c8] at H
    have c8b0 : (a1.toList == ([] : List UInt8)) = true := beq_iff_eq.mpr c8; have c8b1 : (a1.toList != ([] : List UInt8)) = false := bne_eq_false_iff_eq.mpr c8; clear c8; simp only [Option.some.injEq, Prod.mk.injEq] at H; obtain ⟨rfl, rfl⟩ := H; go_wp2; (repeat (go_quiet (fail); try go_wp2))
    go_ret2
    exact ⟨rE, uL HB.out⟩
   ·rw [if_neg c8] at H
    have c8b0 : (a1.toList == ([] : List UInt8)) = false := beq_eq_false_iff_ne.mpr c8; have c8b1 : (a1.toList != ([] : List UInt8)) = true := bne_iff_ne.mpr c8
    by_cases c9 : x6_3.toList = ([49] : List UInt8)
    ·rw [if_pos c9] at H
     have c9b0 : (x6_3.toList == ([49] : List UInt8)) = true := beq_iff_eq.mpr c9; have c9b1 : (x6_3.toList != ([49] : List UInt8)) = false := bne_eq_false_iff_eq.mpr c9; clear c9; simp only [Option.some.injEq, Prod.mk.injEq] at H; obtain ⟨rfl, rfl⟩ := H; go_wp2; (repeat (go_quiet (fail); try go_wp2))
     go_ret2
     exact ⟨rE, uL HB.out⟩
    ·rw [if_neg c9] at H
     have c9b0 : (x6_3.toList == ([49] : List UInt8)) = false := beq_eq_false_iff_ne.mpr c9; have c9b1 : (x6_3.toList != ([49] : List UInt8)) = true := bne_iff_ne.mpr c9
     by_cases c10 : 1 + a1.size ≤ 9223372036854775807
     ·rw [if_pos c10] at H
      have c10b0 := eq_true c10; have c10b1 : decide (1 + a1.size ≤ 9223372036854775807) = true := decide_eq_true c10; (try have c10b2 : (9223372036854775807 < 1 + a1.size) = False := eq_false (Nat.not_lt.2 c10))
      by_cases c11 : x6_3.size + ((⟨#[42]⟩ : ByteArray) ++ a1).size ≤ 9223372036854775807
      ·rw [if_pos c11] at H
       have c11b0 := eq_true c11; have c11b1 : decide (x6_3.size + ((⟨#[42]⟩ : ByteArray) ++ a1).size ≤ 9223372036854775807) = true := decide_eq_true c11; (try have c11b2 : (9223372036854775807 < x6_3.size + ((⟨#[42]⟩ : ByteArray) ++ a1).size) = False := eq_false (Nat.not_lt.2 c11)); simp only [Option.some.injEq, Prod.mk.injEq] at H; obtain ⟨rfl, rfl⟩ := H; go_wp2; (repeat (go_quiet (fail); try go_wp2))
       go_ret2
       exact ⟨rE, uL HB.out⟩
      ·rw [if_neg c11] at H
       exact absurd H (by simp)
     ·rw [if_neg c10] at H
      exact absurd H (by simp)

end Go.Proofs.YtmnifoeodohphaaDoor.X
