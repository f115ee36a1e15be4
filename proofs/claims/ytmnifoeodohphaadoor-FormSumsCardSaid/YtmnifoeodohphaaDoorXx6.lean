-- PRINTED by print.py (a twelfth state) out of the translation. Not trusted: Lean checks it.
import Derived.Test.YtmnifoeodohphaaDoorXx0
import Derived.Test.YtmnifoeodohphaaDoorXx1
import Derived.Test.YtmnifoeodohphaaDoorXx2
import Derived.Test.YtmnifoeodohphaaDoorHandF
namespace Go.Proofs.YtmnifoeodohphaaDoor.X
open Go.Proofs.YtmnifoeodohphaaDoor.Flt Go.Proofs.YtmnifoeodohphaaDoor.H Go.RowKit Go.Proofs.YtmnifoeodohphaaDoorW.PrintWords Go.Proofs.YtmnifoeodohphaaDoorW.PrintLast Go.Proofs.YtmnifoeodohphaaDoorW.PrintMore
attribute [local go_sem] max2_int min2_int max_two min_two max_three min_three max_four min_four   -- for this text's walks alone
set_option linter.unusedVariables false
set_option linter.unusedSimpArgs false

/-! ### lin_At: function 19 -/
def lin_At.l0 : Nat → List Int → Int → List Int → Int → Int → List Int → Int → Option (Int × (List (Flt)))
 | 0, _, _, _, _, _, _, _ => none
 | k + 1, x1, x6, x19, x20, x21, x113000, x113001 => if x21 < x20 then (if 0 ≤ x21 then (if x21 < (x19.length : Int) then (if x21 < (x1.length : Int) then ((num_Mul.f k (rd x19 x21) (rd x1 x21)).bind fun bt118 => (if bt118.2 = true then ((num_Add.f x6 bt118.1).bind fun bt120 => (if bt120.2 = true then (lin_At.l0 k x1 bt120.1 x19 x20 (wrap64 (x21 + 1)) x113000 x113001) else ((lin_fault.f 5).bind fun t122 => (some (0, t122))))) else ((lin_fault.f 5).bind fun t125 => (some (0, t125))))) else (none)) else (none)) else (none)) else ((num_Add.f x6 x113001).bind fun bt128 => (if bt128.2 = true then (some (bt128.1, ([] : List (Flt)))) else ((lin_fault.f 5).bind fun t130 => (some (0, t130)))))
def lin_At.f (k : Nat) (l0_0 : List Int) (a0_1 : Int) (l1 : List Int) : Option (Int × (List (Flt))) := if (l0_0.length : Int) = (l1.length : Int) then (lin_At.l0 k l1 0 l0_0 (l0_0.length : Int) 0 l0_0 a0_1) else ((lin_fault.f 1).bind fun t113 => (some (0, t113)))
theorem lin_At.mono_l : ∀ k, (∀ y0 y1 y2 y3 y4 y5 y6, LeO (lin_At.l0 k y0 y1 y2 y3 y4 y5 y6) (lin_At.l0 (k + 1) y0 y1 y2 y3 y4 y5 y6))
 | 0 => fun _ _ _ _ _ _ _ r h => by simp [lin_At.l0] at h
 | k + 1 => by
  have ih0 := lin_At.mono_l k
  ·intro y0 y1 y2 y3 y4 y5 y6
   unfold lin_At.l0
   repeat' first
   | (with_reducible exact ih0 _ _ _ _ _ _ _)
   | (with_reducible exact num_Mul.mono _ _ _)
   | (with_reducible exact LeO.refl _)
   | (with_reducible exact LeO.none _)
   | (with_reducible refine LeO.ite ?_ ?_)
   | (with_reducible refine LeO.bind ?_ (fun _ => ?_))
   | exact ih0 _ _ _ _ _ _ _
   | exact num_Mul.mono _ _ _
   | exact LeO.none _
   | refine LeO.ite ?_ ?_
   | refine LeO.bind ?_ (fun _ => ?_)
theorem lin_At.mono : ∀ a0 a1 a2 k, LeO (lin_At.f k a0 a1 a2) (lin_At.f (k + 1) a0 a1 a2) := by
 intro a0 a1 a2 k
 have ih0 := lin_At.mono_l k
 unfold lin_At.f
 repeat' first
   | (with_reducible exact ih0 _ _ _ _ _ _ _)
   | (with_reducible exact num_Mul.mono _ _ _)
   | (with_reducible exact LeO.refl _)
   | (with_reducible exact LeO.none _)
   | (with_reducible refine LeO.ite ?_ ?_)
   | (with_reducible refine LeO.bind ?_ (fun _ => ?_))
   | exact ih0 _ _ _ _ _ _ _
   | exact num_Mul.mono _ _ _
   | exact LeO.none _
   | refine LeO.ite ?_ ?_
   | refine LeO.bind ?_ (fun _ => ?_)
set_option maxHeartbeats 8000000 in
set_option maxRecDepth 100000 in
theorem lin_At.calls (k : Nat) (A0_0 : Option Addr) (c0_0 : Nat) (l0_0 : List Int) (a0_1 : Int) (A1 : Option Addr) (c1 : Nat) (l1 : List Int) (r1 : Int) (r2 : List (Flt)) (w : World) (hr0_0 : Kd.C (Kd.int .i64) w A0_0 l0_0.length l0_0) (hc0_0 : l0_0.length ≤ c0_0) (hr1 : Kd.C (Kd.int .i64) w A1 l1.length l1) (hc1 : l1.length ≤ c1) (h : lin_At.f k l0_0 a0_1 l1 = some (r1, r2)) :
  Calls Tryd.prog 19 #[.agg #[.slice A0_0 l0_0.length c0_0, .int .i64 a0_1], .slice A1 l1.length c1] w fun e w' => ∃ v1_ : Value, e = .returned (.tuple #[.int .i64 r1, errV v1_]) ∧ Kd.R fltK 84 w' w.heap.size (fun _ => True) v1_ r2 ∧ Below w.heap.size w w' := by
 have hu24 := Tryd.underlying24
 have HR0_0 := mk0 hr0_0
 have HC0_0 := mk0 hc0_0
 clear hr0_0 hc0_0
 have HR1 := mk0 hr1
 have HC1 := mk0 hc1
 clear hr1 hc1
 have HB := mk0 (Below.refl w.heap.size w)
 have H : (if (l0_0.length : Int) = (l1.length : Int) then (lin_At.l0 k l1 0 l0_0 (l0_0.length : Int) 0 l0_0 a0_1) else ((lin_fault.f 1).bind fun t113 => (some (0, t113)))) = some (r1, r2) := h
 clear h
 by_cases c3 : (l0_0.length : Int) = (l1.length : Int)
 ·rw [if_pos c3] at H
  have c3b0 : ((l0_0.length : Int) == (l1.length : Int)) = true := beq_iff_eq.mpr c3; have c3b1 : ((l0_0.length : Int) != (l1.length : Int)) = false := bne_eq_false_iff_eq.mpr c3; (have c3b2 : (l0_0.length == l1.length) = true := by first | simpa using c3 | (simp at c3 ⊢; omega)); clear c3; have H' := mk0 H; clear H; go_enter Tryd.func19, Tryd.ntmps19
  go_wp2_with (first | ((with_reducible refine gate_dst (N := 2) rfl ?_); refine bxE 2 #[.slice A0_0 l0_0.length c0_0, .int .i64 a0_1] 24 ?_; intro gb112 hg w4 hbox hb; have BK112 := mk0 (hbox); have GW112 := gE (uL HB.out) hg; have GE112 := gE (uL HB.out) hg; replace HB := hbB (uL HB.out) hb; clear hb hbox hg; obtain ⟨hcz5_0, hcz5_1, hfz5_0, hfz5_1⟩ := cL2 BK112))
  go_loopg [6, 21] k (fun kq v6 v21 w' => ∃ (x6_1 : Int) (x21_1 : Int), v6 = .int .i64 x6_1 ∧ v21 = .int .i64 x21_1 ∧ Aside0 (lin_At.l0 kq l1 x6_1 l0_0 (l0_0.length : Int) x21_1 l0_0 a0_1 = some (r1, r2)) ∧ Aside0 (kq ≤ k) ∧ Aside0 (w'.heap[gb112]? = some (.cells #[(.slice A0_0 l0_0.length c0_0), .int .i64 a0_1] 24 (0, 0))) ∧ Aside0 (Below w.heap.size w w'))
  case atStart => exact ⟨(0), (0), (by first | rfl | (simp; done) | (simp [*]; done) | (simp [bne_nil_, beq_nil_]; done)), (by first | rfl | (simp; done) | (simp [*]; done) | (simp [bne_nil_, beq_nil_]; done)), H', ⟨Nat.le_refl _⟩, ⟨uB BK112.out⟩, ⟨bH⟩⟩
  case round =>
   clear H'; (try clear c1); (try clear p2); (try clear c3); (try clear c3b0); (try clear c3b1); (try clear c3b2); (try clear hcz5_0); (try clear hcz5_1); (try clear hfz5_0); (try clear hfz5_1); obtain ⟨x6_1, x21_1, rfl, rfl, HA, HK1, BK112, HB⟩ := hrel
   cases gk with
   | zero => exact absurd HA.out (by simp [lin_At.l0])
   | succ k1 =>
    have H := HA.out; clear HA; simp only [lin_At.l0] at H
    by_cases c6 : x21_1 < (l0_0.length : Int)
    ·rw [if_pos c6] at H
     have c6b0 : decide (x21_1 < (l0_0.length : Int)) = true := decide_eq_true c6; clear c6
     by_cases c7 : 0 ≤ x21_1
     ·rw [if_pos c7] at H
      have c7b0 : decide (0 ≤ x21_1) = true := decide_eq_true c7; clear c7
      by_cases c8 : x21_1 < (l0_0.length : Int)
      ·rw [if_pos c8] at H
       have c8b0 : decide (x21_1 < (l0_0.length : Int)) = true := decide_eq_true c8; clear c8
       by_cases c9 : x21_1 < (l1.length : Int)
       ·rw [if_pos c9] at H
        have c9b0 : decide (x21_1 < (l1.length : Int)) = true := decide_eq_true c9; clear c9; replace H := Option.bind_eq_some_iff.mp H; obtain ⟨⟨t118, t119⟩, A100, H⟩ := H; dsimp only at H; have A10 := mk0 A100; clear A100
        by_cases c11 : t119 = true
        ·subst c11
         (have H1 : ((num_Add.f x6_1 t118).bind fun bt120 => (if bt120.2 = true then (lin_At.l0 k1 l1 bt120.1 l0_0 (l0_0.length : Int) (wrap64 (x21_1 + 1)) l0_0 a0_1) else ((lin_fault.f 5).bind fun t122 => (some (0, t122))))) = some (r1, r2) := by rw [if_pos rfl] at H; exact H); clear H; have H := H1; clear H1; replace H := Option.bind_eq_some_iff.mp H; obtain ⟨⟨t120, t121⟩, A120, H⟩ := H; dsimp only at H; have A12 := mk0 A120; clear A120
         by_cases c13 : t121 = true
         ·subst c13
          (have H1 : (lin_At.l0 k1 l1 t120 l0_0 (l0_0.length : Int) (wrap64 (x21_1 + 1)) l0_0 a0_1) = some (r1, r2) := by rw [if_pos rfl] at H; exact H); clear H; have H := H1; clear H1; have H' := mk0 H; clear H; have p116 : 0 ≤ (x21_1 : Int) := of_decide_eq_true (by first | (with_reducible assumption) | assumption); have q116 : x21_1 < (l0_0.length : Int) := of_decide_eq_true (by first | (with_reducible assumption) | assumption); obtain ⟨ad116, e116, hx116_0⟩ := Kd.at_int HR0_0.out x21_1 p116 q116
          cases e116
          replace hx116_0 := (HB.out.cell (World.block_lt_of_cell? w _ hx116_0)).trans hx116_0; replace p116 := eq_true p116; replace q116 := eq_true q116; have p117 : 0 ≤ (x21_1 : Int) := of_decide_eq_true (by first | (with_reducible assumption) | assumption); have q117 : x21_1 < (l1.length : Int) := of_decide_eq_true (by first | (with_reducible assumption) | assumption); obtain ⟨ad117, e117, hx117_0⟩ := Kd.at_int HR1.out x21_1 p117 q117
          cases e117
          replace hx117_0 := (HB.out.cell (World.block_lt_of_cell? w _ hx117_0)).trans hx117_0; replace p117 := eq_true p117; replace q117 := eq_true q117
          go_wp2_with (first | ((with_reducible refine gate_dst (N := 32) rfl ?_); refine gsM (some 32) Tryd.func39 #[.int .i64 (rd l0_0 x21_1), .int .i64 (rd l1 x21_1)] ?_; (with_reducible refine (num_Mul.calls k1 (rd l0_0 x21_1) (rd l1 x21_1) t118 true _ A10.out).mono ?_); rintro e w' ⟨rfl, ⟨nd, rfl⟩⟩; refine ⟨_, rfl, ?_⟩) | ((with_reducible refine gate_dst (N := 39) rfl ?_); refine gsM (some 39) Tryd.func33 #[.int .i64 x6_1, .int .i64 t118] ?_; (with_reducible refine (num_Add.calls x6_1 t118 t120 true _ A12.out).mono ?_); rintro e w' ⟨rfl, ⟨nd, rfl⟩⟩; refine ⟨_, rfl, ?_⟩))
          go_roundg k1
          case measure => have := HK1.out; omega
          case rel => exact ⟨(t120), (wrap64 (x21_1 + 1)), (by first | rfl | (simp; done) | (simp [*]; done) | (simp [bne_nil_, beq_nil_]; done)), (by first | rfl | (simp; done) | (simp [*]; done) | (simp [bne_nil_, beq_nil_]; done)), H', ⟨by have := HK1.out; omega⟩, ⟨uB BK112.out⟩, ⟨bH⟩⟩
         ·replace c13 := Bool.eq_false_iff.mpr c13
          subst c13; (have H1 : ((lin_fault.f 5).bind fun t122 => (some (0, t122))) = some (r1, r2) := by rw [if_neg (show ¬ (false = true) by decide)] at H; exact H); clear H; have H := H1; clear H1; replace H := Option.bind_eq_some_iff.mp H; obtain ⟨t122, A140, H⟩ := H; have A14 := mk0 A140; clear A140; simp only [Option.some.injEq, Prod.mk.injEq] at H; obtain ⟨rfl, rfl⟩ := H; have p116 : 0 ≤ (x21_1 : Int) := of_decide_eq_true (by first | (with_reducible assumption) | assumption); have q116 : x21_1 < (l0_0.length : Int) := of_decide_eq_true (by first | (with_reducible assumption) | assumption); obtain ⟨ad116, e116, hx116_0⟩ := Kd.at_int HR0_0.out x21_1 p116 q116
          cases e116
          replace hx116_0 := (HB.out.cell (World.block_lt_of_cell? w _ hx116_0)).trans hx116_0; replace p116 := eq_true p116; replace q116 := eq_true q116; have p117 : 0 ≤ (x21_1 : Int) := of_decide_eq_true (by first | (with_reducible assumption) | assumption); have q117 : x21_1 < (l1.length : Int) := of_decide_eq_true (by first | (with_reducible assumption) | assumption); obtain ⟨ad117, e117, hx117_0⟩ := Kd.at_int HR1.out x21_1 p117 q117
          cases e117
          replace hx117_0 := (HB.out.cell (World.block_lt_of_cell? w _ hx117_0)).trans hx117_0; replace p117 := eq_true p117; replace q117 := eq_true q117
          go_wp2_with (first | ((with_reducible refine gate_dst (N := 32) rfl ?_); refine gsM (some 32) Tryd.func39 #[.int .i64 (rd l0_0 x21_1), .int .i64 (rd l1 x21_1)] ?_; (with_reducible refine (num_Mul.calls k1 (rd l0_0 x21_1) (rd l1 x21_1) t118 true _ A10.out).mono ?_); rintro e w' ⟨rfl, ⟨nd, rfl⟩⟩; refine ⟨_, rfl, ?_⟩) | ((with_reducible refine gate_dst (N := 39) rfl ?_); refine gsM (some 39) Tryd.func33 #[.int .i64 x6_1, .int .i64 t118] ?_; (with_reducible refine (num_Add.calls x6_1 t118 t120 false _ A12.out).mono ?_); rintro e w' ⟨rfl, ⟨nd, rfl⟩⟩; refine ⟨_, rfl, ?_⟩) | ((with_reducible refine gate_dst (N := 44) rfl ?_); refine gsM (some 44) Tryd.func30 #[.int .i64 5] ?_; (with_reducible refine (lin_fault.calls 5 t122 _ A14.out).mono ?_); rintro e w15 ⟨v123, rfl, ho0, hb⟩; refine ⟨_, rfl, ?_⟩; have HO124 := mk0 (Kd.R_lower ho0 (below_size bH)); replace BK112 := bB BK112 hb; replace HB := hbB bH hb; (try clear hb); (try clear hb2); (try clear hk); (try clear hi); (try clear ho0); (first | (have EHO124 := cmpV_no HO124.out (by with_reducible assumption)) | (have EHO124 := cmpV_yes HO124.out (by with_reducible assumption)) | skip)))
          go_ret2
          exact ⟨(v123), rE, uR HO124.out, bH⟩
        ·replace c11 := Bool.eq_false_iff.mpr c11
         subst c11; (have H1 : ((lin_fault.f 5).bind fun t125 => (some (0, t125))) = some (r1, r2) := by rw [if_neg (show ¬ (false = true) by decide)] at H; exact H); clear H; have H := H1; clear H1; replace H := Option.bind_eq_some_iff.mp H; obtain ⟨t125, A160, H⟩ := H; have A16 := mk0 A160; clear A160; simp only [Option.some.injEq, Prod.mk.injEq] at H; obtain ⟨rfl, rfl⟩ := H; have p116 : 0 ≤ (x21_1 : Int) := of_decide_eq_true (by first | (with_reducible assumption) | assumption); have q116 : x21_1 < (l0_0.length : Int) := of_decide_eq_true (by first | (with_reducible assumption) | assumption); obtain ⟨ad116, e116, hx116_0⟩ := Kd.at_int HR0_0.out x21_1 p116 q116
         cases e116
         replace hx116_0 := (HB.out.cell (World.block_lt_of_cell? w _ hx116_0)).trans hx116_0; replace p116 := eq_true p116; replace q116 := eq_true q116; have p117 : 0 ≤ (x21_1 : Int) := of_decide_eq_true (by first | (with_reducible assumption) | assumption); have q117 : x21_1 < (l1.length : Int) := of_decide_eq_true (by first | (with_reducible assumption) | assumption); obtain ⟨ad117, e117, hx117_0⟩ := Kd.at_int HR1.out x21_1 p117 q117
         cases e117
         replace hx117_0 := (HB.out.cell (World.block_lt_of_cell? w _ hx117_0)).trans hx117_0; replace p117 := eq_true p117; replace q117 := eq_true q117
         go_wp2_with (first | ((with_reducible refine gate_dst (N := 32) rfl ?_); refine gsM (some 32) Tryd.func39 #[.int .i64 (rd l0_0 x21_1), .int .i64 (rd l1 x21_1)] ?_; (with_reducible refine (num_Mul.calls k1 (rd l0_0 x21_1) (rd l1 x21_1) t118 false _ A10.out).mono ?_); rintro e w' ⟨rfl, ⟨nd, rfl⟩⟩; refine ⟨_, rfl, ?_⟩) | ((with_reducible refine gate_dst (N := 44) rfl ?_); refine gsM (some 44) Tryd.func30 #[.int .i64 5] ?_; (with_reducible refine (lin_fault.calls 5 t125 _ A16.out).mono ?_); rintro e w17 ⟨v126, rfl, ho0, hb⟩; refine ⟨_, rfl, ?_⟩; have HO127 := mk0 (Kd.R_lower ho0 (below_size bH)); replace BK112 := bB BK112 hb; replace HB := hbB bH hb; (try clear hb); (try clear hb2); (try clear hk); (try clear hi); (try clear ho0); (first | (have EHO127 := cmpV_no HO127.out (by with_reducible assumption)) | (have EHO127 := cmpV_yes HO127.out (by with_reducible assumption)) | skip)))
         go_ret2
         exact ⟨(v126), rE, uR HO127.out, bH⟩
       ·rw [if_neg c9] at H
        exact absurd H (by simp)
      ·rw [if_neg c8] at H
       exact absurd H (by simp)
     ·rw [if_neg c7] at H
      exact absurd H (by simp)
    ·rw [if_neg c6] at H
     have c6b0 : decide (x21_1 < (l0_0.length : Int)) = false := decide_eq_false c6; clear c6; replace H := Option.bind_eq_some_iff.mp H; obtain ⟨⟨t128, t129⟩, A180, H⟩ := H; dsimp only at H; have A18 := mk0 A180; clear A180
     by_cases c19 : t129 = true
     ·subst c19
      (have H1 : (some (t128, ([] : List (Flt)))) = some (r1, r2) := by rw [if_pos rfl] at H; exact H); clear H; have H := H1; clear H1; simp only [Option.some.injEq, Prod.mk.injEq] at H; obtain ⟨rfl, rfl⟩ := H; obtain ⟨hcz20_0, hcz20_1, hfz20_0, hfz20_1⟩ := cL2 BK112
      go_wp2_with (first | ((with_reducible refine gate_dst (N := 50) rfl ?_); refine gsM (some 50) Tryd.func33 #[.int .i64 x6_1, .int .i64 a0_1] ?_; (with_reducible refine (num_Add.calls x6_1 a0_1 t128 true _ A18.out).mono ?_); rintro e w' ⟨rfl, ⟨nd, rfl⟩⟩; refine ⟨_, rfl, ?_⟩))
      go_ret2
      exact ⟨(.slice none 0 0), rE, nK, bH⟩
     ·replace c19 := Bool.eq_false_iff.mpr c19
      subst c19; (have H1 : ((lin_fault.f 5).bind fun t130 => (some (0, t130))) = some (r1, r2) := by rw [if_neg (show ¬ (false = true) by decide)] at H; exact H); clear H; have H := H1; clear H1; replace H := Option.bind_eq_some_iff.mp H; obtain ⟨t130, A210, H⟩ := H; have A21 := mk0 A210; clear A210; simp only [Option.some.injEq, Prod.mk.injEq] at H; obtain ⟨rfl, rfl⟩ := H; obtain ⟨hcz22_0, hcz22_1, hfz22_0, hfz22_1⟩ := cL2 BK112
      go_wp2_with (first | ((with_reducible refine gate_dst (N := 50) rfl ?_); refine gsM (some 50) Tryd.func33 #[.int .i64 x6_1, .int .i64 a0_1] ?_; (with_reducible refine (num_Add.calls x6_1 a0_1 t128 false _ A18.out).mono ?_); rintro e w' ⟨rfl, ⟨nd, rfl⟩⟩; refine ⟨_, rfl, ?_⟩) | ((with_reducible refine gate_dst (N := 55) rfl ?_); refine gsM (some 55) Tryd.func30 #[.int .i64 5] ?_; (with_reducible refine (lin_fault.calls 5 t130 _ A21.out).mono ?_); rintro e w23 ⟨v131, rfl, ho0, hb⟩; refine ⟨_, rfl, ?_⟩; have HO132 := mk0 (Kd.R_lower ho0 (below_size bH)); replace BK112 := bB BK112 hb; replace HB := hbB bH hb; (try clear hb); (try clear hb2); (try clear hk); (try clear hi); (try clear ho0); (first | (have EHO132 := cmpV_no HO132.out (by with_reducible assumption)) | (have EHO132 := cmpV_yes HO132.out (by with_reducible assumption)) | skip)))
      go_ret2
      exact ⟨(v131), rE, uR HO132.out, bH⟩
 ·rw [if_neg c3] at H
  have c3b0 : ((l0_0.length : Int) == (l1.length : Int)) = false := beq_eq_false_iff_ne.mpr c3; have c3b1 : ((l0_0.length : Int) != (l1.length : Int)) = true := bne_iff_ne.mpr c3; (have c3b2 : (l0_0.length == l1.length) = false := by first | simpa using c3 | (simp at c3 ⊢; omega)); replace H := Option.bind_eq_some_iff.mp H; obtain ⟨t113, A240, H⟩ := H; have A24 := mk0 A240; clear A240; simp only [Option.some.injEq, Prod.mk.injEq] at H; obtain ⟨rfl, rfl⟩ := H; go_enter Tryd.func19, Tryd.ntmps19
  go_wp2_with (first | ((with_reducible refine gate_dst (N := 2) rfl ?_); refine bxE 2 #[.slice A0_0 l0_0.length c0_0, .int .i64 a0_1] 24 ?_; intro gb112 hg w25 hbox hb; have BK112 := mk0 (hbox); have GW112 := gE (uL HB.out) hg; have GE112 := gE (uL HB.out) hg; replace HB := hbB (uL HB.out) hb; clear hb hbox hg; obtain ⟨hcz26_0, hcz26_1, hfz26_0, hfz26_1⟩ := cL2 BK112) | ((with_reducible refine gate_dst (N := 17) rfl ?_); refine gsM (some 17) Tryd.func30 #[.int .i64 1] ?_; (with_reducible refine (lin_fault.calls 1 t113 _ A24.out).mono ?_); rintro e w27 ⟨v114, rfl, ho0, hb⟩; refine ⟨_, rfl, ?_⟩; have HO115 := mk0 (Kd.R_lower ho0 (below_size bH)); replace BK112 := bB BK112 hb; replace HB := hbB bH hb; (try clear hb); (try clear hb2); (try clear hk); (try clear hi); (try clear ho0); (first | (have EHO115 := cmpV_no HO115.out (by with_reducible assumption)) | (have EHO115 := cmpV_yes HO115.out (by with_reducible assumption)) | skip)))
  go_ret2
  exact ⟨(v114), rE, uR HO115.out, bH⟩

end Go.Proofs.YtmnifoeodohphaaDoor.X
