-- PRINTED by print.py (a twelfth state) out of the translation. Not trusted: Lean checks it.
import Derived.Test.YtmglfimdhbooeaaXx0
import Derived.Test.YtmglfimdhbooeaaXx5
import Derived.Test.YtmglfimdhbooeaaXx6
import Derived.Test.YtmglfimdhbooeaaXx8
namespace Go.Proofs.Ytmglfimdhbooeaa.X
open Go.Proofs.Ytmglfimdhbooeaa.Flt Go.Proofs.Ytmglfimdhbooeaa.H Go.RowKit Go.Proofs.YtmglfimdhbooeaaW.PrintWords Go.Proofs.YtmglfimdhbooeaaW.PrintLast Go.Proofs.YtmglfimdhbooeaaW.PrintMore
attribute [local go_sem] max2_int min2_int max_two min_two max_three min_three max_four min_four   -- for this text's walks alone
set_option linter.unusedVariables false
set_option linter.unusedSimpArgs false

/-! ### furrowlaw15_Good: function 18 -/
def furrowlaw15_Good.f (k : Nat) (a0_0 : Int) (l0_1 : List (S45)) (l0_2 : List (S45)) : Option (Bool) := (furrowlaw15_Few.f k a0_0 l0_1 l0_2).bind fun t403 => (if t403 = true then ((furrowlaw15_Of.f k a0_0 l0_1 l0_2).bind fun bt404 => ((furrowref20_Check.f k bt404.1 bt404.2.1 bt404.2.2).bind fun bt411 => (some (bt411.2 == 0)))) else (some false))
theorem furrowlaw15_Good.mono : ∀ a0 a1 a2 k, LeO (furrowlaw15_Good.f k a0 a1 a2) (furrowlaw15_Good.f (k + 1) a0 a1 a2) := by
 intro a0 a1 a2 k
 unfold furrowlaw15_Good.f
 repeat' first
   | (with_reducible exact furrowlaw15_Few.mono _ _ _ _)
   | (with_reducible exact furrowlaw15_Of.mono _ _ _ _)
   | (with_reducible exact furrowref20_Check.mono _ _ _ _)
   | (with_reducible exact LeO.refl _)
   | (with_reducible exact LeO.none _)
   | (with_reducible refine LeO.ite ?_ ?_)
   | (with_reducible refine LeO.bind ?_ (fun _ => ?_))
   | exact furrowlaw15_Few.mono _ _ _ _
   | exact furrowlaw15_Of.mono _ _ _ _
   | exact furrowref20_Check.mono _ _ _ _
   | exact LeO.none _
   | refine LeO.ite ?_ ?_
   | refine LeO.bind ?_ (fun _ => ?_)
theorem field63_1_ (a0 a1 : Value) (w : World) : Sem.run Try.prog (Instr.field 63 (Value.agg #[a0, a1]) 1) w = Result.ok a1 w := by kernel_rfl
attribute [local go_sem] field63_1_
set_option maxHeartbeats 8000000 in
set_option maxRecDepth 100000 in
theorem furrowlaw15_Good.calls (k : Nat) (a0_0 : Int) (A0_1 : Option Addr) (c0_1 : Nat) (l0_1 : List (S45)) (A0_2 : Option Addr) (c0_2 : Nat) (l0_2 : List (S45)) (r : Bool) (w : World) (hr0_1 : Kd.C k45 w A0_1 l0_1.length l0_1) (hc0_1 : l0_1.length ≤ c0_1) (hr0_2 : Kd.C k45 w A0_2 l0_2.length l0_2) (hc0_2 : l0_2.length ≤ c0_2) (h : furrowlaw15_Good.f k a0_0 l0_1 l0_2 = some r) :
  Calls Try.prog 18 #[.agg #[.int .i64 a0_0, .slice A0_1 l0_1.length c0_1, .slice A0_2 l0_2.length c0_2]] w fun e w' => e = .returned (.bool r) ∧ Below w.heap.size w w' := by
 have hu24 := Try.underlying24
 have HR0_1 := mk0 hr0_1
 have HC0_1 := mk0 hc0_1
 clear hr0_1 hc0_1
 have HR0_2 := mk0 hr0_2
 have HC0_2 := mk0 hc0_2
 clear hr0_2 hc0_2
 have HB := mk0 (Below.refl w.heap.size w)
 have H : ((furrowlaw15_Few.f k a0_0 l0_1 l0_2).bind fun t403 => (if t403 = true then ((furrowlaw15_Of.f k a0_0 l0_1 l0_2).bind fun bt404 => ((furrowref20_Check.f k bt404.1 bt404.2.1 bt404.2.2).bind fun bt411 => (some (bt411.2 == 0)))) else (some false))) = some r := h
 clear h
 replace H := Option.bind_eq_some_iff.mp H
 obtain ⟨t403, A20, H⟩ := H
 have A2 := mk0 A20
 clear A20
 by_cases c3 : t403 = true
 ·subst c3
  (have H1 : ((furrowlaw15_Of.f k a0_0 l0_1 l0_2).bind fun bt404 => ((furrowref20_Check.f k bt404.1 bt404.2.1 bt404.2.2).bind fun bt411 => (some (bt411.2 == 0)))) = some r := by rw [if_pos rfl] at H; exact H); clear H; have H := H1; clear H1; replace H := Option.bind_eq_some_iff.mp H; obtain ⟨⟨t404, t405, t408⟩, A40, H⟩ := H; dsimp only at H; have A4 := mk0 A40; clear A40; replace H := Option.bind_eq_some_iff.mp H; obtain ⟨⟨t411, t414⟩, A50, H⟩ := H; dsimp only at H; have A5 := mk0 A50; clear A50; obtain rfl := Option.some.inj H; have hu63 := Try.underlying63; go_enter Try.func18, Try.ntmps18
  go_wp2_with (first | ((with_reducible refine gate_dst (N := 1) rfl ?_); refine bxE 1 #[.int .i64 a0_0, .slice A0_1 l0_1.length c0_1, .slice A0_2 l0_2.length c0_2] 24 ?_; intro gb402 hg w6 hbox hb; have BK402 := mk0 (hbox); have GW402 := gE (uL HB.out) hg; have GE402 := gE (uL HB.out) hg; replace HB := hbB (uL HB.out) hb; clear hb hbox hg; obtain ⟨hcz7_0, hcz7_1, hcz7_2, hfz7_0, hfz7_1, hfz7_2⟩ := cL3 BK402) | ((with_reducible refine gate_dst (N := 4) rfl ?_); refine gsM (some 4) Try.func30 #[.agg #[.int .i64 a0_0, .slice A0_1 l0_1.length c0_1, .slice A0_2 l0_2.length c0_2]] ?_; (with_reducible refine (furrowlaw15_Few.calls k a0_0 _ _ l0_1 _ _ l0_2 true _ ?side1 ?side2 ?side3 ?side4 A2.out).mono ?_); (case side1 => exact uC (Kd.C_below HR0_1.out HB.out)); (case side2 => exact HC0_1.out); (case side3 => exact uC (Kd.C_below HR0_2.out HB.out)); (case side4 => exact HC0_2.out); rintro e w8 ⟨rfl, hb⟩; refine ⟨_, rfl, ?_⟩; replace BK402 := bB BK402 hb; replace HB := hbB bH hb; (try clear hb); obtain ⟨hcz9_0, hcz9_1, hcz9_2, hfz9_0, hfz9_1, hfz9_2⟩ := cL3 BK402) | (go_at_call 9; (with_reducible refine (furrowlaw15_Of.calls k a0_0 (fun k_ => k_ < w.heap.size) _ _ l0_1 (fun k_ => k_ < w.heap.size) _ _ l0_2 t404 t405 t408 _ ?side1 ?side2 A4.out).mono ?_); (case side1 => exact Kd.V_mk HC0_1.out (Kd.F_below (Kd.C_F k45_heap HR0_1.out) bH)); (case side2 => exact Kd.V_mk HC0_2.out (Kd.F_below (Kd.C_F k45_heap HR0_2.out) bH)); rintro e w10 ⟨v406, v409, rfl, ho0, ho1, hb⟩; have HO407 := mk0 (Kd.N_lower (Kd.N_mono (ok' := fun k_ => some k_ ≠ (v409 : Value).ownBlock ∧ k_ ≠ gb402) ho0 (fun k_ hk_ => ⟨hk_.2, Or.elim hk_.1 (fun hs_ => Or.elim hs_ (fun hs_ => fun e_ => Nat.not_le.2 hs_ (by rw [e_]; exact GW402.out)) (fun hs_ => fun e_ => Nat.not_le.2 hs_ (by rw [e_]; exact GW402.out))) (fun hn_ => (Kd.freshB (g := gb402) (o := .cells #[.int .i64 a0_0, .slice A0_1 l0_1.length c0_1, .slice A0_2 l0_2.length c0_2] 24 (0, 0)) (uB BK402.out) k_ hn_))⟩)) (below_size bH)); have HO410 := mk0 (Kd.N_lower (Kd.N_mono (ok' := fun k_ => some k_ ≠ (v406 : Value).ownBlock ∧ k_ ≠ gb402) ho1 (fun k_ hk_ => ⟨hk_.2, Or.elim hk_.1 (fun hs_ => Or.elim hs_ (fun hs_ => fun e_ => Nat.not_le.2 hs_ (by rw [e_]; exact GW402.out)) (fun hs_ => fun e_ => Nat.not_le.2 hs_ (by rw [e_]; exact GW402.out))) (fun hn_ => (Kd.freshB (g := gb402) (o := .cells #[.int .i64 a0_0, .slice A0_1 l0_1.length c0_1, .slice A0_2 l0_2.length c0_2] 24 (0, 0)) (uB BK402.out) k_ hn_))⟩)) (below_size bH)); replace BK402 := bB BK402 hb; replace HB := hbB bH hb; (try clear hb); (try clear ho0); (try clear ho1); obtain ⟨Ao11, co11, eo11⟩ := Kd.N_slice HO407.out; subst eo11; obtain ⟨Ao12, co12, eo12⟩ := Kd.N_slice HO410.out; subst eo12) | (go_at_call 31; (with_reducible refine (furrowref20_Check.calls k t404 _ _ t405 _ _ t408 t411 t414 _ ?side1 ?side2 ?side3 ?side4 A5.out).mono ?_); (case side1 => exact uC ((Kd.N_reads' HO407.out).2.2)); (case side2 => exact (Kd.N_reads' HO407.out).2.1); (case side3 => exact uC ((Kd.N_reads' HO410.out).2.2)); (case side4 => exact (Kd.N_reads' HO410.out).2.1); rintro e w13 ⟨v412, rfl, ho0, hb⟩; replace HO407 := mk0 (Kd.N_elder' (uN HO407.out) (Kd.R_base ho0) hb); replace HO410 := mk0 (Kd.N_elder' (uN HO410.out) (Kd.R_base ho0) hb); have HO413 := mk0 (Kd.R_lower ho0 (below_size bH)); replace BK402 := bB BK402 hb; replace HB := hbB bH hb; (try clear hb); (try clear ho0)))
  go_ret; exact ⟨rE, bH⟩
 ·replace c3 := Bool.eq_false_iff.mpr c3
  subst c3; (have H1 : (some false) = some r := by rw [if_neg (show ¬ (false = true) by decide)] at H; exact H); clear H; have H := H1; clear H1; obtain rfl := Option.some.inj H; have hu63 := Try.underlying63; go_enter Try.func18, Try.ntmps18
  go_wp2_with (first | ((with_reducible refine gate_dst (N := 1) rfl ?_); refine bxE 1 #[.int .i64 a0_0, .slice A0_1 l0_1.length c0_1, .slice A0_2 l0_2.length c0_2] 24 ?_; intro gb402 hg w14 hbox hb; have BK402 := mk0 (hbox); have GW402 := gE (uL HB.out) hg; have GE402 := gE (uL HB.out) hg; replace HB := hbB (uL HB.out) hb; clear hb hbox hg; obtain ⟨hcz15_0, hcz15_1, hcz15_2, hfz15_0, hfz15_1, hfz15_2⟩ := cL3 BK402) | ((with_reducible refine gate_dst (N := 4) rfl ?_); refine gsM (some 4) Try.func30 #[.agg #[.int .i64 a0_0, .slice A0_1 l0_1.length c0_1, .slice A0_2 l0_2.length c0_2]] ?_; (with_reducible refine (furrowlaw15_Few.calls k a0_0 _ _ l0_1 _ _ l0_2 false _ ?side1 ?side2 ?side3 ?side4 A2.out).mono ?_); (case side1 => exact uC (Kd.C_below HR0_1.out HB.out)); (case side2 => exact HC0_1.out); (case side3 => exact uC (Kd.C_below HR0_2.out HB.out)); (case side4 => exact HC0_2.out); rintro e w16 ⟨rfl, hb⟩; refine ⟨_, rfl, ?_⟩; replace BK402 := bB BK402 hb; replace HB := hbB bH hb; (try clear hb); ))
  go_ret; exact ⟨rE, bH⟩

/-! ### furrowlaw16_few: function 8 -/
def furrowlaw16_few.f (k : Nat) (a0_0 : Int) (l0_1 : List (S45)) (l0_2 : List (S45)) : Option (Bool) := (furrowlaw15_Good.f k a0_0 l0_1 l0_2).bind fun t416 => (if t416 = true then (if a0_0 ≤ 4 then (if (l0_2.length : Int) ≤ 12 then (some (decide ((l0_1.length : Int) ≤ 4))) else (some false)) else (some false)) else (some false))
theorem furrowlaw16_few.mono : ∀ a0 a1 a2 k, LeO (furrowlaw16_few.f k a0 a1 a2) (furrowlaw16_few.f (k + 1) a0 a1 a2) := by
 intro a0 a1 a2 k
 unfold furrowlaw16_few.f
 repeat' first
   | (with_reducible exact furrowlaw15_Good.mono _ _ _ _)
   | (with_reducible exact LeO.refl _)
   | (with_reducible exact LeO.none _)
   | (with_reducible refine LeO.ite ?_ ?_)
   | (with_reducible refine LeO.bind ?_ (fun _ => ?_))
   | exact furrowlaw15_Good.mono _ _ _ _
   | exact LeO.none _
   | refine LeO.ite ?_ ?_
   | refine LeO.bind ?_ (fun _ => ?_)
set_option maxHeartbeats 8000000 in
set_option maxRecDepth 100000 in
theorem furrowlaw16_few.calls (k : Nat) (a0_0 : Int) (A0_1 : Option Addr) (c0_1 : Nat) (l0_1 : List (S45)) (A0_2 : Option Addr) (c0_2 : Nat) (l0_2 : List (S45)) (r : Bool) (w : World) (hr0_1 : Kd.C k45 w A0_1 l0_1.length l0_1) (hc0_1 : l0_1.length ≤ c0_1) (hr0_2 : Kd.C k45 w A0_2 l0_2.length l0_2) (hc0_2 : l0_2.length ≤ c0_2) (h : furrowlaw16_few.f k a0_0 l0_1 l0_2 = some r) :
  Calls Try.prog 8 #[.agg #[.int .i64 a0_0, .slice A0_1 l0_1.length c0_1, .slice A0_2 l0_2.length c0_2]] w fun e w' => e = .returned (.bool r) ∧ Below w.heap.size w w' := by
 have hu24 := Try.underlying24
 have HR0_1 := mk0 hr0_1
 have HC0_1 := mk0 hc0_1
 clear hr0_1 hc0_1
 have HR0_2 := mk0 hr0_2
 have HC0_2 := mk0 hc0_2
 clear hr0_2 hc0_2
 have HB := mk0 (Below.refl w.heap.size w)
 have H : ((furrowlaw15_Good.f k a0_0 l0_1 l0_2).bind fun t416 => (if t416 = true then (if a0_0 ≤ 4 then (if (l0_2.length : Int) ≤ 12 then (some (decide ((l0_1.length : Int) ≤ 4))) else (some false)) else (some false)) else (some false))) = some r := h
 clear h
 replace H := Option.bind_eq_some_iff.mp H
 obtain ⟨t416, A20, H⟩ := H
 have A2 := mk0 A20
 clear A20
 by_cases c3 : t416 = true
 ·subst c3
  (have H1 : (if a0_0 ≤ 4 then (if (l0_2.length : Int) ≤ 12 then (some (decide ((l0_1.length : Int) ≤ 4))) else (some false)) else (some false)) = some r := by rw [if_pos rfl] at H; exact H); clear H; have H := H1; clear H1
  by_cases c4 : a0_0 ≤ 4
  ·rw [if_pos c4] at H
   have c4b0 : decide (a0_0 ≤ 4) = true := decide_eq_true c4; clear c4
   by_cases c5 : (l0_2.length : Int) ≤ 12
   ·rw [if_pos c5] at H
    have c5b0 : decide ((l0_2.length : Int) ≤ 12) = true := decide_eq_true c5; have c5b1 : decide (l0_2.length ≤ 12) = true := decide_eq_true (by omega); clear c5; obtain rfl := Option.some.inj H; go_enter Try.func8, Try.ntmps8
    go_wp2_with (first | ((with_reducible refine gate_dst (N := 1) rfl ?_); (try (refine gate_guard (by rfl) ?_; dsimp only)); refine bxE 1 #[.int .i64 a0_0, .slice A0_1 l0_1.length c0_1, .slice A0_2 l0_2.length c0_2] 24 ?_; intro gb415 hg w6 hbox hb; have BK415 := mk0 (hbox); have GW415 := gE (uL HB.out) hg; have GE415 := gE (uL HB.out) hg; replace HB := hbB (uL HB.out) hb; clear hb hbox hg; obtain ⟨hcz7_0, hcz7_1, hcz7_2, hfz7_0, hfz7_1, hfz7_2⟩ := cL3 BK415) | ((with_reducible refine gate_dst (N := 4) rfl ?_); refine gsM (some 4) Try.func18 #[.agg #[.int .i64 a0_0, .slice A0_1 l0_1.length c0_1, .slice A0_2 l0_2.length c0_2]] ?_; (with_reducible refine (furrowlaw15_Good.calls k a0_0 _ _ l0_1 _ _ l0_2 true _ ?side1 ?side2 ?side3 ?side4 A2.out).mono ?_); (case side1 => exact uC (Kd.C_below HR0_1.out HB.out)); (case side2 => exact HC0_1.out); (case side3 => exact uC (Kd.C_below HR0_2.out HB.out)); (case side4 => exact HC0_2.out); rintro e w8 ⟨rfl, hb⟩; refine ⟨_, rfl, ?_⟩; replace BK415 := bB BK415 hb; replace HB := hbB bH hb; (try clear hb); obtain ⟨hcz9_0, hcz9_1, hcz9_2, hfz9_0, hfz9_1, hfz9_2⟩ := cL3 BK415))
    go_ret; exact ⟨rE, bH⟩
   ·rw [if_neg c5] at H
    have c5b0 : decide ((l0_2.length : Int) ≤ 12) = false := decide_eq_false c5; have c5b1 : decide (l0_2.length ≤ 12) = false := decide_eq_false (by omega); clear c5; obtain rfl := Option.some.inj H; go_enter Try.func8, Try.ntmps8
    go_wp2_with (first | ((with_reducible refine gate_dst (N := 1) rfl ?_); (try (refine gate_guard (by rfl) ?_; dsimp only)); refine bxE 1 #[.int .i64 a0_0, .slice A0_1 l0_1.length c0_1, .slice A0_2 l0_2.length c0_2] 24 ?_; intro gb415 hg w10 hbox hb; have BK415 := mk0 (hbox); have GW415 := gE (uL HB.out) hg; have GE415 := gE (uL HB.out) hg; replace HB := hbB (uL HB.out) hb; clear hb hbox hg; obtain ⟨hcz11_0, hcz11_1, hcz11_2, hfz11_0, hfz11_1, hfz11_2⟩ := cL3 BK415) | ((with_reducible refine gate_dst (N := 4) rfl ?_); refine gsM (some 4) Try.func18 #[.agg #[.int .i64 a0_0, .slice A0_1 l0_1.length c0_1, .slice A0_2 l0_2.length c0_2]] ?_; (with_reducible refine (furrowlaw15_Good.calls k a0_0 _ _ l0_1 _ _ l0_2 true _ ?side1 ?side2 ?side3 ?side4 A2.out).mono ?_); (case side1 => exact uC (Kd.C_below HR0_1.out HB.out)); (case side2 => exact HC0_1.out); (case side3 => exact uC (Kd.C_below HR0_2.out HB.out)); (case side4 => exact HC0_2.out); rintro e w12 ⟨rfl, hb⟩; refine ⟨_, rfl, ?_⟩; replace BK415 := bB BK415 hb; replace HB := hbB bH hb; (try clear hb); obtain ⟨hcz13_0, hcz13_1, hcz13_2, hfz13_0, hfz13_1, hfz13_2⟩ := cL3 BK415))
    go_ret; exact ⟨rE, bH⟩
  ·rw [if_neg c4] at H
   have c4b0 : decide (a0_0 ≤ 4) = false := decide_eq_false c4; clear c4; obtain rfl := Option.some.inj H; go_enter Try.func8, Try.ntmps8
   go_wp2_with (first | ((with_reducible refine gate_dst (N := 1) rfl ?_); (try (refine gate_guard (by rfl) ?_; dsimp only)); refine bxE 1 #[.int .i64 a0_0, .slice A0_1 l0_1.length c0_1, .slice A0_2 l0_2.length c0_2] 24 ?_; intro gb415 hg w14 hbox hb; have BK415 := mk0 (hbox); have GW415 := gE (uL HB.out) hg; have GE415 := gE (uL HB.out) hg; replace HB := hbB (uL HB.out) hb; clear hb hbox hg; obtain ⟨hcz15_0, hcz15_1, hcz15_2, hfz15_0, hfz15_1, hfz15_2⟩ := cL3 BK415) | ((with_reducible refine gate_dst (N := 4) rfl ?_); refine gsM (some 4) Try.func18 #[.agg #[.int .i64 a0_0, .slice A0_1 l0_1.length c0_1, .slice A0_2 l0_2.length c0_2]] ?_; (with_reducible refine (furrowlaw15_Good.calls k a0_0 _ _ l0_1 _ _ l0_2 true _ ?side1 ?side2 ?side3 ?side4 A2.out).mono ?_); (case side1 => exact uC (Kd.C_below HR0_1.out HB.out)); (case side2 => exact HC0_1.out); (case side3 => exact uC (Kd.C_below HR0_2.out HB.out)); (case side4 => exact HC0_2.out); rintro e w16 ⟨rfl, hb⟩; refine ⟨_, rfl, ?_⟩; replace BK415 := bB BK415 hb; replace HB := hbB bH hb; (try clear hb); obtain ⟨hcz17_0, hcz17_1, hcz17_2, hfz17_0, hfz17_1, hfz17_2⟩ := cL3 BK415))
   go_ret; exact ⟨rE, bH⟩
 ·replace c3 := Bool.eq_false_iff.mpr c3
  subst c3; (have H1 : (some false) = some r := by rw [if_neg (show ¬ (false = true) by decide)] at H; exact H); clear H; have H := H1; clear H1; obtain rfl := Option.some.inj H; go_enter Try.func8, Try.ntmps8
  go_wp2_with (first | ((with_reducible refine gate_dst (N := 1) rfl ?_); (try (refine gate_guard (by rfl) ?_; dsimp only)); refine bxE 1 #[.int .i64 a0_0, .slice A0_1 l0_1.length c0_1, .slice A0_2 l0_2.length c0_2] 24 ?_; intro gb415 hg w18 hbox hb; have BK415 := mk0 (hbox); have GW415 := gE (uL HB.out) hg; have GE415 := gE (uL HB.out) hg; replace HB := hbB (uL HB.out) hb; clear hb hbox hg; obtain ⟨hcz19_0, hcz19_1, hcz19_2, hfz19_0, hfz19_1, hfz19_2⟩ := cL3 BK415) | ((with_reducible refine gate_dst (N := 4) rfl ?_); refine gsM (some 4) Try.func18 #[.agg #[.int .i64 a0_0, .slice A0_1 l0_1.length c0_1, .slice A0_2 l0_2.length c0_2]] ?_; (with_reducible refine (furrowlaw15_Good.calls k a0_0 _ _ l0_1 _ _ l0_2 false _ ?side1 ?side2 ?side3 ?side4 A2.out).mono ?_); (case side1 => exact uC (Kd.C_below HR0_1.out HB.out)); (case side2 => exact HC0_1.out); (case side3 => exact uC (Kd.C_below HR0_2.out HB.out)); (case side4 => exact HC0_2.out); rintro e w20 ⟨rfl, hb⟩; refine ⟨_, rfl, ?_⟩; replace BK415 := bB BK415 hb; replace HB := hbB bH hb; (try clear hb); ))
  go_ret; exact ⟨rE, bH⟩

/-! ### furrowref14_coef: function 60 -/
def furrowref14_coef.f (l0_0 : List Int) (a0_1 : Int) (a1 : Int) : Option (Int) := if a1 ≥ (l0_0.length : Int) then (some 0) else (if 0 ≤ a1 then (if a1 < (l0_0.length : Int) then (some (rd l0_0 a1)) else (none)) else (none))
set_option maxHeartbeats 8000000 in
set_option maxRecDepth 100000 in
theorem furrowref14_coef.calls (A0_0 : Option Addr) (c0_0 : Nat) (l0_0 : List Int) (a0_1 : Int) (a1 : Int) (r : Int) (w : World) (hr0_0 : Kd.C (Kd.int .i64) w A0_0 l0_0.length l0_0) (hc0_0 : l0_0.length ≤ c0_0) (h : furrowref14_coef.f l0_0 a0_1 a1 = some r) :
  Calls Try.prog 60 #[.agg #[.slice A0_0 l0_0.length c0_0, .int .i64 a0_1], .int .i64 a1] w fun e w' => e = .returned (.int .i64 r) ∧ Below w.heap.size w w' := by
 have hu50 := Try.underlying50
 have HR0_0 := mk0 hr0_0
 have HC0_0 := mk0 hc0_0
 clear hr0_0 hc0_0
 have HB := mk0 (Below.refl w.heap.size w)
 have H : (if a1 ≥ (l0_0.length : Int) then (some 0) else (if 0 ≤ a1 then (if a1 < (l0_0.length : Int) then (some (rd l0_0 a1)) else (none)) else (none))) = some r := h
 clear h
 by_cases c3 : a1 ≥ (l0_0.length : Int)
 ·rw [if_pos c3] at H
  have c3b0 : decide ((l0_0.length : Int) ≤ a1) = true := decide_eq_true c3; clear c3; obtain rfl := Option.some.inj H; go_enter Try.func60, Try.ntmps60
  go_wp2_with (first | ((with_reducible refine gate_dst (N := 2) rfl ?_); refine bxE 2 #[.slice A0_0 l0_0.length c0_0, .int .i64 a0_1] 50 ?_; intro gb417 hg w4 hbox hb; have BK417 := mk0 (hbox); have GW417 := gE (uL HB.out) hg; have GE417 := gE (uL HB.out) hg; replace HB := hbB (uL HB.out) hb; clear hb hbox hg; obtain ⟨hcz5_0, hcz5_1, hfz5_0, hfz5_1⟩ := cL2 BK417))
  go_ret; exact ⟨rE, bH⟩
 ·rw [if_neg c3] at H
  have c3b0 : decide ((l0_0.length : Int) ≤ a1) = false := decide_eq_false c3; clear c3
  by_cases c6 : 0 ≤ a1
  ·rw [if_pos c6] at H
   have c6b0 : decide (0 ≤ a1) = true := decide_eq_true c6; clear c6
   by_cases c7 : a1 < (l0_0.length : Int)
   ·rw [if_pos c7] at H
    have c7b0 : decide (a1 < (l0_0.length : Int)) = true := decide_eq_true c7; clear c7; obtain rfl := Option.some.inj H; go_enter Try.func60, Try.ntmps60
    go_wp2_with (first | ((with_reducible refine gate_dst (N := 2) rfl ?_); refine bxE 2 #[.slice A0_0 l0_0.length c0_0, .int .i64 a0_1] 50 ?_; intro gb417 hg w8 hbox hb; have BK417 := mk0 (hbox); have GW417 := gE (uL HB.out) hg; have GE417 := gE (uL HB.out) hg; replace HB := hbB (uL HB.out) hb; clear hb hbox hg; obtain ⟨hcz9_0, hcz9_1, hfz9_0, hfz9_1⟩ := cL2 BK417; have p418 : 0 ≤ (a1 : Int) := dY; have q418 : a1 < (l0_0.length : Int) := dY; obtain ⟨ad418, e418, hx418_0⟩ := Kd.at_int HR0_0.out a1 p418 q418; cases e418; replace hx418_0 := (HB.out.cell (World.block_lt_of_cell? w _ hx418_0)).trans hx418_0; replace p418 := eq_true p418; replace q418 := eq_true q418))
    go_ret; exact ⟨rE, bH⟩
   ·rw [if_neg c7] at H
    exact absurd H (by simp)
  ·rw [if_neg c6] at H
   exact absurd H (by simp)

end Go.Proofs.Ytmglfimdhbooeaa.X
