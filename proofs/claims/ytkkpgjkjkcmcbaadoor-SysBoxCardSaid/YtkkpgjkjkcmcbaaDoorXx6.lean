-- PRINTED by print.py (a twelfth state) out of the translation. Not trusted: Lean checks it.
import Derived.Test.YtkkpgjkjkcmcbaaDoorXx0
import Derived.Test.YtkkpgjkjkcmcbaaDoorXx1
import Derived.Test.YtkkpgjkjkcmcbaaDoorXx5
namespace Go.Proofs.YtkkpgjkjkcmcbaaDoor.X
open Go.Proofs.YtkkpgjkjkcmcbaaDoor.Flt Go.Proofs.YtkkpgjkjkcmcbaaDoor.H Go.RowKit Go.Proofs.YtkkpgjkjkcmcbaaDoorW.PrintWords Go.Proofs.YtkkpgjkjkcmcbaaDoorW.PrintLast Go.Proofs.YtkkpgjkjkcmcbaaDoorW.PrintMore
attribute [local go_sem] max2_int min2_int max_two min_two max_three min_three max_four min_four   -- for this text's walks alone
set_option linter.unusedVariables false
set_option linter.unusedSimpArgs false

/-! ### sys_span_atMost: function 61 -/
def sys_span_atMost.f (s0_0 : Int) (s0_1 : Int) (s0_2 : Bool) (s0_3 : Bool) (a1 : Int) : Option (Int × Int × Bool × Bool) := if s0_3 = true then (if a1 < s0_1 then (some (s0_0, a1, s0_2, true)) else (some (s0_0, s0_1, s0_2, s0_3))) else (some (s0_0, a1, s0_2, true))
set_option maxHeartbeats 8000000 in
set_option maxRecDepth 100000 in
theorem sys_span_atMost.calls (g : Nat) (s0_0 : Int) (s0_1 : Int) (s0_2 : Bool) (s0_3 : Bool) (a1 : Int) (r1 : Int) (r2 : Int) (r3 : Bool) (r4 : Bool) (w0 w : World) (hI : IsS92 w0 w g s0_0 s0_1 s0_2 s0_3) (hB : Below w0.heap.size w0 w) (h : sys_span_atMost.f s0_0 s0_1 s0_2 s0_3 a1 = some (r1, r2, r3, r4)) :
  Calls Tryd.prog 61 #[.pointer (some ⟨g, 0, none⟩), .int .i64 a1] w fun e w' => e = .returned (.tuple #[]) ∧ IsS92 w0 w' g r1 r2 r3 r4 ∧ Below w0.heap.size w0 w' ∧ KeepBut w w' g none := by
 have HI0 := mk0 hI
 have HK := mk0 (KeepBut.refl w g none)
 have HL := mk0 hB.size
 clear hI
 have HW0 := mk0 hB.size
 have HB := mk0 hB
 clear hB
 have H : (if s0_3 = true then (if a1 < s0_1 then (some (s0_0, a1, s0_2, true)) else (some (s0_0, s0_1, s0_2, s0_3))) else (some (s0_0, a1, s0_2, true))) = some (r1, r2, r3, r4) := h
 clear h
 by_cases c3 : s0_3 = true
 ·subst c3
  have H1 : (if a1 < s0_1 then (some (s0_0, a1, s0_2, true)) else (some (s0_0, s0_1, s0_2, true))) = some (r1, r2, r3, r4) := by rw [if_pos rfl] at H; exact H
  clear H
  have H := H1
  clear H1
  by_cases c4 : a1 < s0_1
  ·rw [if_pos c4] at H
   have c4b0 : decide (a1 < s0_1) = true := decide_eq_true c4
   clear c4
   simp only [Option.some.injEq, Prod.mk.injEq] at H
   obtain ⟨rfl, rfl, rfl, rfl⟩ := H
   obtain ⟨HGz5, hgz5⟩ := HI0.out
   have hcz5_0 := cellS92_0 HGz5
   have hcz5_1 := cellS92_1 HGz5
   have hcz5_2 := cellS92_2 HGz5
   have hcz5_3 := cellS92_3 HGz5
   have hfz5_0 := blk_frozen HGz5 0
   have hfz5_1 := blk_frozen HGz5 1
   have hfz5_2 := blk_frozen HGz5 2
   have hfz5_3 := blk_frozen HGz5 3
   clear HGz5 hgz5
   go_enter Tryd.func61, Tryd.ntmps61
   go_wp2
   first | go_end0 | ((try simp only [Exit.inBlock, Exit.then]); refine bodyPost_ret (results_none rfl _ _ _) rfl ?_)
   exact ⟨rE, by repeat (first | (with_reducible first | exact HI0.out | apply IsS92.alloc | apply IsS92.drewN | apply IsS92.drew | apply IsS92.set_0 | apply IsS92.set_1 | apply IsS92.set_2 | apply IsS92.set_3) | exact HI0.out), by repeat (first | (with_reducible first | exact HB.out | apply below_alloc | apply pw_below_drewN | apply below_drew1 | refine below_set ?_ (IsS92.ge HI0.out)) | exact HB.out), by repeat (first | (with_reducible first | exact HK.out | apply KeepBut.set_ | apply keep_drewN | apply keep_drew | apply keep_alloc) | exact HK.out)⟩
  ·rw [if_neg c4] at H
   have c4b0 : decide (a1 < s0_1) = false := decide_eq_false c4
   clear c4
   simp only [Option.some.injEq, Prod.mk.injEq] at H
   obtain ⟨rfl, rfl, rfl, rfl⟩ := H
   obtain ⟨HGz6, hgz6⟩ := HI0.out
   have hcz6_0 := cellS92_0 HGz6
   have hcz6_1 := cellS92_1 HGz6
   have hcz6_2 := cellS92_2 HGz6
   have hcz6_3 := cellS92_3 HGz6
   have hfz6_0 := blk_frozen HGz6 0
   have hfz6_1 := blk_frozen HGz6 1
   have hfz6_2 := blk_frozen HGz6 2
   have hfz6_3 := blk_frozen HGz6 3
   clear HGz6 hgz6
   go_enter Tryd.func61, Tryd.ntmps61
   go_wp2
   first | go_end0 | ((try simp only [Exit.inBlock, Exit.then]); refine bodyPost_ret (results_none rfl _ _ _) rfl ?_)
   exact ⟨rE, by repeat (first | (with_reducible first | exact HI0.out | apply IsS92.alloc | apply IsS92.drewN | apply IsS92.drew | apply IsS92.set_0 | apply IsS92.set_1 | apply IsS92.set_2 | apply IsS92.set_3) | exact HI0.out), by repeat (first | (with_reducible first | exact HB.out | apply below_alloc | apply pw_below_drewN | apply below_drew1 | refine below_set ?_ (IsS92.ge HI0.out)) | exact HB.out), by repeat (first | (with_reducible first | exact HK.out | apply KeepBut.set_ | apply keep_drewN | apply keep_drew | apply keep_alloc) | exact HK.out)⟩
 ·replace c3 := Bool.eq_false_iff.mpr c3
  subst c3
  have H1 : (some (s0_0, a1, s0_2, true)) = some (r1, r2, r3, r4) := by rw [if_neg (show ¬ (false = true) by decide)] at H; exact H
  clear H
  have H := H1
  clear H1
  simp only [Option.some.injEq, Prod.mk.injEq] at H
  obtain ⟨rfl, rfl, rfl, rfl⟩ := H
  obtain ⟨HGz7, hgz7⟩ := HI0.out
  have hcz7_0 := cellS92_0 HGz7
  have hcz7_1 := cellS92_1 HGz7
  have hcz7_2 := cellS92_2 HGz7
  have hcz7_3 := cellS92_3 HGz7
  have hfz7_0 := blk_frozen HGz7 0
  have hfz7_1 := blk_frozen HGz7 1
  have hfz7_2 := blk_frozen HGz7 2
  have hfz7_3 := blk_frozen HGz7 3
  clear HGz7 hgz7
  go_enter Tryd.func61, Tryd.ntmps61
  go_wp2
  first | go_end0 | ((try simp only [Exit.inBlock, Exit.then]); refine bodyPost_ret (results_none rfl _ _ _) rfl ?_)
  exact ⟨rE, by repeat (first | (with_reducible first | exact HI0.out | apply IsS92.alloc | apply IsS92.drewN | apply IsS92.drew | apply IsS92.set_0 | apply IsS92.set_1 | apply IsS92.set_2 | apply IsS92.set_3) | exact HI0.out), by repeat (first | (with_reducible first | exact HB.out | apply below_alloc | apply pw_below_drewN | apply below_drew1 | refine below_set ?_ (IsS92.ge HI0.out)) | exact HB.out), by repeat (first | (with_reducible first | exact HK.out | apply KeepBut.set_ | apply keep_drewN | apply keep_drew | apply keep_alloc) | exact HK.out)⟩

/-! ### sys_span_take: function 36 -/
def sys_span_take.f (k : Nat) (s0_0 : Int) (s0_1 : Int) (s0_2 : Bool) (s0_3 : Bool) (a1 : Int) (a2 : Int) : Option (Int × Int × Bool × Bool) := if a1 > 0 then ((num_Ceil.f k (wrap64 (-a2)) a1).bind fun bt176 => (if bt176.2 = true then ((sys_span_atLeast.f s0_0 s0_1 s0_2 s0_3 bt176.1).bind fun bt178 => (some (bt178.1, bt178.2.1, bt178.2.2.1, bt178.2.2.2))) else (some (s0_0, s0_1, s0_2, s0_3)))) else ((num_Floor.f k a2 (wrap64 (-a1))).bind fun bt182 => (if bt182.2 = true then ((sys_span_atMost.f s0_0 s0_1 s0_2 s0_3 bt182.1).bind fun bt184 => (some (bt184.1, bt184.2.1, bt184.2.2.1, bt184.2.2.2))) else (some (s0_0, s0_1, s0_2, s0_3))))
theorem sys_span_take.mono : ∀ a0 a1 a2 a3 a4 a5 k, LeO (sys_span_take.f k a0 a1 a2 a3 a4 a5) (sys_span_take.f (k + 1) a0 a1 a2 a3 a4 a5) := by
 intro a0 a1 a2 a3 a4 a5 k
 unfold sys_span_take.f
 repeat' first
   | (with_reducible exact num_Ceil.mono _ _ _)
   | (with_reducible exact num_Floor.mono _ _ _)
   | (with_reducible exact LeO.refl _)
   | (with_reducible exact LeO.none _)
   | (with_reducible refine LeO.ite ?_ ?_)
   | (with_reducible refine LeO.bind ?_ (fun _ => ?_))
   | exact num_Ceil.mono _ _ _
   | exact num_Floor.mono _ _ _
   | exact LeO.none _
   | refine LeO.ite ?_ ?_
   | refine LeO.bind ?_ (fun _ => ?_)
set_option maxHeartbeats 8000000 in
set_option maxRecDepth 100000 in
theorem sys_span_take.calls (k : Nat) (g : Nat) (s0_0 : Int) (s0_1 : Int) (s0_2 : Bool) (s0_3 : Bool) (a1 : Int) (a2 : Int) (r1 : Int) (r2 : Int) (r3 : Bool) (r4 : Bool) (w0 w : World) (hI : IsS92 w0 w g s0_0 s0_1 s0_2 s0_3) (hB : Below w0.heap.size w0 w) (h : sys_span_take.f k s0_0 s0_1 s0_2 s0_3 a1 a2 = some (r1, r2, r3, r4)) :
  Calls Tryd.prog 36 #[.pointer (some ⟨g, 0, none⟩), .int .i64 a1, .int .i64 a2] w fun e w' => e = .returned (.tuple #[]) ∧ IsS92 w0 w' g r1 r2 r3 r4 ∧ Below w0.heap.size w0 w' ∧ KeepBut w w' g none := by
 have HI0 := mk0 hI
 have HK := mk0 (KeepBut.refl w g none)
 have HL := mk0 hB.size
 clear hI
 have HW0 := mk0 hB.size
 have HB := mk0 hB
 clear hB
 have H : (if a1 > 0 then ((num_Ceil.f k (wrap64 (-a2)) a1).bind fun bt176 => (if bt176.2 = true then ((sys_span_atLeast.f s0_0 s0_1 s0_2 s0_3 bt176.1).bind fun bt178 => (some (bt178.1, bt178.2.1, bt178.2.2.1, bt178.2.2.2))) else (some (s0_0, s0_1, s0_2, s0_3)))) else ((num_Floor.f k a2 (wrap64 (-a1))).bind fun bt182 => (if bt182.2 = true then ((sys_span_atMost.f s0_0 s0_1 s0_2 s0_3 bt182.1).bind fun bt184 => (some (bt184.1, bt184.2.1, bt184.2.2.1, bt184.2.2.2))) else (some (s0_0, s0_1, s0_2, s0_3))))) = some (r1, r2, r3, r4) := h
 clear h
 by_cases c4 : a1 > 0
 ·rw [if_pos c4] at H
  have c4b0 : decide (0 < a1) = true := decide_eq_true c4
  clear c4
  replace H := Option.bind_eq_some_iff.mp H
  obtain ⟨⟨t176, t177⟩, A50, H⟩ := H
  dsimp only at H
  have A5 := mk0 A50
  clear A50
  by_cases c6 : t177 = true
  ·subst c6
   have H1 : ((sys_span_atLeast.f s0_0 s0_1 s0_2 s0_3 t176).bind fun bt178 => (some (bt178.1, bt178.2.1, bt178.2.2.1, bt178.2.2.2))) = some (r1, r2, r3, r4) := by rw [if_pos rfl] at H; exact H
   clear H
   have H := H1
   clear H1
   replace H := Option.bind_eq_some_iff.mp H
   obtain ⟨⟨t178, t179, t180, t181⟩, A70, H⟩ := H
   dsimp only at H
   have A7 := mk0 A70
   clear A70
   simp only [Option.some.injEq, Prod.mk.injEq] at H
   obtain ⟨rfl, rfl, rfl, rfl⟩ := H
   go_enter Tryd.func36, Tryd.ntmps36
   go_wp2_with (first | ((with_reducible refine gate_dst (N := 16) rfl ?_); refine gsM (some 16) Tryd.func58 #[.int .i64 (wrap64 (-a2)), .int .i64 a1] ?_; (with_reducible refine (num_Ceil.calls k (wrap64 (-a2)) a1 t176 true _ A5.out).mono ?_); rintro e w' ⟨rfl, ⟨nd, rfl⟩⟩; refine ⟨_, rfl, ?_⟩) | ((with_reducible refine gate_dst (N := 22) rfl ?_); refine gsM (some 22) Tryd.func59 #[.pointer (some ⟨g, 0, none⟩), .int .i64 t176] ?_; (with_reducible refine (sys_span_atLeast.calls g s0_0 s0_1 s0_2 s0_3 t176 t178 t179 t180 t181 w0 _ ?side1 ?side2 A7.out).mono ?_); (case side1 => repeat (first | (with_reducible first | exact HI0.out | apply IsS92.alloc | apply IsS92.drewN | apply IsS92.drew | apply IsS92.set_0 | apply IsS92.set_1 | apply IsS92.set_2 | apply IsS92.set_3) | exact HI0.out)); (case side2 => repeat (first | (with_reducible first | exact HB.out | apply below_alloc | apply pw_below_drewN | apply below_drew1 | refine below_set ?_ (IsS92.ge HI0.out)) | exact HB.out)); rintro e w8 ⟨rfl, hi, hb, hk⟩; refine ⟨_, rfl, ?_⟩; replace HK := mk0 (KeepBut.trans (by repeat (first | (with_reducible first | exact HK.out | apply KeepBut.set_ | apply keep_drewN | apply keep_drew | apply keep_alloc) | exact HK.out)) hk (.inl rfl)); replace HB := mk0 (hb); replace HI0 := mk0 (hi); (try clear hb); (try clear hb2); (try clear hk); (try clear hi)))
   first | go_end0 | ((try simp only [Exit.inBlock, Exit.then]); refine bodyPost_ret (results_none rfl _ _ _) rfl ?_)
   exact ⟨rE, by repeat (first | (with_reducible first | exact HI0.out | apply IsS92.alloc | apply IsS92.drewN | apply IsS92.drew | apply IsS92.set_0 | apply IsS92.set_1 | apply IsS92.set_2 | apply IsS92.set_3) | exact HI0.out), by repeat (first | (with_reducible first | exact HB.out | apply below_alloc | apply pw_below_drewN | apply below_drew1 | refine below_set ?_ (IsS92.ge HI0.out)) | exact HB.out), by repeat (first | (with_reducible first | exact HK.out | apply KeepBut.set_ | apply keep_drewN | apply keep_drew | apply keep_alloc) | exact HK.out)⟩
  ·replace c6 := Bool.eq_false_iff.mpr c6
   subst c6
   have H1 : (some (s0_0, s0_1, s0_2, s0_3)) = some (r1, r2, r3, r4) := by rw [if_neg (show ¬ (false = true) by decide)] at H; exact H
   clear H
   have H := H1
   clear H1
   simp only [Option.some.injEq, Prod.mk.injEq] at H
   obtain ⟨rfl, rfl, rfl, rfl⟩ := H
   go_enter Tryd.func36, Tryd.ntmps36
   go_wp2_with (first | ((with_reducible refine gate_dst (N := 16) rfl ?_); refine gsM (some 16) Tryd.func58 #[.int .i64 (wrap64 (-a2)), .int .i64 a1] ?_; (with_reducible refine (num_Ceil.calls k (wrap64 (-a2)) a1 t176 false _ A5.out).mono ?_); rintro e w' ⟨rfl, ⟨nd, rfl⟩⟩; refine ⟨_, rfl, ?_⟩))
   first | go_end0 | ((try simp only [Exit.inBlock, Exit.then]); refine bodyPost_ret (results_none rfl _ _ _) rfl ?_)
   exact ⟨rE, by repeat (first | (with_reducible first | exact HI0.out | apply IsS92.alloc | apply IsS92.drewN | apply IsS92.drew | apply IsS92.set_0 | apply IsS92.set_1 | apply IsS92.set_2 | apply IsS92.set_3) | exact HI0.out), by repeat (first | (with_reducible first | exact HB.out | apply below_alloc | apply pw_below_drewN | apply below_drew1 | refine below_set ?_ (IsS92.ge HI0.out)) | exact HB.out), by repeat (first | (with_reducible first | exact HK.out | apply KeepBut.set_ | apply keep_drewN | apply keep_drew | apply keep_alloc) | exact HK.out)⟩
 ·rw [if_neg c4] at H
  have c4b0 : decide (0 < a1) = false := decide_eq_false c4
  clear c4
  replace H := Option.bind_eq_some_iff.mp H
  obtain ⟨⟨t182, t183⟩, A90, H⟩ := H
  dsimp only at H
  have A9 := mk0 A90
  clear A90
  by_cases c10 : t183 = true
  ·subst c10
   have H1 : ((sys_span_atMost.f s0_0 s0_1 s0_2 s0_3 t182).bind fun bt184 => (some (bt184.1, bt184.2.1, bt184.2.2.1, bt184.2.2.2))) = some (r1, r2, r3, r4) := by rw [if_pos rfl] at H; exact H
   clear H
   have H := H1
   clear H1
   replace H := Option.bind_eq_some_iff.mp H
   obtain ⟨⟨t184, t185, t186, t187⟩, A110, H⟩ := H
   dsimp only at H
   have A11 := mk0 A110
   clear A110
   simp only [Option.some.injEq, Prod.mk.injEq] at H
   obtain ⟨rfl, rfl, rfl, rfl⟩ := H
   go_enter Tryd.func36, Tryd.ntmps36
   go_wp2_with (first | ((with_reducible refine gate_dst (N := 27) rfl ?_); refine gsM (some 27) Tryd.func60 #[.int .i64 a2, .int .i64 (wrap64 (-a1))] ?_; (with_reducible refine (num_Floor.calls k a2 (wrap64 (-a1)) t182 true _ A9.out).mono ?_); rintro e w' ⟨rfl, ⟨nd, rfl⟩⟩; refine ⟨_, rfl, ?_⟩) | ((with_reducible refine gate_dst (N := 33) rfl ?_); refine gsM (some 33) Tryd.func61 #[.pointer (some ⟨g, 0, none⟩), .int .i64 t182] ?_; (with_reducible refine (sys_span_atMost.calls g s0_0 s0_1 s0_2 s0_3 t182 t184 t185 t186 t187 w0 _ ?side1 ?side2 A11.out).mono ?_); (case side1 => repeat (first | (with_reducible first | exact HI0.out | apply IsS92.alloc | apply IsS92.drewN | apply IsS92.drew | apply IsS92.set_0 | apply IsS92.set_1 | apply IsS92.set_2 | apply IsS92.set_3) | exact HI0.out)); (case side2 => repeat (first | (with_reducible first | exact HB.out | apply below_alloc | apply pw_below_drewN | apply below_drew1 | refine below_set ?_ (IsS92.ge HI0.out)) | exact HB.out)); rintro e w12 ⟨rfl, hi, hb, hk⟩; refine ⟨_, rfl, ?_⟩; replace HK := mk0 (KeepBut.trans (by repeat (first | (with_reducible first | exact HK.out | apply KeepBut.set_ | apply keep_drewN | apply keep_drew | apply keep_alloc) | exact HK.out)) hk (.inl rfl)); replace HB := mk0 (hb); replace HI0 := mk0 (hi); (try clear hb); (try clear hb2); (try clear hk); (try clear hi)))
   first | go_end0 | ((try simp only [Exit.inBlock, Exit.then]); refine bodyPost_ret (results_none rfl _ _ _) rfl ?_)
   exact ⟨rE, by repeat (first | (with_reducible first | exact HI0.out | apply IsS92.alloc | apply IsS92.drewN | apply IsS92.drew | apply IsS92.set_0 | apply IsS92.set_1 | apply IsS92.set_2 | apply IsS92.set_3) | exact HI0.out), by repeat (first | (with_reducible first | exact HB.out | apply below_alloc | apply pw_below_drewN | apply below_drew1 | refine below_set ?_ (IsS92.ge HI0.out)) | exact HB.out), by repeat (first | (with_reducible first | exact HK.out | apply KeepBut.set_ | apply keep_drewN | apply keep_drew | apply keep_alloc) | exact HK.out)⟩
  ·replace c10 := Bool.eq_false_iff.mpr c10
   subst c10
   have H1 : (some (s0_0, s0_1, s0_2, s0_3)) = some (r1, r2, r3, r4) := by rw [if_neg (show ¬ (false = true) by decide)] at H; exact H
   clear H
   have H := H1
   clear H1
   simp only [Option.some.injEq, Prod.mk.injEq] at H
   obtain ⟨rfl, rfl, rfl, rfl⟩ := H
   go_enter Tryd.func36, Tryd.ntmps36
   go_wp2_with (first | ((with_reducible refine gate_dst (N := 27) rfl ?_); refine gsM (some 27) Tryd.func60 #[.int .i64 a2, .int .i64 (wrap64 (-a1))] ?_; (with_reducible refine (num_Floor.calls k a2 (wrap64 (-a1)) t182 false _ A9.out).mono ?_); rintro e w' ⟨rfl, ⟨nd, rfl⟩⟩; refine ⟨_, rfl, ?_⟩))
   first | go_end0 | ((try simp only [Exit.inBlock, Exit.then]); refine bodyPost_ret (results_none rfl _ _ _) rfl ?_)
   exact ⟨rE, by repeat (first | (with_reducible first | exact HI0.out | apply IsS92.alloc | apply IsS92.drewN | apply IsS92.drew | apply IsS92.set_0 | apply IsS92.set_1 | apply IsS92.set_2 | apply IsS92.set_3) | exact HI0.out), by repeat (first | (with_reducible first | exact HB.out | apply below_alloc | apply pw_below_drewN | apply below_drew1 | refine below_set ?_ (IsS92.ge HI0.out)) | exact HB.out), by repeat (first | (with_reducible first | exact HK.out | apply KeepBut.set_ | apply keep_drewN | apply keep_drew | apply keep_alloc) | exact HK.out)⟩

/-! ### sys_far: function 37 -/
def sys_far.f (a0 : Int) : Option (Bool) := if a0 > 268435456 then (some true) else (some (decide (a0 < (-268435456))))
set_option maxHeartbeats 8000000 in
set_option maxRecDepth 100000 in
theorem sys_far.calls (a0 : Int) (r : Bool) (w : World) (h : sys_far.f a0 = some r) :
  Calls Tryd.prog 37 #[.int .i64 a0] w fun e w' => e = .returned (.bool r) ∧ Drawn0 w w' := by
 have H : (if a0 > 268435456 then (some true) else (some (decide (a0 < (-268435456))))) = some r := h
 clear h
 by_cases c2 : a0 > 268435456
 ·rw [if_pos c2] at H
  have c2b0 : decide (268435456 < a0) = true := decide_eq_true c2
  clear c2
  obtain rfl := Option.some.inj H
  go_enter Tryd.func37, Tryd.ntmps37
  go_wp2
  go_ret
  exact ⟨by first | rfl | (simp; done) | (simp [*]; done) | (simp [bne_nil_, beq_nil_]; done), by repeat (first | exact Drawn0.refl _ | apply Drawn0.step)⟩
 ·rw [if_neg c2] at H
  have c2b0 : decide (268435456 < a0) = false := decide_eq_false c2
  clear c2
  obtain rfl := Option.some.inj H
  go_enter Tryd.func37, Tryd.ntmps37
  go_wp2
  go_ret
  exact ⟨by first | rfl | (simp; done) | (simp [*]; done) | (simp [bne_nil_, beq_nil_]; done), by repeat (first | exact Drawn0.refl _ | apply Drawn0.step)⟩

-- NOT PRINTED: function 63 (lin_Form_63)

-- NOT PRINTED: function 43 (lin_Form_43)

/-! ### furrowlaw15_F: function 20 -/
def furrowlaw15_F.f (a0 : Int) (l1 : List Int) : Option (List Int × Int) := some (l1, a0)
set_option maxHeartbeats 8000000 in
set_option maxRecDepth 100000 in
theorem furrowlaw15_F.calls (a0 : Int) (P1_ : Nat → Prop) (A1 : Option Addr) (c1 : Nat) (l1 : List Int) (r1 : List Int) (r2 : Int) (w : World) (hs1 : Kd.V (Kd.int .i64) 2 w w.heap.size (fun k_ => P1_ k_) (.slice A1 l1.length c1) l1) (h : furrowlaw15_F.f a0 l1 = some (r1, r2)) :
  Calls Tryd.prog 20 #[.int .i64 a0, .slice A1 l1.length c1] w fun e w' => ∃ v0_ : Value, e = .returned (.agg #[v0_, .int .i64 r2]) ∧ Kd.V (Kd.int .i64) 2 w' w.heap.size (fun k_ => (P1_ k_ ∨ w.heap.size ≤ k_)) v0_ r1 ∧ Below w.heap.size w w' := by
 have hu59 := Tryd.underlying59
 have HO1 := mk0 (show Kd.V (Kd.int .i64) 2 w w.heap.size (fun k_ => (P1_ k_ ∨ w.heap.size ≤ k_)) (.slice A1 l1.length c1) l1 from Kd.V_mono hs1 (fun k_ hk => .inl hk))
 have HB := mk0 (Below.refl w.heap.size w)
 have H : (some (l1, a0)) = some (r1, r2) := h
 clear h
 simp only [Option.some.injEq, Prod.mk.injEq] at H
 obtain ⟨rfl, rfl⟩ := H
 go_enter Tryd.func20, Tryd.ntmps20
 go_wp2_with (first | ((with_reducible refine gate_dst (N := 4) rfl ?_); refine bxE 4 #[.slice none 0 0, .int .i64 0] 59 ?_; intro gb188 hg w3 hbox hb; replace HO1 := mk0 (Kd.V_below (Kd.V_elderB (uV HO1.out) gb188 (Nat.le_of_eq hg.symm)) hb); have BK188 := mk0 (hbox); have GW188 := mk0 ((by rw [hg]; exact (below_size (uL HB.out)) : w.heap.size ≤ gb188)); have GE188 := mk0 ((by rw [hg]; exact (below_size (uL HB.out)) : w.heap.size ≤ gb188)); replace HB := hbB (uL HB.out) hb; clear hb hbox hg; obtain ⟨hcz4_0, hcz4_1, hfz4_0, hfz4_1⟩ := cL2 BK188))
 refine bodyPost_ret (results_cell_row rfl _ _ gb188 59 #[.slice A1 l1.length c1, .int .i64 a0] (0, 0) _ rfl (by (with_reducible repeat (first | refine blk_drewN ?_ _ | refine blk_drew ?_ | refine blk_alloc ?_ _)); refine blk_put (cs := #[.slice A1 l1.length c1, .int .i64 0]) ?_ 1 _ rfl; (with_reducible repeat (first | refine blk_drewN ?_ _ | refine blk_drew ?_ | refine blk_alloc ?_ _)); refine blk_put (cs := #[.slice none 0 0, .int .i64 0]) ?_ 0 _ rfl; (with_reducible repeat (first | refine blk_drewN ?_ _ | refine blk_drew ?_ | refine blk_alloc ?_ _)); exact BK188.out) Tryd.underlying59 rfl (by kernel_rfl)) rfl ?_
 exact ⟨_, rE, uV (Kd.V_mono (Kd.V_far (p := ⟨gb188, 1, none⟩) (Kd.V_far (p := ⟨gb188, 0, none⟩) (Kd.V_mono HO1.out (fun k_ hk => (⟨hk, hk.2⟩ : _ ∧ k_ ≠ gb188))) (fun _ hk => hk.2) (.slice A1 l1.length c1)) (fun _ hk => hk.2) (.int .i64 a0)) (fun _ hk => hk.1.1)), bH⟩

/-! ### furrowref4_At: function 21 -/
def furrowref4_At.f (a0 : ByteArray) (a1 : Int) (a2 : Int) : Option ((List (S76)) × Int) := some ((([(⟨a0, a1⟩ : S76)] : List (S76))), a2)
set_option maxHeartbeats 8000000 in
set_option maxRecDepth 100000 in
theorem furrowref4_At.calls (a0 : ByteArray) (a1 : Int) (a2 : Int) (r1 : List (S76)) (r2 : Int) (w : World) (h : furrowref4_At.f a0 a1 a2 = some (r1, r2)) :
  Calls Tryd.prog 21 #[.string a0, .int .i64 a1, .int .i64 a2] w fun e w' => ∃ v0_ : Value, e = .returned (.agg #[v0_, .int .i64 r2]) ∧ Kd.R k76 76 w' w.heap.size (fun _ => True) v0_ r1 ∧ Below w.heap.size w w' := by
 have hu30 := Tryd.underlying30
 have hu76 := Tryd.underlying76
 have HB := mk0 (Below.refl w.heap.size w)
 have H : (some ((([(⟨a0, a1⟩ : S76)] : List (S76))), a2)) = some (r1, r2) := h
 clear h
 obtain ⟨y190, hy190⟩ : ∃ y_ : List (S76), y_ = (([(⟨a0, a1⟩ : S76)] : List (S76))) := ⟨_, rfl⟩
 replace H : (some (y190, a2)) = some (r1, r2) := by first | (rw [hy190]; with_reducible exact H) | (have H2_ := (Option.bind_some _ _).symm.trans H; rw [hy190]; with_reducible exact H2_) | (have H2_ := (Option.bind_some _ _).symm.trans H; with_reducible exact H2_) | with_reducible exact H | (rw [hy190]; exact H) | exact H
 have Ny190 := mk0 hy190
 clear hy190
 simp only [Option.some.injEq, Prod.mk.injEq] at H
 obtain ⟨rfl, rfl⟩ := H
 go_enter Tryd.func21, Tryd.ntmps21
 go_wp2_with (first | ((with_reducible refine gate_dst (N := 6) rfl ?_); refine bxE 6 #[.slice none 0 0, .int .i64 0] 30 ?_; intro gb189 hg w4 hbox hb; have BK189 := mk0 (hbox); have GW189 := mk0 ((by rw [hg]; exact (below_size (uL HB.out)) : w.heap.size ≤ gb189)); have GE189 := mk0 ((by rw [hg]; exact (below_size (uL HB.out)) : w.heap.size ≤ gb189)); replace HB := hbB (uL HB.out) hb; clear hb hbox hg) | ((with_reducible refine gate_dst (N := 10) rfl ?_); refine Kd.R_lit k76 _ 76 ?hg (N := 10) ?hd (xs := ([(⟨a0, a1⟩ : S76)] : List (S76))) (inner := [.string a0, .int .i64 a1]) (ok := fun _ => True) (okp := fun _ => True) ?hr ?hp (fun _ hk => hk) trivial (Below.refl _ _) (Nat.le_refl _) (by simp) ?_; (case hd => rfl); (case hg => rfl); (case hr => first | (go_simp; done) | (go_simp; rfl)); (case hp => exact (Reps.c2 (show Kd.M k76 _ _ _ (⟨a0, a1⟩ : S76) [.string a0, .int .i64 a1] from (k76_mkM _ _ _ (⟨a0, a1⟩ : S76) )) (Reps.none _ _))); intro v191 w5 ho6 hb hg_ hnew_; clear hg_ hnew_; (first | rw [← Ny190.out] at ho6 | (simp only [Int.reduceToNat] at ho6; rw [← Ny190.out] at ho6)); have HO192 := mk0 (Kd.R_lower ho6 (below_size bH)); replace BK189 := bB BK189 hb; replace HB := hbB bH hb; clear hb ho6; obtain ⟨Ao7, co7, eo7⟩ := Kd.R_slice HO192.out; subst eo7; obtain ⟨hcz8_0, hcz8_1, hfz8_0, hfz8_1⟩ := cL2 BK189))
 refine bodyPost_ret (results_cell_row rfl _ _ gb189 30 #[.slice Ao7 y190.length co7, .int .i64 a2] (0, 0) _ rfl (by (with_reducible repeat (first | refine blk_drewN ?_ _ | refine blk_drew ?_ | refine blk_alloc ?_ _)); refine blk_put (cs := #[.slice Ao7 y190.length co7, .int .i64 0]) ?_ 1 _ rfl; (with_reducible repeat (first | refine blk_drewN ?_ _ | refine blk_drew ?_ | refine blk_alloc ?_ _)); refine blk_put (cs := #[.slice none 0 0, .int .i64 0]) ?_ 0 _ rfl; (with_reducible repeat (first | refine blk_drewN ?_ _ | refine blk_drew ?_ | refine blk_alloc ?_ _)); exact BK189.out) Tryd.underlying30 rfl (by kernel_rfl)) rfl ?_
 exact ⟨_, rE, uR (Kd.R_mono (Kd.R_far (p := ⟨gb189, 1, none⟩) (Kd.R_far (p := ⟨gb189, 0, none⟩) (Kd.R_types HO192.out BK189.out (by decide)) (fun _ hk => hk.2) (.slice Ao7 y190.length co7)) (fun _ hk => hk.2) (.int .i64 a2)) (fun _ hk => trivial)), bH⟩

/-! ### furrowref20_all: function 22 -/
def furrowref20_all.f (a0_0 : Int) (l0_1 : List (S65)) (l0_2 : List (S65)) : Option ((List (S65))) := (some (([] : List (S65)) : List (S65))).bind fun y309 => (if y309.length + l0_1.length < 4398046511104 then ((some (y309 ++ l0_1 : List (S65))).bind fun y312 => (if y312.length + l0_2.length < 4398046511104 then (some (y312 ++ l0_2)) else (none))) else (none))
def furrowref20_all.T1 : Bool × List (List Nat × List Nat) := (true, [([], []), ([], []), ([1], [1]), ([0, 2], [0, 2]), ([], []), ([4], [4]), ([3, 5, 3], [3, 5]), ([6, 6, 0, 1, 2, 3, 4, 5, 6], [6])])
def furrowref20_all.B1 : List Nat := [0, 0, 2, 7, 0, 16, 63, 127]
theorem furrowref20_all.tab1 : rtab .any (opsOf Tryd.f22 1) = furrowref20_all.T1 := by kernel_rfl
theorem furrowref20_all.bits1 : waitsOk furrowref20_all.T1.2 furrowref20_all.B1 = true := by kernel_rfl
set_option maxHeartbeats 8000000 in
set_option maxRecDepth 100000 in
theorem furrowref20_all.calls (a0_0 : Int) (P0_1_ : Nat → Prop) (A0_1 : Option Addr) (c0_1 : Nat) (l0_1 : List (S65)) (P0_2_ : Nat → Prop) (A0_2 : Option Addr) (c0_2 : Nat) (l0_2 : List (S65)) (r : List (S65)) (w : World) (hs0_1 : Kd.V k65 65 w w.heap.size (fun k_ => P0_1_ k_) (.slice A0_1 l0_1.length c0_1) l0_1) (hs0_2 : Kd.V k65 65 w w.heap.size (fun k_ => P0_2_ k_) (.slice A0_2 l0_2.length c0_2) l0_2) (h : furrowref20_all.f a0_0 l0_1 l0_2 = some r) :
  Calls Tryd.prog 22 #[.agg #[.int .i64 a0_0, .slice A0_1 l0_1.length c0_1, .slice A0_2 l0_2.length c0_2]] w fun e w' => ∃ v0_ : Value, e = .returned (v0_) ∧ Kd.N k65 65 w' w.heap.size (fun k_ => ((P0_1_ k_ ∨ P0_2_ k_) ∨ w.heap.size ≤ k_)) v0_ r ∧ Below w.heap.size w w' := by
 have hu34 := Tryd.underlying34
 have HO0_1 := mk0 (show Kd.V k65 65 w w.heap.size (fun k_ => ((P0_1_ k_ ∨ P0_2_ k_) ∨ w.heap.size ≤ k_)) (.slice A0_1 l0_1.length c0_1) l0_1 from Kd.V_mono hs0_1 (fun k_ hk => .inl (.inl hk)))
 have HO0_2 := mk0 (show Kd.V k65 65 w w.heap.size (fun k_ => ((P0_1_ k_ ∨ P0_2_ k_) ∨ w.heap.size ≤ k_)) (.slice A0_2 l0_2.length c0_2) l0_2 from Kd.V_mono hs0_2 (fun k_ hk => .inl (.inr hk)))
 have HB := mk0 (Below.refl w.heap.size w)
 have H : ((some (([] : List (S65)) : List (S65))).bind fun y309 => (if y309.length + l0_1.length < 4398046511104 then ((some (y309 ++ l0_1 : List (S65))).bind fun y312 => (if y312.length + l0_2.length < 4398046511104 then (some (y312 ++ l0_2)) else (none))) else (none))) = some r := h
 clear h
 obtain ⟨y309, hy309⟩ : ∃ y_ : List (S65), y_ = (([] : List (S65))) := ⟨_, rfl⟩
 replace H : (if y309.length + l0_1.length < 4398046511104 then ((some (y309 ++ l0_1 : List (S65))).bind fun y312 => (if y312.length + l0_2.length < 4398046511104 then (some (y312 ++ l0_2)) else (none))) else (none)) = some r := by first | (rw [hy309]; with_reducible exact H) | (have H2_ := (Option.bind_some _ _).symm.trans H; rw [hy309]; with_reducible exact H2_) | (have H2_ := (Option.bind_some _ _).symm.trans H; with_reducible exact H2_) | with_reducible exact H | (rw [hy309]; exact H) | exact H
 have Ny309 := mk0 hy309
 clear hy309
 by_cases c2 : y309.length + l0_1.length < 4398046511104
 ·rw [if_pos c2] at H
  have LMc2 := mk0 c2
  clear c2
  obtain ⟨y312, hy312⟩ : ∃ y_ : List (S65), y_ = (y309 ++ l0_1) := ⟨_, rfl⟩
  replace H : (if y312.length + l0_2.length < 4398046511104 then (some (y312 ++ l0_2)) else (none)) = some r := by first | (rw [hy312]; with_reducible exact H) | (have H2_ := (Option.bind_some _ _).symm.trans H; rw [hy312]; with_reducible exact H2_) | (have H2_ := (Option.bind_some _ _).symm.trans H; with_reducible exact H2_) | with_reducible exact H | (rw [hy312]; exact H) | exact H
  have Ny312 := mk0 hy312
  clear hy312
  by_cases c3 : y312.length + l0_2.length < 4398046511104
  ·rw [if_pos c3] at H
   have LMc3 := mk0 c3
   clear c3
   obtain ⟨y315, hy315⟩ : ∃ y_ : List (S65), y_ = (y312 ++ l0_2) := ⟨_, rfl⟩
   replace H : (some y315) = some r := by first | (rw [hy315]; with_reducible exact H) | (have H2_ := (Option.bind_some _ _).symm.trans H; rw [hy315]; with_reducible exact H2_) | (have H2_ := (Option.bind_some _ _).symm.trans H; with_reducible exact H2_) | with_reducible exact H | (rw [hy315]; exact H) | exact H
   have Ny315 := mk0 hy315
   clear hy315
   obtain rfl := Option.some.inj H
   go_enter Tryd.func22, Tryd.ntmps22
   try go_wp2_with (first | ((with_reducible refine gate_dst (N := 1) rfl ?_); refine bxE 1 #[.int .i64 a0_0, .slice A0_1 l0_1.length c0_1, .slice A0_2 l0_2.length c0_2] 34 ?_; intro gb308 hg w4 hbox hb; replace HO0_1 := mk0 (Kd.V_below (Kd.V_elderB (uV HO0_1.out) gb308 (Nat.le_of_eq hg.symm)) hb); replace HO0_2 := mk0 (Kd.V_below (Kd.V_elderB (uV HO0_2.out) gb308 (Nat.le_of_eq hg.symm)) hb); have BK308 := mk0 (hbox); have GW308 := mk0 ((by rw [hg]; exact (below_size (uL HB.out)) : w.heap.size ≤ gb308)); have GE308 := mk0 ((by rw [hg]; exact (below_size (uL HB.out)) : w.heap.size ≤ gb308)); replace HB := hbB (uL HB.out) hb; clear hb hbox hg))
   replace HO0_1 := mk0 (Kd.V_drew HO0_1.out)
   replace HO0_2 := mk0 (Kd.V_drew HO0_2.out)
   replace BK308 := mk0 (blk_drew BK308.out)
   replace HB := mk0 (below_drew1 HB.out)
   refine start_ (n := 8) (S := fun w' => w'.cell? ⟨gb308, 0, none⟩ = some (.int .i64 a0_0) ∧ w'.cell? ⟨gb308, 1, none⟩ = some (.slice A0_1 l0_1.length c0_1) ∧ w'.cell? ⟨gb308, 2, none⟩ = some (.slice A0_2 l0_2.length c0_2)) (ds := []) (bts 8 0) (by kernel_rfl) rfl rfl ⟨(blk_cell BK308.out 0).trans rfl, (blk_cell BK308.out 1).trans rfl, (blk_cell BK308.out 2).trans rfl⟩ (fun hHeld => ?_); refine with_tabW furrowref20_all.tab1 furrowref20_all.bits1 (fun HT_ HW_ => ?_)
   generalize w4.drew = w5 at HO0_1 HO0_2 BK308 HB hHeld ⊢
   refine pA 1 (some 4) 0 8 2 HT_ ?_
   refine pA 4 (some 7) 2 8 18 HT_ ?_
   refine tA3 2 (some 5) 18 8 22 HT_ HW_ hHeld ?_
   refine tA3 5 (some 8) 22 8 54 HT_ HW_ hHeld ?_
   refine one_ (i := 0) (N := some 3) (bts 8 55) rfl rfl (one_of HT_.out (by kernel_rfl)) (by decide) (fun K hK => ?_)
   refine Kd.N_lit_step k65 _ 65 ?hg (N' := 3) ?hd (xs := ([] : List (S65))) (inner := []) (ok := (fun k_ => ((P0_1_ k_ ∨ P0_2_ k_) ∨ w.heap.size ≤ k_) ∧ k_ ≠ gb308)) (okp := (fun k_ => ((P0_1_ k_ ∨ P0_2_ k_) ∨ w.heap.size ≤ k_) ∧ k_ ≠ gb308)) ?hr ?hp (fun _ hk => hk) ((show ∀ k_, w5.heap.size ≤ k_ → (fun k_ => ((P0_1_ k_ ∨ P0_2_ k_) ∨ w.heap.size ≤ k_) ∧ k_ ≠ gb308) k_ from fun k_ hk => ⟨(.inr (Nat.le_trans (below_size bH) hk)), Kd.freshB (g := gb308) (o := .cells #[.int .i64 a0_0, .slice A0_1 l0_1.length c0_1, .slice A0_2 l0_2.length c0_2] 34 (0, 0)) (uB BK308.out) k_ hk⟩) _ (Nat.le_refl _)) (Below.refl _ _) (Nat.le_refl _) (by simp) ?_; (case hd => rfl); (case hg => rfl); (case hr => first | (go_simp; done) | (go_simp; rfl)); (case hp => exact (Reps.none _ _))
   intro v310 w6 ho7 hb hg_ hnew_
   clear hg_ hnew_
   (first | rw [← Ny309.out] at ho7 | (simp only [Int.reduceToNat] at ho7; rw [← Ny309.out] at ho7))
   replace HO0_1 := mk0 (Kd.V_elder' (uV HO0_1.out) (Kd.N_base ho7) hb)
   replace HO0_2 := mk0 (Kd.V_elder' (uV HO0_2.out) (Kd.N_base ho7) hb)
   have HO311 := mk0 (Kd.N_lower ho7 (below_size bH))
   replace BK308 := bB BK308 hb
   replace HB := hbB bH hb
   clear hb ho7
   refine hK.out _ _ ⟨(blk_cell BK308.out 0).trans rfl, (blk_cell BK308.out 1).trans rfl, (blk_cell BK308.out 2).trans rfl⟩ (fun hHeld => ?_)
   clear hK K
   refine norm_ (a' := ?_) ?_ ?_
   rotate_left
   ·show Act.put _ (some 3) _ = _
    simp only [Act.put, List.setIfInBounds_toArray, List.set_cons_zero, List.set_cons_succ, i64_w, i32_w]
    rfl
   refine one_ (i := 3) (N := some 6) (bts 8 63) rfl rfl (one_of HT_.out (by kernel_rfl)) (by decide) (fun K hK => ?_)
   refine Kd.N_append_rows_step k65 (w0 := w) w.heap.size (by rfl) (.tmp 3) (.tmp 5) 32 65 (.agg #[(.slice none 0 0), (.int .i64 0)]) 32 rfl Tryd.underlying32 info65 rfl (by decide) (by omega) v310 y309 l0_1 _ _ _ (fun k_ => ((P0_1_ k_ ∨ P0_2_ k_) ∨ w.heap.size ≤ k_) ∧ k_ ≠ gb308) (fun k_ => ((fun k_ => ((P0_1_ k_ ∨ P0_2_ k_) ∨ w.heap.size ≤ k_) ∧ k_ ≠ gb308)) k_ ∧ some k_ ≠ (v310 : Value).ownBlock) rfl rfl ?aO ?aR (fun _ hk => hk) ?aF ?aB ?aS ?aL ?_
   (case aR => exact (by skip; exact Kd.V_F (Kd.V_mono (ok' := (fun k_ => ((fun k_ => ((P0_1_ k_ ∨ P0_2_ k_) ∨ w.heap.size ≤ k_) ∧ k_ ≠ gb308)) k_ ∧ some k_ ≠ (v310 : Value).ownBlock)) (HO0_1.out) (fun k_ hk => ⟨⟨hk.1.1, hk.1.2⟩, hk.2⟩))))
   (case aB => exact bH)
   (case aF => exact (fun k_ hk => ⟨(.inr (Nat.le_trans (below_size bH) hk)), Kd.freshB (g := gb308) (o := .cells #[.int .i64 a0_0, .slice A0_1 l0_1.length c0_1, .slice A0_2 l0_2.length c0_2] 34 (0, 0)) (uB BK308.out) k_ hk⟩))
   (case aO => exact (uN HO311.out))
   (case aS => exact (below_size bH))
   (case aL => have := LMc2.out; omega)
   intro v313 w8 ho hb hg hat
   rw [← Ny312.out] at ho
   have n0_ := mk0 (Kd.V_afterv (ok := (fun k_ => ((P0_1_ k_ ∨ P0_2_ k_) ∨ w.heap.size ≤ k_) ∧ k_ ≠ gb308)) (uV HO0_1.out) hg hat)
   have n1_ := mk0 (Kd.V_afterv (ok := (fun k_ => ((P0_1_ k_ ∨ P0_2_ k_) ∨ w.heap.size ≤ k_) ∧ k_ ≠ gb308)) (uV HO0_2.out) hg hat)
   have n2_ := mk0 (blk_grown (g := gb308) (o := .cells #[.int .i64 a0_0, .slice A0_1 l0_1.length c0_1, .slice A0_2 l0_2.length c0_2] 34 (0, 0)) (uB BK308.out) hg (Kd.N_ne HO311.out BK308.out (by decide)))
   have n3_ := mk0 (hb)
   have n4_ := mk0 (ho)
   clear HO0_1
   clear HO0_2
   clear BK308
   clear HB
   clear HO311
   have HO0_1 := n0_
   have HO0_2 := n1_
   have BK308 := n2_
   have HB := n3_
   have HO314 := n4_
   clear n0_ n1_ n2_ n3_ n4_
   clear ho hb hg hat
   refine hK.out _ _ ⟨(blk_cell BK308.out 0).trans rfl, (blk_cell BK308.out 1).trans rfl, (blk_cell BK308.out 2).trans rfl⟩ (fun hHeld => ?_)
   clear hK K
   refine norm_ (a' := ?_) ?_ ?_
   rotate_left
   ·show Act.put _ (some 6) _ = _
    simp only [Act.put, List.setIfInBounds_toArray, List.set_cons_zero, List.set_cons_succ, i64_w, i32_w]
    rfl
   refine one_ (i := 6) (N := some 9) (bts 8 127) rfl rfl (one_of HT_.out (by kernel_rfl)) (by decide) (fun K hK => ?_)
   refine Kd.N_append_rows_step k65 (w0 := w) w.heap.size (by rfl) (.tmp 6) (.tmp 8) 32 65 (.agg #[(.slice none 0 0), (.int .i64 0)]) 32 rfl Tryd.underlying32 info65 rfl (by decide) (by omega) v313 y312 l0_2 _ _ _ (fun k_ => ((P0_1_ k_ ∨ P0_2_ k_) ∨ w.heap.size ≤ k_) ∧ k_ ≠ gb308) (fun k_ => ((fun k_ => ((P0_1_ k_ ∨ P0_2_ k_) ∨ w.heap.size ≤ k_) ∧ k_ ≠ gb308)) k_ ∧ some k_ ≠ (v313 : Value).ownBlock) rfl rfl ?aO ?aR (fun _ hk => hk) ?aF ?aB ?aS ?aL ?_
   (case aR => exact (by skip; exact Kd.V_F (Kd.V_mono (ok' := (fun k_ => ((fun k_ => ((P0_1_ k_ ∨ P0_2_ k_) ∨ w.heap.size ≤ k_) ∧ k_ ≠ gb308)) k_ ∧ some k_ ≠ (v313 : Value).ownBlock)) (HO0_2.out) (fun k_ hk => ⟨⟨hk.1.1, hk.1.2⟩, hk.2⟩))))
   (case aB => exact bH)
   (case aF => exact (fun k_ hk => ⟨(.inr (Nat.le_trans (below_size bH) hk)), Kd.freshB (g := gb308) (o := .cells #[.int .i64 a0_0, .slice A0_1 l0_1.length c0_1, .slice A0_2 l0_2.length c0_2] 34 (0, 0)) (uB BK308.out) k_ hk⟩))
   (case aO => exact (uN HO314.out))
   (case aS => exact (below_size bH))
   (case aL => have := LMc3.out; omega)
   intro v316 w9 ho hb hg hat
   rw [← Ny315.out] at ho
   have n0_ := mk0 (Kd.V_afterv (ok := (fun k_ => ((P0_1_ k_ ∨ P0_2_ k_) ∨ w.heap.size ≤ k_) ∧ k_ ≠ gb308)) (uV HO0_1.out) hg hat)
   have n1_ := mk0 (Kd.V_afterv (ok := (fun k_ => ((P0_1_ k_ ∨ P0_2_ k_) ∨ w.heap.size ≤ k_) ∧ k_ ≠ gb308)) (uV HO0_2.out) hg hat)
   have n2_ := mk0 (blk_grown (g := gb308) (o := .cells #[.int .i64 a0_0, .slice A0_1 l0_1.length c0_1, .slice A0_2 l0_2.length c0_2] 34 (0, 0)) (uB BK308.out) hg (Kd.N_ne HO314.out BK308.out (by decide)))
   have n3_ := mk0 (hb)
   have n4_ := mk0 (ho)
   clear HO0_1
   clear HO0_2
   clear BK308
   clear HB
   clear HO314
   have HO0_1 := n0_
   have HO0_2 := n1_
   have BK308 := n2_
   have HB := n3_
   have HO317 := n4_
   clear n0_ n1_ n2_ n3_ n4_
   clear ho hb hg hat
   refine hK.out _ _ ⟨(blk_cell BK308.out 0).trans rfl, (blk_cell BK308.out 1).trans rfl, (blk_cell BK308.out 2).trans rfl⟩ (fun hHeld => ?_)
   clear hK K
   refine norm_ (a' := ?_) ?_ ?_
   rotate_left
   ·show Act.put _ (some 9) _ = _
    simp only [Act.put, List.setIfInBounds_toArray, List.set_cons_zero, List.set_cons_succ, i64_w, i32_w]
    rfl
   refine pA 7 (some 2) 127 8 255 HT_ ?_
   refine done_ (done_of HT_.out (by kernel_rfl)) ?_
   try go_wp2
   go_ret
   exact ⟨_, rE, uN (Kd.N_mono HO317.out (fun _ hk => hk.1)), bH⟩
  ·rw [if_neg c3] at H
   exact absurd H (by simp)
 ·rw [if_neg c2] at H
  exact absurd H (by simp)

/-! ### furrowref20_beyond: function 23 -/
def furrowref20_beyond.f (a0 : Int) (a1 : Int) : Option (Bool) := if a0 > a1 then (some true) else (some (decide (a0 < (wrap64 (-a1)))))
set_option maxHeartbeats 8000000 in
set_option maxRecDepth 100000 in
theorem furrowref20_beyond.calls (a0 : Int) (a1 : Int) (r : Bool) (w : World) (h : furrowref20_beyond.f a0 a1 = some r) :
  Calls Tryd.prog 23 #[.int .i64 a0, .int .i64 a1] w fun e w' => e = .returned (.bool r) ∧ Drawn0 w w' := by
 have H : (if a0 > a1 then (some true) else (some (decide (a0 < (wrap64 (-a1)))))) = some r := h
 clear h
 by_cases c3 : a0 > a1
 ·rw [if_pos c3] at H
  have c3b0 : decide (a1 < a0) = true := decide_eq_true c3
  clear c3
  obtain rfl := Option.some.inj H
  go_enter Tryd.func23, Tryd.ntmps23
  go_wp2
  go_ret
  exact ⟨by first | rfl | (simp; done) | (simp [*]; done) | (simp [bne_nil_, beq_nil_]; done), by repeat (first | exact Drawn0.refl _ | apply Drawn0.step)⟩
 ·rw [if_neg c3] at H
  have c3b0 : decide (a1 < a0) = false := decide_eq_false c3
  clear c3
  obtain rfl := Option.some.inj H
  go_enter Tryd.func23, Tryd.ntmps23
  go_wp2
  go_ret
  exact ⟨by first | rfl | (simp; done) | (simp [*]; done) | (simp [bne_nil_, beq_nil_]; done), by repeat (first | exact Drawn0.refl _ | apply Drawn0.step)⟩

end Go.Proofs.YtkkpgjkjkcmcbaaDoor.X
