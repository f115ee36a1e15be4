-- PRINTED by print.py (a twelfth state) out of the translation. Not trusted: Lean checks it.
import Derived.Test.YtnkckdbjeemjeaaDoorXx0
import Derived.Test.YtnkckdbjeemjeaaDoorXx1
import Derived.Test.YtnkckdbjeemjeaaDoorXx2
namespace Go.Proofs.YtnkckdbjeemjeaaDoor.X
open Go.Proofs.YtnkckdbjeemjeaaDoor.Flt Go.Proofs.YtnkckdbjeemjeaaDoor.H Go.RowKit Go.Proofs.YtnkckdbjeemjeaaDoorW.PrintWords Go.Proofs.YtnkckdbjeemjeaaDoorW.PrintLast Go.Proofs.YtnkckdbjeemjeaaDoorW.PrintMore
attribute [local go_sem] max2_int min2_int max_two min_two max_three min_three max_four min_four   -- for this text's walks alone
set_option linter.unusedVariables false
set_option linter.unusedSimpArgs false

/-! ### lift_constant: function 48 -/
def lift_constant.f (k : Nat) (l0_0 : List Int) (a0_1 : Int) : Option (Bool) := (lin_Const.f 0 a0_1).bind fun bt132 => ((lin_Same.f k l0_0 a0_1 bt132.1 bt132.2).bind fun t136 => (some t136))
theorem lift_constant.mono : ∀ a0 a1 k, LeO (lift_constant.f k a0 a1) (lift_constant.f (k + 1) a0 a1) := by
 intro a0 a1 k
 have m0_ := @lin_Same.mono; unfold lift_constant.f; exact lO_
set_option maxHeartbeats 8000000 in
set_option maxRecDepth 100000 in
theorem lift_constant.calls (k : Nat) (A0_0 : Option Addr) (c0_0 : Nat) (l0_0 : List Int) (a0_1 : Int) (r : Bool) (w : World) (hr0_0 : Kd.C (Kd.int .i64) w A0_0 l0_0.length l0_0) (hc0_0 : l0_0.length ≤ c0_0) (h : lift_constant.f k l0_0 a0_1 = some r) :
  Calls Tryd.prog 48 #[.agg #[.slice A0_0 l0_0.length c0_0, .int .i64 a0_1]] w fun e w' => e = .returned (.bool r) ∧ Below w.heap.size w w' := by
 have hu32 := Tryd.underlying32
 have al := mk0 hr0_0
 have am := mk0 hc0_0
 clear hr0_0 hc0_0
 have HB := mk0 (Below.refl w.heap.size w)
 have H : ((lin_Const.f 0 a0_1).bind fun ag => ((lin_Same.f k l0_0 a0_1 ag.1 ag.2).bind fun ab => (some ab))) = some r := h
 clear h
 replace H := Option.bind_eq_some_iff.mp H
 obtain ⟨⟨ac, ae⟩, ah, H⟩ := H
 dsimp only at H
 have A2 := mk0 ah
 clear ah
 replace H := Option.bind_eq_some_iff.mp H
 obtain ⟨ab, ai, H⟩ := H
 have A3 := mk0 ai
 clear ai
 obtain rfl := Option.some.inj H
 go_enter Tryd.func48, Tryd.ntmps48
 try go_wp2_with (first | ((with_reducible refine gate_dst (N := 1) rfl ?_); refine bxE 1 #[.slice A0_0 l0_0.length c0_0, .int .i64 a0_1] 32 ?_; intro aj hg w4 hbox hb; have aa := mk0 (hbox); have aq := gE (uL HB.out) hg; replace HB := hbB (uL HB.out) hb; clear hb hbox hg))
 replace aa := mk0 (blk_drew aa.out)
 replace HB := mk0 (below_drew1 HB.out)
 refine start_ (n := 6) (S := fun w' => w'.cell? ⟨aj, 0, none⟩ = some (.slice A0_0 l0_0.length c0_0) ∧ w'.cell? ⟨aj, 1, none⟩ = some (.int .i64 a0_1)) (ds := []) (bts 6 0) (by kernel_rfl) rfl rfl ⟨(blk_cell aa.out 0).trans rfl, (blk_cell aa.out 1).trans rfl⟩ (fun hHeld => ?_)
 generalize w4.drew = w5 at aa HB hHeld ⊢
 refine pure_ (i := 1) (N := some 4) (v := ?_) (a' := ?_) (bts 6 2) rfl rfl (by kernel_rfl) (fun _ _ _ h => h) (Or.inl ⟨by rfl, ?_⟩) ?_ ?_
 rotate_left
 ·intro w'
  go_simp; (with_reducible rfl)
 rotate_left
 ·simp only [AP, i64_w, i32_w]
  rfl
 refine take_ (i := 0) (N := some 3) (v := ?_) (a' := ?_) (bts 6 3) rfl rfl (by kernel_rfl) (fun _ _ _ h => h) (Or.inl ⟨by rfl, ?_⟩) hHeld ?_ ?_
 rotate_left
 ·rintro w' ⟨s0, s1⟩
  go_simp; (with_reducible rfl)
 rotate_left
 ·simp only [AP, i64_w, i32_w]
  rfl
 refine take_ (i := 2) (N := some 5) (v := ?_) (a' := ?_) (bts 6 7) rfl rfl (by kernel_rfl) (fun _ _ _ h => h) (Or.inl ⟨by rfl, ?_⟩) hHeld ?_ ?_
 rotate_left
 ·rintro w' ⟨s0, s1⟩
  go_simp; (with_reducible rfl)
 rotate_left
 ·simp only [AP, i64_w, i32_w]
  rfl
 refine one_ (i := 3) (N := some 6) (bts 6 15) rfl rfl (by kernel_rfl) (by decide) (fun K hK => ?_)
 refine goes_ Tryd.func27 (by kernel_rfl) rfl #[.int .i64 0, .int .i64 a0_1] (by rfl) rfl rfl (by (try simp only [List.map_toArray, List.map_cons, List.map_nil]); first | done | rfl | (simp only [List.length_drop, List.length_take]; rfl)) ?_
 with_reducible refine (lin_Const.calls 0 a0_1 ac ae _ A2.out).mono ?_
 rintro e w6 ⟨ar, rfl, ho0, hb⟩
 refine ⟨_, rfl, ?_⟩
 have af := mk0 (Kd.R_lower ho0 (below_size bH))
 replace aa := bB aa hb
 replace HB := hbB bH hb
 (try clear hb)
 (try clear ho0)
 obtain ⟨ao, ap, ak⟩ := Kd.R_slice af.out
 (first | subst ak | (injection ak with f1_ f2_ f3_; have f4_ := f1_.symm; have f5_ := f3_.symm; clear f1_ f2_ f3_; subst f4_; subst f5_))
 refine hK.out _ _ ⟨(blk_cell aa.out 0).trans rfl, (blk_cell aa.out 1).trans rfl⟩ (fun hHeld => ?_)
 clear hK K
 refine norm_ (a' := ?_) ?_ ?_
 rotate_left
 ·show Act.put _ (some 6) _ = _
  simp only [AP, i64_w, i32_w]; rfl
 refine one_ (i := 4) (N := some 7) (bts 6 31) rfl rfl (by kernel_rfl) (by decide) (fun K hK => ?_)
 refine goes_ Tryd.func61 (by kernel_rfl) rfl #[.agg #[.slice A0_0 l0_0.length c0_0, .int .i64 a0_1], .agg #[.slice ao ac.length ap, .int .i64 ae]] (by rfl) rfl rfl (by (try simp only [List.map_toArray, List.map_cons, List.map_nil]); first | done | rfl | (simp only [List.length_drop, List.length_take]; rfl)) ?_
 with_reducible refine (lin_Same.calls k _ _ l0_0 a0_1 _ _ ac ae ab _ ?side1 ?side2 ?side3 ?side4 A3.out).mono ?_
 (case side1 => exact uC (Kd.C_below al.out HB.out))
 (case side2 => exact am.out)
 (case side3 => exact uC ((Kd.R_reads' af.out).2.2))
 (case side4 => exact (Kd.R_reads' af.out).2.1)
 rintro e w8 ⟨rfl, hb⟩
 refine ⟨_, rfl, ?_⟩
 replace aa := bB aa hb
 replace HB := hbB bH hb
 (try clear hb)
 refine hK.out _ _ ⟨(blk_cell aa.out 0).trans rfl, (blk_cell aa.out 1).trans rfl⟩ (fun hHeld => ?_)
 clear hK K
 refine norm_ (a' := ?_) ?_ ?_
 rotate_left
 ·show Act.put _ (some 7) _ = _
  simp only [AP, i64_w, i32_w]; rfl
 refine pure_ (i := 5) (N := some 2) (v := ?_) (a' := ?_) (bts 6 63) rfl rfl (by kernel_rfl) (fun _ _ _ h => h) (Or.inl ⟨by rfl, ?_⟩) ?_ ?_
 rotate_left
 ·intro w'
  go_simp; (with_reducible rfl)
 rotate_left
 ·simp only [AP, i64_w, i32_w]
  rfl
 refine done_ (by kernel_rfl) ?_
 try go_wp2
 go_ret
 exact ⟨rE, bH⟩

/-! ### num_Sub: function 52 -/
def num_Sub.f (a0 : Int) (a1 : Int) : Option (Int × Bool) := if ((decide (a0 < 0)) != (decide (a1 < 0))) = true then (if ((decide ((wrap64 (a0 - a1)) < 0)) != (decide (a0 < 0))) = true then (some (0, false)) else (some (wrap64 (a0 - a1), true))) else (some (wrap64 (a0 - a1), true))
set_option maxHeartbeats 8000000 in
set_option maxRecDepth 100000 in
theorem num_Sub.calls (a0 : Int) (a1 : Int) (r1 : Int) (r2 : Bool) (w : World) (h : num_Sub.f a0 a1 = some (r1, r2)) :
  Calls Tryd.prog 52 #[.int .i64 a0, .int .i64 a1] w fun e w' => e = .returned (.tuple #[.int .i64 r1, .bool r2]) ∧ Drawn0 w w' := by
 have H : (if ((decide (a0 < 0)) != (decide (a1 < 0))) = true then (if ((decide ((wrap64 (a0 - a1)) < 0)) != (decide (a0 < 0))) = true then (some (0, false)) else (some (wrap64 (a0 - a1), true))) else (some (wrap64 (a0 - a1), true))) = some (r1, r2) := h
 clear h
 by_cases c3 : ((decide (a0 < 0)) != (decide (a1 < 0))) = true
 ·rw [if_pos c3] at H
  have c3b0 : ((decide (a0 < 0)) != (decide (a1 < 0))) = true := c3; (try (have c3b1 : decide ((decide (a0 < 0)) = (decide (a1 < 0))) = false := by (revert c3; generalize ((decide (a0 < 0))) = p_; generalize ((decide (a1 < 0))) = q_; revert p_ q_; decide))); (try (have c3b2 : ((decide (a0 < 0)) == (decide (a1 < 0))) = false := by (revert c3; generalize ((decide (a0 < 0))) = p_; generalize ((decide (a1 < 0))) = q_; revert p_ q_; decide))); (try (have c3b3 : ¬ ((decide (a0 < 0)) = (decide (a1 < 0))) := by (revert c3; generalize ((decide (a0 < 0))) = p_; generalize ((decide (a1 < 0))) = q_; revert p_ q_; decide))); clear c3
  by_cases c4 : ((decide ((wrap64 (a0 - a1)) < 0)) != (decide (a0 < 0))) = true
  ·rw [if_pos c4] at H
   have c4b0 : ((decide ((wrap64 (a0 - a1)) < 0)) != (decide (a0 < 0))) = true := c4; (try (have c4b1 : decide ((decide ((wrap64 (a0 - a1)) < 0)) = (decide (a0 < 0))) = false := by (revert c4; generalize ((decide ((wrap64 (a0 - a1)) < 0))) = p_; generalize ((decide (a0 < 0))) = q_; revert p_ q_; decide))); (try (have c4b2 : ((decide ((wrap64 (a0 - a1)) < 0)) == (decide (a0 < 0))) = false := by (revert c4; generalize ((decide ((wrap64 (a0 - a1)) < 0))) = p_; generalize ((decide (a0 < 0))) = q_; revert p_ q_; decide))); (try (have c4b3 : ¬ ((decide ((wrap64 (a0 - a1)) < 0)) = (decide (a0 < 0))) := by (revert c4; generalize ((decide ((wrap64 (a0 - a1)) < 0))) = p_; generalize ((decide (a0 < 0))) = q_; revert p_ q_; decide))); clear c4; simp only [Option.some.injEq, Prod.mk.injEq] at H; obtain ⟨rfl, rfl⟩ := H; go_enter Tryd.func52, Tryd.ntmps52; go_wp2
   all_goals (try (exfalso; rename_i h_; rw [c3b2] at h_; revert h_; decide))
   all_goals (try (exfalso; rename_i h_; rw [c4b2] at h_; revert h_; decide))
   go_ret2
   exact ⟨eK, by repeat (first | exact Drawn0.refl _ | apply Drawn0.step)⟩
  ·rw [if_neg c4] at H
   (have c4b0 : ((decide ((wrap64 (a0 - a1)) < 0)) != (decide (a0 < 0))) = false := by simpa using c4); (try (have c4b1 : decide ((decide ((wrap64 (a0 - a1)) < 0)) = (decide (a0 < 0))) = true := by (revert c4; generalize ((decide ((wrap64 (a0 - a1)) < 0))) = p_; generalize ((decide (a0 < 0))) = q_; revert p_ q_; decide))); (try (have c4b2 : ((decide ((wrap64 (a0 - a1)) < 0)) == (decide (a0 < 0))) = true := by (revert c4; generalize ((decide ((wrap64 (a0 - a1)) < 0))) = p_; generalize ((decide (a0 < 0))) = q_; revert p_ q_; decide))); clear c4; simp only [Option.some.injEq, Prod.mk.injEq] at H; obtain ⟨rfl, rfl⟩ := H; go_enter Tryd.func52, Tryd.ntmps52; go_wp2
   all_goals (try (exfalso; rename_i h_; rw [c3b2] at h_; revert h_; decide))
   all_goals (try (exfalso; rename_i h_; rw [c4b2] at h_; revert h_; decide))
   go_ret2
   exact ⟨eK, by repeat (first | exact Drawn0.refl _ | apply Drawn0.step)⟩
 ·rw [if_neg c3] at H
  (have c3b0 : ((decide (a0 < 0)) != (decide (a1 < 0))) = false := by simpa using c3); (try (have c3b1 : decide ((decide (a0 < 0)) = (decide (a1 < 0))) = true := by (revert c3; generalize ((decide (a0 < 0))) = p_; generalize ((decide (a1 < 0))) = q_; revert p_ q_; decide))); (try (have c3b2 : ((decide (a0 < 0)) == (decide (a1 < 0))) = true := by (revert c3; generalize ((decide (a0 < 0))) = p_; generalize ((decide (a1 < 0))) = q_; revert p_ q_; decide))); clear c3; simp only [Option.some.injEq, Prod.mk.injEq] at H; obtain ⟨rfl, rfl⟩ := H; go_enter Tryd.func52, Tryd.ntmps52; go_wp2
  all_goals (try (exfalso; rename_i h_; rw [c3b2] at h_; revert h_; decide))
  go_ret2
  exact ⟨eK, by repeat (first | exact Drawn0.refl _ | apply Drawn0.step)⟩

/-! ### lift_less: function 33 -/
def lift_less.l0 : Nat → List Int → Int → Int → List Int → Int → List Int → Int → List Int → Int → Option (List Int × Int × Option Int)
 | 0, _, _, _, _, _, _, _, _, _ => none
 | k + 1, x15, x16, x17, x157000, x157001, x158000, x158001, x160000, x160001 => if x17 < x16 then (if 0 ≤ x17 then (if x17 < (x15.length : Int) then (if x17 < (x158000.length : Int) then ((num_Sub.f (rd x15 x17) (rd x158000 x17)).bind fun bt162 => (if bt162.2 = true then (if x160000.length < 17592186044416 then (lift_less.l0 k x15 x16 (wrap64 (x17 + 1)) x157000 x157001 x158000 x158001 (x160000 ++ [bt162.1]) x160001) else (none)) else (none))) else (none)) else (none)) else (none)) else ((num_Sub.f x157001 x158001).bind fun bt167 => (if bt167.2 = true then (some (x160000, bt167.1, none)) else (none)))
def lift_less.f (k : Nat) (l0_0 : List Int) (a0_1 : Int) (l1_0 : List Int) (a1_1 : Int) : Option (List Int × Int × Option Int) := lift_less.l0 k l0_0 (l0_0.length : Int) 0 l0_0 a0_1 l1_0 a1_1 ([] : List Int) 0
theorem lift_less.mono_l : ∀ k, (∀ y0 y1 y2 y3 y4 y5 y6 y7 y8, LeO (lift_less.l0 k y0 y1 y2 y3 y4 y5 y6 y7 y8) (lift_less.l0 (k + 1) y0 y1 y2 y3 y4 y5 y6 y7 y8))
 | 0 => fun _ _ _ _ _ _ _ _ _ r h => by simp [lift_less.l0] at h
 | k + 1 => by
  have ih0 := lift_less.mono_l k
  ·intro y0 y1 y2 y3 y4 y5 y6 y7 y8
   unfold lift_less.l0
   repeat' first
   | (with_reducible exact ih0 _ _ _ _ _ _ _ _ _)
   | (with_reducible exact LeO.refl _)
   | (with_reducible exact LeO.none _)
   | (with_reducible refine LeO.ite ?_ ?_)
   | (with_reducible refine LeO.bind ?_ (fun _ => ?_))
   | exact ih0 _ _ _ _ _ _ _ _ _
   | exact LeO.none _
   | refine LeO.ite ?_ ?_
   | refine LeO.bind ?_ (fun _ => ?_)
theorem lift_less.mono : ∀ a0 a1 a2 a3 k, LeO (lift_less.f k a0 a1 a2 a3) (lift_less.f (k + 1) a0 a1 a2 a3) := by
 intro a0 a1 a2 a3 k
 have ih0 := lift_less.mono_l k
 unfold lift_less.f
 repeat' first
   | (with_reducible exact ih0 _ _ _ _ _ _ _ _ _)
   | (with_reducible exact LeO.refl _)
   | (with_reducible exact LeO.none _)
   | (with_reducible refine LeO.ite ?_ ?_)
   | (with_reducible refine LeO.bind ?_ (fun _ => ?_))
   | exact ih0 _ _ _ _ _ _ _ _ _
   | exact LeO.none _
   | refine LeO.ite ?_ ?_
   | refine LeO.bind ?_ (fun _ => ?_)
set_option maxHeartbeats 8000000 in
set_option maxRecDepth 100000 in
theorem lift_less.calls (k : Nat) (A0_0 : Option Addr) (c0_0 : Nat) (l0_0 : List Int) (a0_1 : Int) (A1_0 : Option Addr) (c1_0 : Nat) (l1_0 : List Int) (a1_1 : Int) (r1 : List Int) (r2 : Int) (r3 : Option Int) (w : World) (hr0_0 : Kd.C (Kd.int .i64) w A0_0 l0_0.length l0_0) (hc0_0 : l0_0.length ≤ c0_0) (hr1_0 : Kd.C (Kd.int .i64) w A1_0 l1_0.length l1_0) (hc1_0 : l1_0.length ≤ c1_0) (h : lift_less.f k l0_0 a0_1 l1_0 a1_1 = some (r1, r2, r3)) :
  Calls Tryd.prog 33 #[.agg #[.slice A0_0 l0_0.length c0_0, .int .i64 a0_1], .agg #[.slice A1_0 l1_0.length c1_0, .int .i64 a1_1]] w fun e w' => ∃ v0_ : Value, e = .returned (.tuple #[.agg #[v0_, .int .i64 r2], errW r3]) ∧ Kd.R (Kd.int .i64) 2 w' w.heap.size (fun _ => True) v0_ r1 ∧ Below w.heap.size w w' := by
 have hu32 := Tryd.underlying32
 have bm := mk0 hr0_0
 have bQ := mk0 hc0_0
 clear hr0_0 hc0_0
 have bn := mk0 hr1_0
 have bR := mk0 hc1_0
 clear hr1_0 hc1_0
 have HB := mk0 (Below.refl w.heap.size w)
 have H : (lift_less.l0 k l0_0 (l0_0.length : Int) 0 l0_0 a0_1 l1_0 a1_1 ([] : List Int) 0) = some (r1, r2, r3) := h
 clear h
 have H' := mk0 H
 clear H
 go_enter Tryd.func33, Tryd.ntmps33
 go_wp2_with (first | ((with_reducible refine gate_dst (N := 2) rfl ?_); refine bxE 2 #[.slice A0_0 l0_0.length c0_0, .int .i64 a0_1] 32 ?_; intro ay hg w3 hbox hb; have aa := mk0 (hbox); have bT := gE (uL HB.out) hg; replace HB := hbB (uL HB.out) hb; clear hb hbox hg) | ((with_reducible refine gate_dst (N := 3) rfl ?_); refine bxE 3 #[.slice A1_0 l1_0.length c1_0, .int .i64 a1_1] 32 ?_; intro az hg w4 hbox hb; have ab := mk0 (hbox); have bU := gE bH hg; replace HB := hbB bH hb; have aA := nL aa hg; have aC := nG aa hg; replace aa := bB aa hb; clear hb hbox hg) | ((with_reducible refine gate_dst (N := 4) rfl ?_); refine bxE 4 #[.slice none 0 0, .int .i64 0] 32 ?_; intro aj hg w5 hbox hb; have ae := mk0 (hbox); have bV := gE bH hg; replace HB := hbB bH hb; have aU := nL aa hg; have aV := nG aa hg; replace aa := bB aa hb; have aW := nL ab hg; have aX := nG ab hg; replace ab := bB ab hb; clear hb hbox hg) | ((with_reducible refine gate_dst (N := 6) rfl ?_); refine bxE 6 #[.slice none 0 0, .int .i64 0] 32 ?_; intro al hg w6 hbox hb; have af := mk0 (hbox); have bW := gE bH hg; replace HB := hbB bH hb; have aD := nL aa hg; have aE := nG aa hg; replace aa := bB aa hb; have aG := nL ab hg; have aH := nG ab hg; replace ab := bB ab hb; have aI := nL ae hg; have aJ := nG ae hg; replace ae := bB ae hb; clear hb hbox hg; have bX := aE.out; have bY := aD.out; have bZ := aH.out; have b3 := aG.out; have b4 := aJ.out; have b5 := aI.out; obtain ⟨bo, bp, bq, br⟩ := cL2 af; have b6 := aA.out; have b7 := aC.out; have b8 := aU.out; have b9 := aV.out; obtain ⟨bs, bu, bv, bw⟩ := cL2 aa))
 go_loopg [17] k (fun kq v17 w' => ∃ (ac : Int) (ah : List Int) (ai : Value), v17 = .int .i64 ac ∧ Aside0 (lift_less.l0 kq l0_0 (l0_0.length : Int) ac l0_0 a0_1 l1_0 a1_1 ah 0 = some (r1, r2, r3)) ∧ Aside0 (kq ≤ k) ∧ Aside0 (Kd.R (Kd.int .i64) 2 w' w.heap.size (fun _ => True) ai ah) ∧ Aside0 (w'.heap[ay]? = some (.cells #[(.slice A0_0 l0_0.length c0_0), .int .i64 a0_1] 32 (0, 0))) ∧ Aside0 (w'.heap[az]? = some (.cells #[(.slice A1_0 l1_0.length c1_0), .int .i64 a1_1] 32 (0, 0))) ∧ Aside0 (w'.heap[aj]? = some (.cells #[(.slice none 0 0), .int .i64 0] 32 (0, 0))) ∧ Aside0 (w'.heap[al]? = some (.cells #[ai, .int .i64 0] 32 (0, 0))) ∧ Aside0 (Below w.heap.size w w'))
 case atStart => exact ⟨(0), (([] : List Int)), (.slice none 0 0), eK, H', ⟨Nat.le_refl _⟩, ⟨nK⟩, ⟨kB⟩, ⟨kB⟩, ⟨kB⟩, ⟨kB⟩, ⟨bH⟩⟩
 case round =>
  clear H'; (try clear bo bp bs bu bq br bv bw); obtain ⟨ac, ah, ai, rfl, HA, aY, ag, aa, ab, ae, af, HB⟩ := hrel
  cases gk with
  | zero => exact absurd HA.out (by simp [lift_less.l0])
  | succ k1 =>
   have H := HA.out; clear HA; simp only [lift_less.l0] at H
   by_cases ak : ac < (l0_0.length : Int)
   ·rw [if_pos ak] at H
    have bx := decide_eq_true ak; clear ak
    by_cases am : 0 ≤ ac
    ·rw [if_pos am] at H
     have cd := decide_eq_true am; clear am
     by_cases ao : ac < (l0_0.length : Int)
     ·rw [if_pos ao] at H
      have ce := decide_eq_true ao; clear ao
      by_cases ap : ac < (l1_0.length : Int)
      ·rw [if_pos ap] at H
       have cf := decide_eq_true ap; clear ap; replace H := Option.bind_eq_some_iff.mp H; obtain ⟨⟨aq, bz⟩, aZ, H⟩ := H; dsimp only at H; have bC := mk0 aZ; clear aZ
       by_cases ar : bz = true
       ·subst ar
        replace H := iT H
        by_cases au : ah.length < 17592186044416
        ·rw [if_pos au] at H
         have bE := mk0 au; clear au; obtain ⟨av, aK⟩ : ∃ y_ : List Int, y_ = (ah ++ [aq]) := ⟨_, rfl⟩; (replace H : (lift_less.l0 k1 l0_0 (l0_0.length : Int) (wrap64 (ac + 1)) l0_0 a0_1 l1_0 a1_1 av 0) = some (r1, r2, r3) := by (try rw [aK]); first | with_reducible exact H | with_reducible exact oN H | exact H); have bF := mk0 aK; clear aK; have H' := mk0 H; clear H; have aM : 0 ≤ (ac : Int) := dY; have aN : ac < (l0_0.length : Int) := dY; obtain ⟨bG, bI, a_⟩ := Kd.at_int bm.out ac aM aN
         cases bI
         replace a_ := oC HB a_; replace aM := eq_true aM; replace aN := eq_true aN; have cg := aC.out; have ch := aA.out; have ci := aW.out; have cj := aX.out; have ck := aG.out; have cl := aH.out; obtain ⟨cm, cn, cp, cq⟩ := cL2 ab; have aQ : 0 ≤ (ac : Int) := dY; have aT : ac < (l1_0.length : Int) := dY; obtain ⟨bJ, bK, bf⟩ := Kd.at_int bn.out ac aQ aT
         cases bK
         replace bf := oC HB bf; replace aQ := eq_true aQ; replace aT := eq_true aT
         go_wp2_with (first | ((with_reducible refine gate_dst (N := 29) rfl ?_); refine gsM (some 29) Tryd.func52 #[.int .i64 (rd l0_0 ac), .int .i64 (rd l1_0 ac)] ?_; (with_reducible refine (num_Sub.calls (rd l0_0 ac) (rd l1_0 ac) aq true _ bC.out).mono ?_); rintro e w' ⟨rfl, ⟨nd, rfl⟩⟩; refine ⟨_, rfl, ?_⟩; (try (rw [drewN_self wr]; generalize hq_ : World.drewN wr _ = wr; have n0_ : Aside0 (Kd.R (Kd.int .i64) 2 wr w.heap.size (fun _ => True) ai ah) := ⟨by rw [← hq_]; exact (uR ag.out)⟩; have n1_ : Aside0 (wr.heap[ay]? = some (.cells #[.slice (some bG) l0_0.length c0_0, .int .i64 a0_1] 32 (0, 0))) := ⟨by rw [← hq_]; exact (uB aa.out)⟩; have n2_ : Aside0 (wr.heap[az]? = some (.cells #[.slice (some bJ) l1_0.length c1_0, .int .i64 a1_1] 32 (0, 0))) := ⟨by rw [← hq_]; exact (uB ab.out)⟩; have n3_ : Aside0 (wr.heap[aj]? = some (.cells #[.slice none 0 0, .int .i64 0] 32 (0, 0))) := ⟨by rw [← hq_]; exact (uB ae.out)⟩; have n4_ : Aside0 (wr.heap[al]? = some (.cells #[ai, .int .i64 0] 32 (0, 0))) := ⟨by rw [← hq_]; exact (uB af.out)⟩; have n5_ : Aside0 (Below w.heap.size w wr) := ⟨by rw [← hq_]; exact bH⟩; clear ag aa ab ae af HB hq_; have ag := n0_; have aa := n1_; have ab := n2_; have ae := n3_; have af := n4_; have HB := n5_; clear n0_ n1_ n2_ n3_ n4_ n5_)); have cr := aE.out; have ct := aD.out; have cu := aJ.out; have cv := aI.out; obtain ⟨cw, cx, cy, cz⟩ := cL2 af) | ((with_reducible refine gate_builtin (b := .append) (xs := #[.tmp 37, .tmp 39]) rfl ?_); at_builtin; refine Kd.R_append (Kd.int .i64) (w0 := w) w.heap.size rfl (.tmp 37) (.tmp 39) 30 2 (.int .i64 0) 8 rfl Tryd.underlying30 info2 rfl (by decide) (by omega) ai ah aq [.int .i64 aq] (fun _ => True) (fun _ => False) rfl rfl ?aP (fun _ hk => hk.elim) ?aF ?aO ?aB ?aS ?aL ?_; (case aP => exact rfl); (case aB => exact bH); (case aF => exact (fun _ _ => trivial)); (case aO => exact (uR ag.out)); (case aS => exact (below_size bH)); (case aL => have := bE.out; omega); intro cA cD ho hb hg hat; rw [← bF.out] at ho; have n0_ := (gB aa hg (Kd.R_ne ag.out aa.out (by decide))); have n1_ := (gB ab hg (Kd.R_ne ag.out ab.out (by decide))); have n2_ := (gB ae hg (Kd.R_ne ag.out ae.out (by decide))); have n3_ := (gB af hg (Kd.R_ne ag.out af.out (by decide))); have n4_ := mk0 (hb); have n5_ := mk0 (ho); clear aa ab ae af HB ag; have aa := n0_; have ab := n1_; have ae := n2_; have af := n3_; have HB := n4_; have bg := n5_; clear n0_ n1_ n2_ n3_ n4_ n5_; clear ho hb hg hat; obtain ⟨bh, bi, bL⟩ := Kd.R_slice bg.out; subst bL; obtain ⟨cE, cF, cG, cH⟩ := cL2 af))
         go_roundg k1
         case measure => have := aY.out; omega
         case rel => exact ⟨(wrap64 (ac + 1)), (av), (.slice bh av.length bi), eK, H', ⟨by have := aY.out; omega⟩, ⟨uR (Kd.R_mono (Kd.R_far (p := ⟨al, 0, none⟩) (Kd.R_types bg.out af.out (by decide)) (fun _ hk => hk.2) (.slice bh av.length bi)) (fun _ hk => trivial))⟩, ⟨kB⟩, ⟨kB⟩, ⟨kB⟩, ⟨kB⟩, ⟨bH⟩⟩
        ·exact nO H au
       ·replace ar := Bool.eq_false_iff.mpr ar
        subst ar; replace H := iF H; exact absurd H (by simp)
      ·exact nO H ap
     ·exact nO H ao
    ·exact nO H am
   ·rw [if_neg ak] at H
    have bx := decide_eq_false ak; clear ak; replace H := Option.bind_eq_some_iff.mp H; obtain ⟨⟨aw, bM⟩, bj, H⟩ := H; dsimp only at H; have bO := mk0 bj; clear bj
    by_cases ax : bM = true
    ·subst ax
     replace H := iT H; simp only [Option.some.injEq, Prod.mk.injEq] at H; obtain ⟨rfl, rfl, rfl⟩ := H; have cI := aA.out; have cJ := aC.out; have cK := aU.out; have cL := aV.out; have cM := aD.out; have cN := aE.out; obtain ⟨cO, cP, cR, cS⟩ := cL2 aa; have cT := aW.out; have cU := aX.out; have cV := aG.out; have cW := aH.out; obtain ⟨cX, cY, cZ, c_⟩ := cL2 ab
     go_wp2_with (first | ((with_reducible refine gate_dst (N := 48) rfl ?_); refine gsM (some 48) Tryd.func52 #[.int .i64 a0_1, .int .i64 a1_1] ?_; (with_reducible refine (num_Sub.calls a0_1 a1_1 aw true _ bO.out).mono ?_); rintro e w' ⟨rfl, ⟨nd, rfl⟩⟩; refine ⟨_, rfl, ?_⟩; (try (rw [drewN_self wr]; generalize hq_ : World.drewN wr _ = wr; have n0_ : Aside0 (Kd.R (Kd.int .i64) 2 wr w.heap.size (fun _ => True) ai ah) := ⟨by rw [← hq_]; exact (uR ag.out)⟩; have n1_ : Aside0 (wr.heap[ay]? = some (.cells #[.slice A0_0 l0_0.length c0_0, .int .i64 a0_1] 32 (0, 0))) := ⟨by rw [← hq_]; exact (uB aa.out)⟩; have n2_ : Aside0 (wr.heap[az]? = some (.cells #[.slice A1_0 l1_0.length c1_0, .int .i64 a1_1] 32 (0, 0))) := ⟨by rw [← hq_]; exact (uB ab.out)⟩; have n3_ : Aside0 (wr.heap[aj]? = some (.cells #[.slice none 0 0, .int .i64 0] 32 (0, 0))) := ⟨by rw [← hq_]; exact (uB ae.out)⟩; have n4_ : Aside0 (wr.heap[al]? = some (.cells #[ai, .int .i64 0] 32 (0, 0))) := ⟨by rw [← hq_]; exact (uB af.out)⟩; have n5_ : Aside0 (Below w.heap.size w wr) := ⟨by rw [← hq_]; exact bH⟩; clear ag aa ab ae af HB hq_; have ag := n0_; have aa := n1_; have ab := n2_; have ae := n3_; have af := n4_; have HB := n5_; clear n0_ n1_ n2_ n3_ n4_ n5_)); have da := aJ.out; have db := aI.out; obtain ⟨dc, dd, de, df⟩ := cL2 af; obtain ⟨bk, bl, bP⟩ := Kd.R_slice ag.out; subst bP; obtain ⟨dh, di, dj, dl⟩ := cL2 ae))
     refine bodyPost_ret (results_ct rfl _ _ aj 32 #[.slice bk ah.length bl, .int .i64 aw] (0, 0) _ rfl (kB) Tryd.underlying32 rfl (by kernel_rfl)) rfl ?_; exact ⟨_, rE, uR (Kd.R_mono (Kd.R_far (p := ⟨aj, 1, none⟩) (Kd.R_far (p := ⟨aj, 0, none⟩) (Kd.R_far (p := ⟨al, 1, none⟩) (Kd.R_types (Kd.R_types ag.out af.out (by decide)) ae.out (by decide)) (fun _ hk => hk.1.2) (.int .i64 aw)) (fun _ hk => hk.2) (.slice bk ah.length bl)) (fun _ hk => hk.2) (.int .i64 aw)) (fun _ hk => trivial)), bH⟩
    ·replace ax := Bool.eq_false_iff.mpr ax
     subst ax; replace H := iF H; exact absurd H (by simp)

/-! ### furrowref4_At: function 13 -/
def furrowref4_At.f (a0 : ByteArray) (a1 : Int) (a2 : Int) : Option ((List (S55)) × Int) := some ((([(⟨a0, a1⟩ : S55)] : List (S55))), a2)
set_option maxHeartbeats 8000000 in
set_option maxRecDepth 100000 in
theorem furrowref4_At.calls (a0 : ByteArray) (a1 : Int) (a2 : Int) (r1 : List (S55)) (r2 : Int) (w : World) (h : furrowref4_At.f a0 a1 a2 = some (r1, r2)) :
  Calls Tryd.prog 13 #[.string a0, .int .i64 a1, .int .i64 a2] w fun e w' => ∃ v0_ : Value, e = .returned (.agg #[v0_, .int .i64 r2]) ∧ Kd.R k55 55 w' w.heap.size (fun _ => True) v0_ r1 ∧ Below w.heap.size w w' := by
 have hu45 := Tryd.underlying45
 have hu55 := Tryd.underlying55
 have HB := mk0 (Below.refl w.heap.size w)
 have H : (some ((([(⟨a0, a1⟩ : S55)] : List (S55))), a2)) = some (r1, r2) := h
 clear h
 obtain ⟨y245, hy245⟩ : ∃ y_ : List (S55), y_ = (([(⟨a0, a1⟩ : S55)] : List (S55))) := ⟨_, rfl⟩
 replace H : (some (y245, a2)) = some (r1, r2) := by first | (rw [hy245]; with_reducible exact H) | (have H2_ := (Option.bind_some _ _).symm.trans H; rw [hy245]; with_reducible exact H2_) | (have H2_ := (Option.bind_some _ _).symm.trans H; with_reducible exact H2_) | with_reducible exact H | (rw [hy245]; exact H) | exact H
 have Ny245 := mk0 hy245
 clear hy245
 simp only [Option.some.injEq, Prod.mk.injEq] at H
 obtain ⟨rfl, rfl⟩ := H
 go_enter Tryd.func13, Tryd.ntmps13
 go_wp2_with (first | ((with_reducible refine gate_dst (N := 6) rfl ?_); refine bxE 6 #[.slice none 0 0, .int .i64 0] 45 ?_; intro gb244 hg w4 hbox hb; have BK244 := mk0 (hbox); have GW244 := gE (uL HB.out) hg; replace HB := hbB (uL HB.out) hb; clear hb hbox hg) | ((with_reducible refine gate_dst (N := 10) rfl ?_); refine Kd.R_lit k55 _ 55 ?hg (N := 10) ?hd (xs := ([(⟨a0, a1⟩ : S55)] : List (S55))) (inner := [.string a0, .int .i64 a1]) (ok := fun _ => True) (okp := fun _ => True) ?hr ?hp (fun _ hk => hk) trivial (Below.refl _ _) (Nat.le_refl _) (by simp) ?_; (case hd => rfl); (case hg => rfl); (case hr => first | (go_simp; done) | (go_simp; rfl)); (case hp => exact (Reps.c2 (show Kd.M k55 _ _ _ (⟨a0, a1⟩ : S55) [.string a0, .int .i64 a1] from (k55_mkM _ _ _ (⟨a0, a1⟩ : S55) )) (Reps.none _ _))); intro v246 w5 ho6 hb hg_ hnew_; clear hg_ hnew_; (first | rw [← Ny245.out] at ho6 | (simp only [Int.reduceToNat] at ho6; rw [← Ny245.out] at ho6)); have HO247 := mk0 (Kd.R_lower ho6 (below_size bH)); replace BK244 := bB BK244 hb; replace HB := hbB bH hb; clear hb ho6; obtain ⟨Ao7, co7, eo7⟩ := Kd.R_slice HO247.out; subst eo7; obtain ⟨hcz8_0, hcz8_1, hfz8_0, hfz8_1⟩ := cL2 BK244))
 refine bodyPost_ret (results_cell_row rfl _ _ gb244 45 #[.slice Ao7 y245.length co7, .int .i64 a2] (0, 0) _ rfl (kB) Tryd.underlying45 rfl (by kernel_rfl)) rfl ?_
 exact ⟨_, rE, uR (Kd.R_mono (Kd.R_far (p := ⟨gb244, 1, none⟩) (Kd.R_far (p := ⟨gb244, 0, none⟩) (Kd.R_types HO247.out BK244.out (by decide)) (fun _ hk => hk.2) (.slice Ao7 y245.length co7)) (fun _ hk => hk.2) (.int .i64 a2)) (fun _ hk => trivial)), bH⟩
 -- NOT PRINTED: function 34 (reflectlite_TypeOf)
 -- NOT PRINTED: function 35 (errors_is)
 -- NOT PRINTED: function 20 (errors_Is)
 -- NOT PRINTED: function 36 (reflectlite_ValueOf)
 -- NOT PRINTED: function 37 (reflectlite_Value_Type)
 -- NOT PRINTED: function 38 (reflectlite_Value_IsNil)
 -- NOT PRINTED: function 54 (reflectlite_Value_Elem)
 -- NOT PRINTED: function 55 (reflectlite_Value_Set)
 -- NOT PRINTED: function 39 (errors_as)
 -- NOT PRINTED: function 21 (errors_As)

/-! ### slices_Contains_string_string: function 22 -/
def slices_Contains_string_string.f (k : Nat) (l0 : List ByteArray) (a1 : ByteArray) : Option (Bool) := (slices_Index_string_string.f k l0 a1).bind fun t248 => (some (decide (t248 ≥ 0)))
theorem slices_Contains_string_string.mono : ∀ a0 a1 k, LeO (slices_Contains_string_string.f k a0 a1) (slices_Contains_string_string.f (k + 1) a0 a1) := by
 intro a0 a1 k
 have m0_ := @slices_Index_string_string.mono; unfold slices_Contains_string_string.f; exact lO_
set_option maxHeartbeats 8000000 in
set_option maxRecDepth 100000 in
theorem slices_Contains_string_string.calls (k : Nat) (A0 : Option Addr) (c0 : Nat) (l0 : List ByteArray) (a1 : ByteArray) (r : Bool) (w : World) (hr0 : Kd.C Kd.string w A0 l0.length l0) (hc0 : l0.length ≤ c0) (h : slices_Contains_string_string.f k l0 a1 = some r) :
  Calls Tryd.prog 22 #[.slice A0 l0.length c0, .string a1] w fun e w' => e = .returned (.bool r) ∧ Drawn0 w w' := by
 have HR0 := mk0 hr0
 have HC0 := mk0 hc0
 clear hr0 hc0
 have H : ((slices_Index_string_string.f k l0 a1).bind fun t248 => (some (decide (t248 ≥ 0)))) = some r := h
 clear h
 replace H := Option.bind_eq_some_iff.mp H
 obtain ⟨t248, A30, H⟩ := H
 have A3 := mk0 A30
 clear A30
 obtain rfl := Option.some.inj H
 go_enter Tryd.func22, Tryd.ntmps22
 go_wp2_with (first | ((with_reducible refine gate_dst (N := 7) rfl ?_); refine gsM (some 7) Tryd.func28 #[.slice A0 l0.length c0, .string a1] ?_; (with_reducible refine (slices_Index_string_string.calls k _ _ l0 a1 t248 _ ?side1 ?side2 A3.out).mono ?_); (case side1 => exact uC HR0.out); (case side2 => exact HC0.out); rintro e w' ⟨rfl, ⟨nd, rfl⟩⟩; refine ⟨_, rfl, ?_⟩))
 go_ret
 exact ⟨eK, by repeat (first | exact Drawn0.refl _ | apply Drawn0.step)⟩

end Go.Proofs.YtnkckdbjeemjeaaDoor.X
