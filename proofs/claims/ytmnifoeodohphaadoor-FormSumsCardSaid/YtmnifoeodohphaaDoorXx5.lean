-- PRINTED by print.py (a twelfth state) out of the translation. Not trusted: Lean checks it.
import Derived.Test.YtmnifoeodohphaaDoorXx0
namespace Go.Proofs.YtmnifoeodohphaaDoor.X
open Go.Proofs.YtmnifoeodohphaaDoor.Flt Go.Proofs.YtmnifoeodohphaaDoor.H Go.RowKit Go.Proofs.YtmnifoeodohphaaDoorW.PrintWords Go.Proofs.YtmnifoeodohphaaDoorW.PrintLast Go.Proofs.YtmnifoeodohphaaDoorW.PrintMore
attribute [local go_sem] max2_int min2_int max_two min_two max_three min_three max_four min_four   -- for this text's walks alone
set_option linter.unusedVariables false
set_option linter.unusedSimpArgs false

/-! ### furrowref14_coef: function 43 -/
def furrowref14_coef.f (l0_0 : List Int) (a0_1 : Int) (a1 : Int) : Option (Int) := if a1 ≥ (l0_0.length : Int) then (some 0) else (if 0 ≤ a1 then (if a1 < (l0_0.length : Int) then (some (rd l0_0 a1)) else (none)) else (none))
set_option maxHeartbeats 8000000 in
set_option maxRecDepth 100000 in
theorem furrowref14_coef.calls (A0_0 : Option Addr) (c0_0 : Nat) (l0_0 : List Int) (a0_1 : Int) (a1 : Int) (r : Int) (w : World) (hr0_0 : Kd.C (Kd.int .i64) w A0_0 l0_0.length l0_0) (hc0_0 : l0_0.length ≤ c0_0) (h : furrowref14_coef.f l0_0 a0_1 a1 = some r) :
  Calls Tryd.prog 43 #[.agg #[.slice A0_0 l0_0.length c0_0, .int .i64 a0_1], .int .i64 a1] w fun e w' => e = .returned (.int .i64 r) ∧ Below w.heap.size w w' := by
 have hu31 := Tryd.underlying31
 have HR0_0 := mk0 hr0_0
 have HC0_0 := mk0 hc0_0
 clear hr0_0 hc0_0
 have HB := mk0 (Below.refl w.heap.size w)
 have H : (if a1 ≥ (l0_0.length : Int) then (some 0) else (if 0 ≤ a1 then (if a1 < (l0_0.length : Int) then (some (rd l0_0 a1)) else (none)) else (none))) = some r := h
 clear h
 by_cases c3 : a1 ≥ (l0_0.length : Int)
 ·rw [if_pos c3] at H
  have c3b0 : decide ((l0_0.length : Int) ≤ a1) = true := decide_eq_true c3; clear c3; obtain rfl := Option.some.inj H; go_enter Tryd.func43, Tryd.ntmps43
  go_wp2_with (first | ((with_reducible refine gate_dst (N := 2) rfl ?_); refine bxE 2 #[.slice A0_0 l0_0.length c0_0, .int .i64 a0_1] 31 ?_; intro gb325 hg w4 hbox hb; have BK325 := mk0 (hbox); have GW325 := gE (uL HB.out) hg; have GE325 := gE (uL HB.out) hg; replace HB := hbB (uL HB.out) hb; clear hb hbox hg; obtain ⟨hcz5_0, hcz5_1, hfz5_0, hfz5_1⟩ := cL2 BK325))
  go_ret; exact ⟨rE, bH⟩
 ·rw [if_neg c3] at H
  have c3b0 : decide ((l0_0.length : Int) ≤ a1) = false := decide_eq_false c3; clear c3
  by_cases c6 : 0 ≤ a1
  ·rw [if_pos c6] at H
   have c6b0 : decide (0 ≤ a1) = true := decide_eq_true c6; clear c6
   by_cases c7 : a1 < (l0_0.length : Int)
   ·rw [if_pos c7] at H
    have c7b0 : decide (a1 < (l0_0.length : Int)) = true := decide_eq_true c7; clear c7; obtain rfl := Option.some.inj H; go_enter Tryd.func43, Tryd.ntmps43
    go_wp2_with (first | ((with_reducible refine gate_dst (N := 2) rfl ?_); refine bxE 2 #[.slice A0_0 l0_0.length c0_0, .int .i64 a0_1] 31 ?_; intro gb325 hg w8 hbox hb; have BK325 := mk0 (hbox); have GW325 := gE (uL HB.out) hg; have GE325 := gE (uL HB.out) hg; replace HB := hbB (uL HB.out) hb; clear hb hbox hg; obtain ⟨hcz9_0, hcz9_1, hfz9_0, hfz9_1⟩ := cL2 BK325; have p326 : 0 ≤ (a1 : Int) := of_decide_eq_true (by first | (with_reducible assumption) | assumption); have q326 : a1 < (l0_0.length : Int) := of_decide_eq_true (by first | (with_reducible assumption) | assumption); obtain ⟨ad326, e326, hx326_0⟩ := Kd.at_int HR0_0.out a1 p326 q326; cases e326; replace hx326_0 := (HB.out.cell (World.block_lt_of_cell? w _ hx326_0)).trans hx326_0; replace p326 := eq_true p326; replace q326 := eq_true q326))
    go_ret; exact ⟨rE, bH⟩
   ·rw [if_neg c7] at H
    exact absurd H (by simp)
  ·rw [if_neg c6] at H
   exact absurd H (by simp)

/-! ### furrowref14_Same: function 17 -/
mutual
def furrowref14_Same.l0 : Nat → Int → List Int → Int → List Int → Int → Option (Bool)
 | 0, _, _, _, _, _ => none
 | k + 1, x5, x328000, x328001, x329000, x329001 => if x5 < (x328000.length : Int) then (furrowref14_Same.j1 k x5 true x328000 x328001 x329000 x329001) else (furrowref14_Same.j1 k x5 (decide (x5 < (x329000.length : Int))) x328000 x328001 x329000 x329001)
def furrowref14_Same.j1 : Nat → Int → Bool → List Int → Int → List Int → Int → Option (Bool)
 | 0, _, _, _, _, _, _ => none
 | k + 1, x5, x17, x328000, x328001, x329000, x329001 => if x17 = true then ((furrowref14_coef.f x328000 x328001 x5).bind fun t329 => ((furrowref14_coef.f x329000 x329001 x5).bind fun t330 => (if t329 = t330 then (furrowref14_Same.l0 k (wrap64 (x5 + 1)) x328000 x328001 x329000 x329001) else (some false)))) else (some (x328001 == x329001))
end
def furrowref14_Same.f (k : Nat) (l0_0 : List Int) (a0_1 : Int) (l1_0 : List Int) (a1_1 : Int) : Option (Bool) := furrowref14_Same.l0 k 0 l0_0 a0_1 l1_0 a1_1
theorem furrowref14_Same.mono_l : ∀ k, (∀ y0 y1 y2 y3 y4, LeO (furrowref14_Same.l0 k y0 y1 y2 y3 y4) (furrowref14_Same.l0 (k + 1) y0 y1 y2 y3 y4)) ∧ (∀ y0 y1 y2 y3 y4 y5, LeO (furrowref14_Same.j1 k y0 y1 y2 y3 y4 y5) (furrowref14_Same.j1 (k + 1) y0 y1 y2 y3 y4 y5))
 | 0 => ⟨fun _ _ _ _ _ r h => by simp [furrowref14_Same.l0] at h, fun _ _ _ _ _ _ r h => by simp [furrowref14_Same.j1] at h⟩
 | k + 1 => by
  obtain ⟨ih0, ih1⟩ := furrowref14_Same.mono_l k; refine ⟨?_, ?_⟩
  ·intro y0 y1 y2 y3 y4
   unfold furrowref14_Same.l0
   repeat' first
   | (with_reducible exact ih0 _ _ _ _ _)
   | (with_reducible exact ih1 _ _ _ _ _ _)
   | (with_reducible exact LeO.refl _)
   | (with_reducible exact LeO.none _)
   | (with_reducible refine LeO.ite ?_ ?_)
   | (with_reducible refine LeO.bind ?_ (fun _ => ?_))
   | exact ih0 _ _ _ _ _
   | exact ih1 _ _ _ _ _ _
   | exact LeO.none _
   | refine LeO.ite ?_ ?_
   | refine LeO.bind ?_ (fun _ => ?_)
  ·intro y0 y1 y2 y3 y4 y5
   unfold furrowref14_Same.j1
   repeat' first
   | (with_reducible exact ih0 _ _ _ _ _)
   | (with_reducible exact ih1 _ _ _ _ _ _)
   | (with_reducible exact LeO.refl _)
   | (with_reducible exact LeO.none _)
   | (with_reducible refine LeO.ite ?_ ?_)
   | (with_reducible refine LeO.bind ?_ (fun _ => ?_))
   | exact ih0 _ _ _ _ _
   | exact ih1 _ _ _ _ _ _
   | exact LeO.none _
   | refine LeO.ite ?_ ?_
   | refine LeO.bind ?_ (fun _ => ?_)
theorem furrowref14_Same.mono : ∀ a0 a1 a2 a3 k, LeO (furrowref14_Same.f k a0 a1 a2 a3) (furrowref14_Same.f (k + 1) a0 a1 a2 a3) := by
 intro a0 a1 a2 a3 k
 obtain ⟨ih0, ih1⟩ := furrowref14_Same.mono_l k
 unfold furrowref14_Same.f
 repeat' first
   | (with_reducible exact ih0 _ _ _ _ _)
   | (with_reducible exact ih1 _ _ _ _ _ _)
   | (with_reducible exact LeO.refl _)
   | (with_reducible exact LeO.none _)
   | (with_reducible refine LeO.ite ?_ ?_)
   | (with_reducible refine LeO.bind ?_ (fun _ => ?_))
   | exact ih0 _ _ _ _ _
   | exact ih1 _ _ _ _ _ _
   | exact LeO.none _
   | refine LeO.ite ?_ ?_
   | refine LeO.bind ?_ (fun _ => ?_)
set_option maxHeartbeats 8000000 in
set_option maxRecDepth 100000 in
theorem furrowref14_Same.calls (k : Nat) (A0_0 : Option Addr) (c0_0 : Nat) (l0_0 : List Int) (a0_1 : Int) (A1_0 : Option Addr) (c1_0 : Nat) (l1_0 : List Int) (a1_1 : Int) (r : Bool) (w : World) (hr0_0 : Kd.C (Kd.int .i64) w A0_0 l0_0.length l0_0) (hc0_0 : l0_0.length ≤ c0_0) (hr1_0 : Kd.C (Kd.int .i64) w A1_0 l1_0.length l1_0) (hc1_0 : l1_0.length ≤ c1_0) (h : furrowref14_Same.f k l0_0 a0_1 l1_0 a1_1 = some r) :
  Calls Tryd.prog 17 #[.agg #[.slice A0_0 l0_0.length c0_0, .int .i64 a0_1], .agg #[.slice A1_0 l1_0.length c1_0, .int .i64 a1_1]] w fun e w' => e = .returned (.bool r) ∧ Below w.heap.size w w' := by
 have hu31 := Tryd.underlying31
 have HR0_0 := mk0 hr0_0
 have HC0_0 := mk0 hc0_0
 clear hr0_0 hc0_0
 have HR1_0 := mk0 hr1_0
 have HC1_0 := mk0 hc1_0
 clear hr1_0 hc1_0
 have HB := mk0 (Below.refl w.heap.size w)
 have H : (furrowref14_Same.l0 k 0 l0_0 a0_1 l1_0 a1_1) = some r := h
 clear h
 have H' := mk0 H
 clear H
 go_enter Tryd.func17, Tryd.ntmps17
 go_wp2_with (first | ((with_reducible refine gate_dst (N := 2) rfl ?_); (try (refine gate_guard (by rfl) ?_; dsimp only)); refine bxE 2 #[.slice A0_0 l0_0.length c0_0, .int .i64 a0_1] 31 ?_; intro gb327 hg w3 hbox hb; have BK327 := mk0 (hbox); have GW327 := gE (uL HB.out) hg; have GE327 := gE (uL HB.out) hg; replace HB := hbB (uL HB.out) hb; clear hb hbox hg) | ((with_reducible refine gate_dst (N := 3) rfl ?_); (try (refine gate_guard (by rfl) ?_; dsimp only)); refine bxE 3 #[.slice A1_0 l1_0.length c1_0, .int .i64 a1_1] 31 ?_; intro gb328 hg w4 hbox hb; have BK328 := mk0 (hbox); have GW328 := gE bH hg; have GE328 := gE bH hg; replace HB := hbB bH hb; have NB327_328 := nL BK327 hg; have NB328_327 := nG BK327 hg; replace BK327 := bB BK327 hb; clear hb hbox hg))
 go_loopg [5] k (fun kq v5 w' => ∃ (x5_1 : Int), v5 = .int .i64 x5_1 ∧ Aside0 (furrowref14_Same.l0 kq x5_1 l0_0 a0_1 l1_0 a1_1 = some r) ∧ Aside0 (kq ≤ k) ∧ Aside0 (w'.heap[gb327]? = some (.cells #[(.slice A0_0 l0_0.length c0_0), .int .i64 a0_1] 31 (0, 0))) ∧ Aside0 (w'.heap[gb328]? = some (.cells #[(.slice A1_0 l1_0.length c1_0), .int .i64 a1_1] 31 (0, 0))) ∧ Aside0 (Below w.heap.size w w'))
 case atStart => exact ⟨(0), (by first | rfl | (simp; done) | (simp [*]; done) | (simp [bne_nil_, beq_nil_]; done)), H', ⟨Nat.le_refl _⟩, ⟨uB BK327.out⟩, ⟨uB BK328.out⟩, ⟨bH⟩⟩
 case round =>
  clear H'; (try clear c1); (try clear p2); obtain ⟨x5_1, rfl, HA, HK1, BK327, BK328, HB⟩ := hrel
  cases gk with
  | zero => exact absurd HA.out (by simp [furrowref14_Same.l0])
  | succ k1 =>
   have H := HA.out; clear HA; simp only [furrowref14_Same.l0] at H; have HC5 := mk0 H; clear H
   go_upto_region 2 with (fail)
   go_cut [17] (fun v17 wc => ∃ (kq : Nat) (x17_4 : Bool), v17 = .bool x17_4 ∧ Aside0 (furrowref14_Same.j1 kq x5_1 x17_4 l0_0 a0_1 l1_0 a1_1 = some r) ∧ Aside0 (kq ≤ k1) ∧ Aside0 (wc.heap[gb327]? = some (.cells #[(.slice A0_0 l0_0.length c0_0), .int .i64 a0_1] 31 (0, 0))) ∧ Aside0 (wc.heap[gb328]? = some (.cells #[(.slice A1_0 l1_0.length c1_0), .int .i64 a1_1] 31 (0, 0))) ∧ Aside0 (Below w.heap.size w wc))
   case first =>
    have H := HC5.out; clear HC5
    by_cases c6 : x5_1 < (l0_0.length : Int)
    ·rw [if_pos c6] at H
     have c6b0 : decide (x5_1 < (l0_0.length : Int)) = true := decide_eq_true c6; clear c6; (first | rw [c6b0] | (simp only [i64_w, i32_w]; rw [c6b0]) | skip); have H' := mk0 H; clear H; have hnb7 := NB327_328.out; have hnc7 := NB328_327.out; obtain ⟨hcz8_0, hcz8_1, hfz8_0, hfz8_1⟩ := cL2 BK327; go_wp2
     go_meet
     case rel => exact ⟨_, (true), (by first | rfl | (simp; done) | (simp [*]; done) | (simp [bne_nil_, beq_nil_]; done)), H', ⟨by have := HK1.out; first | omega | exact Nat.le_refl _⟩, ⟨uB BK327.out⟩, ⟨uB BK328.out⟩, ⟨bH⟩⟩
    ·rw [if_neg c6] at H
     have c6b0 : decide (x5_1 < (l0_0.length : Int)) = false := decide_eq_false c6; clear c6; (first | rw [c6b0] | (simp only [i64_w, i32_w]; rw [c6b0]) | skip); have H' := mk0 H; clear H; have hnb9 := NB327_328.out; have hnc9 := NB328_327.out; obtain ⟨hcz10_0, hcz10_1, hfz10_0, hfz10_1⟩ := cL2 BK327; obtain ⟨hcz11_0, hcz11_1, hfz11_0, hfz11_1⟩ := cL2 BK328; go_wp2
     go_meet
     case rel => exact ⟨_, (decide (x5_1 < (l1_0.length : Int))), (by first | rfl | (simp; done) | (simp [*]; done) | (simp [bne_nil_, beq_nil_]; done)), H', ⟨by have := HK1.out; first | omega | exact Nat.le_refl _⟩, ⟨uB BK327.out⟩, ⟨uB BK328.out⟩, ⟨bH⟩⟩
   case rest =>
    clear HC5; (try clear c1); (try clear p2); (try clear c6); (try clear c6b0); (try clear c7); (try clear c9); (try clear hcz10_0); (try clear hcz10_1); (try clear hcz11_0); (try clear hcz11_1); (try clear hcz8_0); (try clear hcz8_1); (try clear hfz10_0); (try clear hfz10_1); (try clear hfz11_0); (try clear hfz11_1); (try clear hfz8_0); (try clear hfz8_1); (try clear p2); obtain ⟨kq, x17_4, rfl, HA, HJ4, BK327, BK328, HB⟩ := hcut
    cases kq with
    | zero => exact absurd HA.out (by simp [furrowref14_Same.j1])
    | succ kj4 =>
     have H := HA.out; clear HA; simp only [furrowref14_Same.j1] at H
     by_cases c12 : x17_4 = true
     ·subst c12
      (have H1 : ((furrowref14_coef.f l0_0 a0_1 x5_1).bind fun t329 => ((furrowref14_coef.f l1_0 a1_1 x5_1).bind fun t330 => (if t329 = t330 then (furrowref14_Same.l0 kj4 (wrap64 (x5_1 + 1)) l0_0 a0_1 l1_0 a1_1) else (some false)))) = some r := by rw [if_pos rfl] at H; exact H); clear H; have H := H1; clear H1; replace H := Option.bind_eq_some_iff.mp H; obtain ⟨t329, A130, H⟩ := H; have A13 := mk0 A130; clear A130; replace H := Option.bind_eq_some_iff.mp H; obtain ⟨t330, A140, H⟩ := H; have A14 := mk0 A140; clear A140
      by_cases c15 : t329 = t330
      ·rw [if_pos c15] at H
       have c15b0 : (t329 == t330) = true := beq_iff_eq.mpr c15; have c15b1 : (t329 != t330) = false := bne_eq_false_iff_eq.mpr c15; clear c15; have H' := mk0 H; clear H; (try go_wp2); replace BK327 := mk0 (blk_drew BK327.out); replace BK328 := mk0 (blk_drew BK328.out); replace HB := mk0 (below_drew1 HB.out); refine start_ (n := 7) (S := fun w' => w'.cell? ⟨gb327, 0, none⟩ = some (.slice A0_0 l0_0.length c0_0) ∧ w'.cell? ⟨gb327, 1, none⟩ = some (.int .i64 a0_1) ∧ w'.cell? ⟨gb328, 0, none⟩ = some (.slice A1_0 l1_0.length c1_0) ∧ w'.cell? ⟨gb328, 1, none⟩ = some (.int .i64 a1_1)) (ds := []) (bts 7 0) (by kernel_rfl) rfl rfl ⟨(blk_cell BK327.out 0).trans rfl, (blk_cell BK327.out 1).trans rfl, (blk_cell BK328.out 0).trans rfl, (blk_cell BK328.out 1).trans rfl⟩ (fun hHeld => ?_); generalize wc.drew = w16 at BK327 BK328 HB hHeld ⊢; refine pure_ (i := 1) (N := some 21) (v := ?_) (a' := ?_) (bts 7 2) rfl rfl (by kernel_rfl) (fun _ _ _ h => h) (Or.inl ⟨by rfl, ?_⟩) ?_ ?_; rotate_left
       ·intro w'
        go_simp; (with_reducible rfl)
       rotate_left
       ·simp only [Act.put, List.setIfInBounds_toArray, List.set_cons_zero, List.set_cons_succ, i64_w, i32_w]
        rfl
       refine pure_ (i := 4) (N := some 24) (v := ?_) (a' := ?_) (bts 7 18) rfl rfl (by kernel_rfl) (fun _ _ _ h => h) (Or.inl ⟨by rfl, ?_⟩) ?_ ?_; rotate_left
       ·intro w'
        go_simp; (with_reducible rfl)
       rotate_left
       ·simp only [Act.put, List.setIfInBounds_toArray, List.set_cons_zero, List.set_cons_succ, i64_w, i32_w]
        rfl
       refine take_ (i := 0) (N := some 20) (v := ?_) (a' := ?_) (bts 7 19) rfl rfl (by kernel_rfl) (fun _ _ _ h => h) (Or.inl ⟨by rfl, ?_⟩) hHeld ?_ ?_; rotate_left
       ·rintro w' ⟨s0, s1, s2, s3⟩
        go_simp; (with_reducible rfl)
       rotate_left
       ·simp only [Act.put, List.setIfInBounds_toArray, List.set_cons_zero, List.set_cons_succ, i64_w, i32_w]
        rfl
       refine take_ (i := 3) (N := some 23) (v := ?_) (a' := ?_) (bts 7 27) rfl rfl (by kernel_rfl) (fun _ _ _ h => h) (Or.inl ⟨by rfl, ?_⟩) hHeld ?_ ?_; rotate_left
       ·rintro w' ⟨s0, s1, s2, s3⟩
        go_simp; (with_reducible rfl)
       rotate_left
       ·simp only [Act.put, List.setIfInBounds_toArray, List.set_cons_zero, List.set_cons_succ, i64_w, i32_w]
        rfl
       refine one_ (i := 2) (N := some 22) (bts 7 31) rfl rfl (by kernel_rfl) (by decide) (fun K hK => ?_); refine goes_ Tryd.func43 (by kernel_rfl) rfl #[.agg #[.slice A0_0 l0_0.length c0_0, .int .i64 a0_1], .int .i64 x5_1] (by rfl) rfl rfl (by (try simp only [List.map_toArray, List.map_cons, List.map_nil]); first | done | rfl | (simp only [List.length_drop, List.length_take]; rfl)) ?_; (with_reducible refine (furrowref14_coef.calls _ _ l0_0 a0_1 x5_1 t329 _ ?side1 ?side2 A13.out).mono ?_); (case side1 => exact uC (Kd.C_below HR0_0.out HB.out)); (case side2 => exact HC0_0.out); rintro e w17 ⟨rfl, hb⟩; refine ⟨_, rfl, ?_⟩; replace BK327 := bB BK327 hb; replace BK328 := bB BK328 hb; replace HB := hbB bH hb; (try clear hb); (try clear hb2); (try clear hk); (try clear hi); refine hK.out _ _ ⟨(blk_cell BK327.out 0).trans rfl, (blk_cell BK327.out 1).trans rfl, (blk_cell BK328.out 0).trans rfl, (blk_cell BK328.out 1).trans rfl⟩ (fun hHeld => ?_); clear hK K; refine norm_ (a' := ?_) ?_ ?_; rotate_left
       ·show Act.put _ (some 22) _ = _
        simp only [Act.put, List.setIfInBounds_toArray, List.set_cons_zero, List.set_cons_succ, i64_w, i32_w]; rfl
       refine one_ (i := 5) (N := some 25) (bts 7 63) rfl rfl (by kernel_rfl) (by decide) (fun K hK => ?_); refine goes_ Tryd.func43 (by kernel_rfl) rfl #[.agg #[.slice A1_0 l1_0.length c1_0, .int .i64 a1_1], .int .i64 x5_1] (by rfl) rfl rfl (by (try simp only [List.map_toArray, List.map_cons, List.map_nil]); first | done | rfl | (simp only [List.length_drop, List.length_take]; rfl)) ?_; (with_reducible refine (furrowref14_coef.calls _ _ l1_0 a1_1 x5_1 t330 _ ?side1 ?side2 A14.out).mono ?_); (case side1 => exact uC (Kd.C_below HR1_0.out HB.out)); (case side2 => exact HC1_0.out); rintro e w18 ⟨rfl, hb⟩; refine ⟨_, rfl, ?_⟩; replace BK327 := bB BK327 hb; replace BK328 := bB BK328 hb; replace HB := hbB bH hb; (try clear hb); (try clear hb2); (try clear hk); (try clear hi); refine hK.out _ _ ⟨(blk_cell BK327.out 0).trans rfl, (blk_cell BK327.out 1).trans rfl, (blk_cell BK328.out 0).trans rfl, (blk_cell BK328.out 1).trans rfl⟩ (fun hHeld => ?_); clear hK K; refine norm_ (a' := ?_) ?_ ?_; rotate_left
       ·show Act.put _ (some 25) _ = _
        simp only [Act.put, List.setIfInBounds_toArray, List.set_cons_zero, List.set_cons_succ, i64_w, i32_w]; rfl
       refine pure_ (i := 6) (N := some 26) (v := ?_) (a' := ?_) (bts 7 127) rfl rfl (by kernel_rfl) (fun _ _ _ h => h) (Or.inl ⟨by rfl, ?_⟩) ?_ ?_; rotate_left
       ·intro w'
        go_simp; (with_reducible rfl)
       rotate_left
       ·simp only [Act.put, List.setIfInBounds_toArray, List.set_cons_zero, List.set_cons_succ, i64_w, i32_w]
        rfl
       refine done_ (by kernel_rfl) ?_; (try go_wp2)
       go_roundg kj4
       case measure => have := HK1.out; have := HJ4.out; omega
       case rel => exact ⟨(wrap64 (x5_1 + 1)), (by first | rfl | (simp; done) | (simp [*]; done) | (simp [bne_nil_, beq_nil_]; done)), H', ⟨by have := HK1.out; have := HJ4.out; omega⟩, ⟨uB BK327.out⟩, ⟨uB BK328.out⟩, ⟨bH⟩⟩
      ·rw [if_neg c15] at H
       have c15b0 : (t329 == t330) = false := beq_eq_false_iff_ne.mpr c15; have c15b1 : (t329 != t330) = true := bne_iff_ne.mpr c15; obtain rfl := Option.some.inj H; (try go_wp2); replace BK327 := mk0 (blk_drew BK327.out); replace BK328 := mk0 (blk_drew BK328.out); replace HB := mk0 (below_drew1 HB.out); refine start_ (n := 7) (S := fun w' => w'.cell? ⟨gb327, 0, none⟩ = some (.slice A0_0 l0_0.length c0_0) ∧ w'.cell? ⟨gb327, 1, none⟩ = some (.int .i64 a0_1) ∧ w'.cell? ⟨gb328, 0, none⟩ = some (.slice A1_0 l1_0.length c1_0) ∧ w'.cell? ⟨gb328, 1, none⟩ = some (.int .i64 a1_1)) (ds := []) (bts 7 0) (by kernel_rfl) rfl rfl ⟨(blk_cell BK327.out 0).trans rfl, (blk_cell BK327.out 1).trans rfl, (blk_cell BK328.out 0).trans rfl, (blk_cell BK328.out 1).trans rfl⟩ (fun hHeld => ?_); generalize wc.drew = w19 at BK327 BK328 HB hHeld ⊢; refine pure_ (i := 1) (N := some 21) (v := ?_) (a' := ?_) (bts 7 2) rfl rfl (by kernel_rfl) (fun _ _ _ h => h) (Or.inl ⟨by rfl, ?_⟩) ?_ ?_; rotate_left
       ·intro w'
        go_simp; (with_reducible rfl)
       rotate_left
       ·simp only [Act.put, List.setIfInBounds_toArray, List.set_cons_zero, List.set_cons_succ, i64_w, i32_w]
        rfl
       refine pure_ (i := 4) (N := some 24) (v := ?_) (a' := ?_) (bts 7 18) rfl rfl (by kernel_rfl) (fun _ _ _ h => h) (Or.inl ⟨by rfl, ?_⟩) ?_ ?_; rotate_left
       ·intro w'
        go_simp; (with_reducible rfl)
       rotate_left
       ·simp only [Act.put, List.setIfInBounds_toArray, List.set_cons_zero, List.set_cons_succ, i64_w, i32_w]
        rfl
       refine take_ (i := 0) (N := some 20) (v := ?_) (a' := ?_) (bts 7 19) rfl rfl (by kernel_rfl) (fun _ _ _ h => h) (Or.inl ⟨by rfl, ?_⟩) hHeld ?_ ?_; rotate_left
       ·rintro w' ⟨s0, s1, s2, s3⟩
        go_simp; (with_reducible rfl)
       rotate_left
       ·simp only [Act.put, List.setIfInBounds_toArray, List.set_cons_zero, List.set_cons_succ, i64_w, i32_w]
        rfl
       refine take_ (i := 3) (N := some 23) (v := ?_) (a' := ?_) (bts 7 27) rfl rfl (by kernel_rfl) (fun _ _ _ h => h) (Or.inl ⟨by rfl, ?_⟩) hHeld ?_ ?_; rotate_left
       ·rintro w' ⟨s0, s1, s2, s3⟩
        go_simp; (with_reducible rfl)
       rotate_left
       ·simp only [Act.put, List.setIfInBounds_toArray, List.set_cons_zero, List.set_cons_succ, i64_w, i32_w]
        rfl
       refine one_ (i := 2) (N := some 22) (bts 7 31) rfl rfl (by kernel_rfl) (by decide) (fun K hK => ?_); refine goes_ Tryd.func43 (by kernel_rfl) rfl #[.agg #[.slice A0_0 l0_0.length c0_0, .int .i64 a0_1], .int .i64 x5_1] (by rfl) rfl rfl (by (try simp only [List.map_toArray, List.map_cons, List.map_nil]); first | done | rfl | (simp only [List.length_drop, List.length_take]; rfl)) ?_; (with_reducible refine (furrowref14_coef.calls _ _ l0_0 a0_1 x5_1 t329 _ ?side1 ?side2 A13.out).mono ?_); (case side1 => exact uC (Kd.C_below HR0_0.out HB.out)); (case side2 => exact HC0_0.out); rintro e w20 ⟨rfl, hb⟩; refine ⟨_, rfl, ?_⟩; replace BK327 := bB BK327 hb; replace BK328 := bB BK328 hb; replace HB := hbB bH hb; (try clear hb); (try clear hb2); (try clear hk); (try clear hi); refine hK.out _ _ ⟨(blk_cell BK327.out 0).trans rfl, (blk_cell BK327.out 1).trans rfl, (blk_cell BK328.out 0).trans rfl, (blk_cell BK328.out 1).trans rfl⟩ (fun hHeld => ?_); clear hK K; refine norm_ (a' := ?_) ?_ ?_; rotate_left
       ·show Act.put _ (some 22) _ = _
        simp only [Act.put, List.setIfInBounds_toArray, List.set_cons_zero, List.set_cons_succ, i64_w, i32_w]; rfl
       refine one_ (i := 5) (N := some 25) (bts 7 63) rfl rfl (by kernel_rfl) (by decide) (fun K hK => ?_); refine goes_ Tryd.func43 (by kernel_rfl) rfl #[.agg #[.slice A1_0 l1_0.length c1_0, .int .i64 a1_1], .int .i64 x5_1] (by rfl) rfl rfl (by (try simp only [List.map_toArray, List.map_cons, List.map_nil]); first | done | rfl | (simp only [List.length_drop, List.length_take]; rfl)) ?_; (with_reducible refine (furrowref14_coef.calls _ _ l1_0 a1_1 x5_1 t330 _ ?side1 ?side2 A14.out).mono ?_); (case side1 => exact uC (Kd.C_below HR1_0.out HB.out)); (case side2 => exact HC1_0.out); rintro e w21 ⟨rfl, hb⟩; refine ⟨_, rfl, ?_⟩; replace BK327 := bB BK327 hb; replace BK328 := bB BK328 hb; replace HB := hbB bH hb; (try clear hb); (try clear hb2); (try clear hk); (try clear hi); refine hK.out _ _ ⟨(blk_cell BK327.out 0).trans rfl, (blk_cell BK327.out 1).trans rfl, (blk_cell BK328.out 0).trans rfl, (blk_cell BK328.out 1).trans rfl⟩ (fun hHeld => ?_); clear hK K; refine norm_ (a' := ?_) ?_ ?_; rotate_left
       ·show Act.put _ (some 25) _ = _
        simp only [Act.put, List.setIfInBounds_toArray, List.set_cons_zero, List.set_cons_succ, i64_w, i32_w]; rfl
       refine pure_ (i := 6) (N := some 26) (v := ?_) (a' := ?_) (bts 7 127) rfl rfl (by kernel_rfl) (fun _ _ _ h => h) (Or.inl ⟨by rfl, ?_⟩) ?_ ?_; rotate_left
       ·intro w'
        go_simp; (with_reducible rfl)
       rotate_left
       ·simp only [Act.put, List.setIfInBounds_toArray, List.set_cons_zero, List.set_cons_succ, i64_w, i32_w]
        rfl
       refine done_ (by kernel_rfl) ?_; (try go_wp2); go_ret; exact ⟨rE, bH⟩
     ·replace c12 := Bool.eq_false_iff.mpr c12
      subst c12; (have H1 : (some (a0_1 == a1_1)) = some r := by rw [if_neg (show ¬ (false = true) by decide)] at H; exact H); clear H; have H := H1; clear H1; obtain rfl := Option.some.inj H; have hnb22 := NB327_328.out; have hnc22 := NB328_327.out; obtain ⟨hcz23_0, hcz23_1, hfz23_0, hfz23_1⟩ := cL2 BK327; obtain ⟨hcz24_0, hcz24_1, hfz24_0, hfz24_1⟩ := cL2 BK328; go_wp2; go_ret; exact ⟨rE, bH⟩

end Go.Proofs.YtmnifoeodohphaaDoor.X
