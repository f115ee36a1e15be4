-- PRINTED by print.py (a twelfth state) out of the translation. Not trusted: Lean checks it.
import Derived.Test.YtkkpgjkjkcmcbaaDoorXx0
import Derived.Test.YtkkpgjkjkcmcbaaDoorXx1
import Derived.Test.YtkkpgjkjkcmcbaaDoorXx3
namespace Go.Proofs.YtkkpgjkjkcmcbaaDoor.X
open Go.Proofs.YtkkpgjkjkcmcbaaDoor.Flt Go.Proofs.YtkkpgjkjkcmcbaaDoor.H Go.RowKit Go.Proofs.YtkkpgjkjkcmcbaaDoorW.PrintWords Go.Proofs.YtkkpgjkjkcmcbaaDoorW.PrintLast Go.Proofs.YtkkpgjkjkcmcbaaDoorW.PrintMore
attribute [local go_sem] max2_int min2_int max_two min_two max_three min_three max_four min_four   -- for this text's walks alone
set_option linter.unusedVariables false
set_option linter.unusedSimpArgs false

/-! ### sys_tight: function 55 -/
mutual
def sys_tight.j0 : Nat → Int → Bool → List Int → Int → Option (List Int × Int × Bool × Bool)
 | 0, _, _, _, _ => none
 | k + 1, x8, x48, x145000, x145001 => if x48 = true then (some (([] : List Int), 0, false, false)) else (sys_tight.l0 k x8 x145000 (x145000.length : Int) 0 x145000 x145001 ([] : List Int) 0)
def sys_tight.l0 : Nat → Int → List Int → Int → Int → List Int → Int → List Int → Int → Option (List Int × Int × Bool × Bool)
 | 0, _, _, _, _, _, _, _, _ => none
 | k + 1, x8, x52, x53, x54, x145000, x145001, x148000, x148001 => if x54 < x53 then (if 0 ≤ x54 then (if x54 < (x52.length : Int) then (if x8 = 0 then (none) else (if x148000.length < 17592186044416 then (sys_tight.l0 k x8 x52 x53 (wrap64 (x54 + 1)) x145000 x145001 (x148000 ++ [wrap64 (Int.tdiv (rd x52 x54) x8)]) x148001) else (none))) else (none)) else (none)) else ((num_Floor.f k x145001 x8).bind fun bt152 => (some (x148000, bt152.1, true, true)))
end
def sys_tight.f (k : Nat) (l0_0 : List Int) (a0_1 : Int) (a1 : Int) : Option (List Int × Int × Bool × Bool) := (sys_gcd.f k l0_0).bind fun t146 => (if t146 = 0 then (if a0_1 = 0 then (some (([] : List Int), 0, false, true)) else (if a1 = 1 then (some (([] : List Int), 0, false, decide (a0_1 > 0))) else (some (([] : List Int), 0, false, false)))) else (if t146 > 9223372036854775807 then (some (l0_0, a0_1, true, true)) else (if t146 = 1 then (some (l0_0, a0_1, true, true)) else (if a1 = 0 then (if (wrap64 (t146)) = 0 then (none) else (sys_tight.j0 k (wrap64 (t146)) ((Int.tmod a0_1 (wrap64 (t146))) != 0) l0_0 a0_1)) else (sys_tight.j0 k (wrap64 (t146)) false l0_0 a0_1)))))
theorem sys_tight.mono_l : ∀ k, (∀ y0 y1 y2 y3, LeO (sys_tight.j0 k y0 y1 y2 y3) (sys_tight.j0 (k + 1) y0 y1 y2 y3)) ∧ (∀ y0 y1 y2 y3 y4 y5 y6 y7, LeO (sys_tight.l0 k y0 y1 y2 y3 y4 y5 y6 y7) (sys_tight.l0 (k + 1) y0 y1 y2 y3 y4 y5 y6 y7))
 | 0 => ⟨fun _ _ _ _ r h => by simp [sys_tight.j0] at h, fun _ _ _ _ _ _ _ _ r h => by simp [sys_tight.l0] at h⟩
 | k + 1 => by
  obtain ⟨ih0, ih1⟩ := sys_tight.mono_l k
  refine ⟨?_, ?_⟩
  ·intro y0 y1 y2 y3
   unfold sys_tight.j0
   repeat' first
   | (with_reducible exact ih0 _ _ _ _)
   | (with_reducible exact ih1 _ _ _ _ _ _ _ _)
   | (with_reducible exact num_Floor.mono _ _ _)
   | (with_reducible exact sys_gcd.mono _ _)
   | (with_reducible exact LeO.refl _)
   | (with_reducible exact LeO.none _)
   | (with_reducible refine LeO.ite ?_ ?_)
   | (with_reducible refine LeO.bind ?_ (fun _ => ?_))
   | exact ih0 _ _ _ _
   | exact ih1 _ _ _ _ _ _ _ _
   | exact num_Floor.mono _ _ _
   | exact sys_gcd.mono _ _
   | exact LeO.none _
   | refine LeO.ite ?_ ?_
   | refine LeO.bind ?_ (fun _ => ?_)
  ·intro y0 y1 y2 y3 y4 y5 y6 y7
   unfold sys_tight.l0
   repeat' first
   | (with_reducible exact ih0 _ _ _ _)
   | (with_reducible exact ih1 _ _ _ _ _ _ _ _)
   | (with_reducible exact num_Floor.mono _ _ _)
   | (with_reducible exact sys_gcd.mono _ _)
   | (with_reducible exact LeO.refl _)
   | (with_reducible exact LeO.none _)
   | (with_reducible refine LeO.ite ?_ ?_)
   | (with_reducible refine LeO.bind ?_ (fun _ => ?_))
   | exact ih0 _ _ _ _
   | exact ih1 _ _ _ _ _ _ _ _
   | exact num_Floor.mono _ _ _
   | exact sys_gcd.mono _ _
   | exact LeO.none _
   | refine LeO.ite ?_ ?_
   | refine LeO.bind ?_ (fun _ => ?_)
theorem sys_tight.mono : ∀ a0 a1 a2 k, LeO (sys_tight.f k a0 a1 a2) (sys_tight.f (k + 1) a0 a1 a2) := by
 intro a0 a1 a2 k
 obtain ⟨ih0, ih1⟩ := sys_tight.mono_l k
 unfold sys_tight.f
 repeat' first
   | (with_reducible exact ih0 _ _ _ _)
   | (with_reducible exact ih1 _ _ _ _ _ _ _ _)
   | (with_reducible exact num_Floor.mono _ _ _)
   | (with_reducible exact sys_gcd.mono _ _)
   | (with_reducible exact LeO.refl _)
   | (with_reducible exact LeO.none _)
   | (with_reducible refine LeO.ite ?_ ?_)
   | (with_reducible refine LeO.bind ?_ (fun _ => ?_))
   | exact ih0 _ _ _ _
   | exact ih1 _ _ _ _ _ _ _ _
   | exact num_Floor.mono _ _ _
   | exact sys_gcd.mono _ _
   | exact LeO.none _
   | refine LeO.ite ?_ ?_
   | refine LeO.bind ?_ (fun _ => ?_)
def sys_tight.T5 : Bool × List (List Nat × List Nat) := (true, [([], []), ([], []), ([1], [1]), ([2], [2]), ([3], [3]), ([4], [4]), ([5, 4], [4, 5]), ([6, 4, 4], [4, 6]), ([7], [7]), ([8, 7], [7, 8]), ([9, 7], [7, 9]), ([7, 10, 4], [4, 7, 10]), ([4, 11], [4, 11]), ([0, 7, 0], [0]), ([13, 0, 13], []), ([12, 14, 0, 1, 2, 3, 4, 5, 6, 7, 8, 9, 10, 11, 12, 13, 14], [12])])
def sys_tight.B5 : List Nat := [0, 0, 2, 6, 14, 30, 62, 126, 254, 510, 1022, 2046, 4094, 255, 8447, 32767]
theorem sys_tight.tab5 : rtab .any (opsOf Tryd.f55 5) = sys_tight.T5 := by kernel_rfl
theorem sys_tight.bits5 : waitsOk sys_tight.T5.2 sys_tight.B5 = true := by kernel_rfl
def sys_tight.T15 : Bool × List (List Nat × List Nat) := (true, [([], []), ([0], [0]), ([], []), ([], []), ([2, 3], [2, 3]), ([4], [4]), ([1, 5], [1, 5]), ([0, 1, 2, 3, 4, 5, 6], []), ([7, 6, 6, 0, 1, 2, 3, 4, 5, 6], [6, 7])])
def sys_tight.B15 : List Nat := [0, 1, 0, 0, 12, 28, 63, 127, 255]
theorem sys_tight.tab15 : rtab .any (opsOf Tryd.f55 15) = sys_tight.T15 := by kernel_rfl
theorem sys_tight.bits15 : waitsOk sys_tight.T15.2 sys_tight.B15 = true := by kernel_rfl
set_option maxHeartbeats 8000000 in
set_option maxRecDepth 100000 in
theorem sys_tight.calls (k : Nat) (P0_0_ : Nat → Prop) (A0_0 : Option Addr) (c0_0 : Nat) (l0_0 : List Int) (a0_1 : Int) (a1 : Int) (r1 : List Int) (r2 : Int) (r3 : Bool) (r4 : Bool) (w : World) (hs0_0 : Kd.V (Kd.int .i64) 2 w w.heap.size (fun k_ => P0_0_ k_) (.slice A0_0 l0_0.length c0_0) l0_0) (h : sys_tight.f k l0_0 a0_1 a1 = some (r1, r2, r3, r4)) :
  Calls Tryd.prog 55 #[.agg #[.slice A0_0 l0_0.length c0_0, .int .i64 a0_1], .int .i64 a1] w fun e w' => ∃ v0_ : Value, e = .returned (.tuple #[.agg #[v0_, .int .i64 r2], .bool r3, .bool r4]) ∧ Kd.V (Kd.int .i64) 2 w' w.heap.size (fun k_ => (P0_0_ k_ ∨ w.heap.size ≤ k_)) v0_ r1 ∧ Below w.heap.size w w' := by
 have hu59 := Tryd.underlying59
 have HO0_0 := mk0 (show Kd.V (Kd.int .i64) 2 w w.heap.size (fun k_ => (P0_0_ k_ ∨ w.heap.size ≤ k_)) (.slice A0_0 l0_0.length c0_0) l0_0 from Kd.V_mono hs0_0 (fun k_ hk => .inl hk))
 have HB := mk0 (Below.refl w.heap.size w)
 have H : ((sys_gcd.f k l0_0).bind fun t146 => (if t146 = 0 then (if a0_1 = 0 then (some (([] : List Int), 0, false, true)) else (if a1 = 1 then (some (([] : List Int), 0, false, decide (a0_1 > 0))) else (some (([] : List Int), 0, false, false)))) else (if t146 > 9223372036854775807 then (some (l0_0, a0_1, true, true)) else (if t146 = 1 then (some (l0_0, a0_1, true, true)) else (if a1 = 0 then (if (wrap64 (t146)) = 0 then (none) else (sys_tight.j0 k (wrap64 (t146)) ((Int.tmod a0_1 (wrap64 (t146))) != 0) l0_0 a0_1)) else (sys_tight.j0 k (wrap64 (t146)) false l0_0 a0_1)))))) = some (r1, r2, r3, r4) := h
 clear h
 replace H := Option.bind_eq_some_iff.mp H
 obtain ⟨t146, A30, H⟩ := H
 have A3 := mk0 A30
 clear A30
 by_cases c4 : t146 = 0
 ·rw [if_pos c4] at H
  have c4b0 : (t146 == 0) = true := beq_iff_eq.mpr c4
  have c4b1 : (t146 != 0) = false := bne_eq_false_iff_eq.mpr c4
  clear c4
  by_cases c5 : a0_1 = 0
  ·rw [if_pos c5] at H
   have c5b0 : (a0_1 == 0) = true := beq_iff_eq.mpr c5
   have c5b1 : (a0_1 != 0) = false := bne_eq_false_iff_eq.mpr c5
   clear c5
   simp only [Option.some.injEq, Prod.mk.injEq] at H
   obtain ⟨rfl, rfl, rfl, rfl⟩ := H
   go_enter Tryd.func55, Tryd.ntmps55
   try go_wp2_with (first | ((with_reducible refine gate_dst (N := 2) rfl ?_); refine bxE 2 #[.slice A0_0 l0_0.length c0_0, .int .i64 a0_1] 59 ?_; intro gb144 hg w6 hbox hb; replace HO0_0 := mk0 (Kd.V_below (Kd.V_elderB (uV HO0_0.out) gb144 (Nat.le_of_eq hg.symm)) hb); have BK144 := mk0 (hbox); have GW144 := mk0 ((by rw [hg]; exact (below_size (uL HB.out)) : w.heap.size ≤ gb144)); have GE144 := mk0 ((by rw [hg]; exact (below_size (uL HB.out)) : w.heap.size ≤ gb144)); replace HB := hbB (uL HB.out) hb; clear hb hbox hg) | ((with_reducible refine gate_dst (N := 4) rfl ?_); refine bxE 4 #[.slice none 0 0, .int .i64 0] 59 ?_; intro gb145 hg w7 hbox hb; replace HO0_0 := mk0 (Kd.V_below (Kd.V_elderB (uV HO0_0.out) gb145 (Nat.le_of_eq hg.symm)) hb); have BK145 := mk0 (hbox); have GW145 := mk0 ((by rw [hg]; exact (below_size bH) : w.heap.size ≤ gb145)); have GE145 := mk0 ((by rw [hg]; exact (below_size bH) : w.heap.size ≤ gb145)); replace HB := hbB bH hb; have NB144_145 := mk0 ((by rw [hg]; exact Nat.ne_of_lt (blk_lt (g := gb144) (o := .cells #[.slice A0_0 l0_0.length c0_0, .int .i64 a0_1] 59 (0, 0)) (uB BK144.out)) : gb144 ≠ gb145)); have NB145_144 := mk0 ((by rw [hg]; exact Nat.ne_of_gt (blk_lt (g := gb144) (o := .cells #[.slice A0_0 l0_0.length c0_0, .int .i64 a0_1] 59 (0, 0)) (uB BK144.out)) : gb145 ≠ gb144)); replace BK144 := bB BK144 hb; clear hb hbox hg; have hnb8 := NB144_145.out; have hnc8 := NB145_144.out; obtain ⟨hcz9_0, hcz9_1, hfz9_0, hfz9_1⟩ := cL2 BK144) | ((with_reducible refine gate_dst (N := 14) rfl ?_); refine gsM (some 14) Tryd.func66 #[.slice A0_0 l0_0.length c0_0] ?_; (with_reducible refine (sys_gcd.calls k _ _ l0_0 t146 _ ?side1 ?side2 A3.out).mono ?_); (case side1 => exact uC ((Kd.V_reads' HO0_0.out).2.2)); (case side2 => exact (Kd.V_reads' HO0_0.out).2.1); rintro e w' ⟨rfl, ⟨nd, rfl⟩⟩; refine ⟨_, rfl, ?_⟩; (try (rw [drewN_self w7]; generalize hq_ : World.drewN w7 _ = w7; have n0_ : Aside0 (Kd.V (Kd.int .i64) 2 w7 w.heap.size (fun k_ => (P0_0_ k_ ∨ w.heap.size ≤ k_) ∧ k_ ≠ gb144 ∧ k_ ≠ gb145) (.slice A0_0 l0_0.length c0_0) l0_0) := ⟨by rw [← hq_]; exact (uV (Kd.V_mono HO0_0.out (fun _ hk => ⟨hk.1.1, ⟨hk.1.2, hk.2⟩⟩)))⟩; have n1_ : Aside0 (w7.heap[gb144]? = some (.cells #[.slice A0_0 l0_0.length c0_0, .int .i64 a0_1] 59 (0, 0))) := ⟨by rw [← hq_]; exact (uB BK144.out)⟩; have n2_ : Aside0 (w7.heap[gb145]? = some (.cells #[.slice none 0 0, .int .i64 0] 59 (0, 0))) := ⟨by rw [← hq_]; exact (uB BK145.out)⟩; have n3_ : Aside0 (Below w.heap.size w w7) := ⟨by rw [← hq_]; exact bH⟩; clear HO0_0 BK144 BK145 HB hq_; have HO0_0 := n0_; have BK144 := n1_; have BK145 := n2_; have HB := n3_; clear n0_ n1_ n2_ n3_; obtain ⟨hczq144_0, hczq144_1, hfzq144_0, hfzq144_1⟩ := cL2 BK144; obtain ⟨hczq145_0, hczq145_1, hfzq145_0, hfzq145_1⟩ := cL2 BK145))))
   replace HO0_0 := mk0 (Kd.V_drew HO0_0.out)
   replace BK144 := mk0 (blk_drew BK144.out)
   replace BK145 := mk0 (blk_drew BK145.out)
   replace HB := mk0 (below_drew1 HB.out)
   refine start_ (n := 16) (S := fun w' => w'.cell? ⟨gb144, 0, none⟩ = some (.slice A0_0 l0_0.length c0_0) ∧ w'.cell? ⟨gb144, 1, none⟩ = some (.int .i64 a0_1)) (ds := []) (bts 16 0) (by kernel_rfl) rfl rfl ⟨(blk_cell BK144.out 0).trans rfl, (blk_cell BK144.out 1).trans rfl⟩ (fun hHeld => ?_); refine with_tabW sys_tight.tab5 sys_tight.bits5 (fun HT_ HW_ => ?_)
   generalize w7.drew = w10 at HO0_0 BK144 BK145 HB hHeld ⊢
   refine pA 0 (some 24) 0 16 1 HT_ ?_
   refine pA 1 (some 25) 1 16 3 HT_ ?_
   refine tA2 2 (some 26) 3 16 7 HT_ HW_ hHeld ?_
   refine pA 3 (some 27) 7 16 15 HT_ ?_
   refine pA 4 (some 28) 15 16 31 HT_ ?_
   refine pU 5 (some 29) 31 16 63 HT_ ?_
   refine pU 6 (some 30) 63 16 127 HT_ ?_
   refine pU 7 (some 31) 127 16 255 HT_ ?_
   refine pU 8 (some 32) 255 16 511 HT_ ?_
   refine pU 9 (some 33) 511 16 1023 HT_ ?_
   refine pU 10 (some 34) 1023 16 2047 HT_ ?_
   refine pU 11 (some 35) 2047 16 4095 HT_ ?_
   refine pA 12 (some 36) 4095 16 8191 HT_ ?_
   refine one_ (i := 13) (N := none) (bts 16 16383) rfl rfl (one_of HT_.out (by kernel_rfl)) (by decide) (fun K hK => ?_)
   have hs11 : w10.cell? ⟨gb145, 0, none⟩ = some (.slice none 0 0) := (blk_cell BK145.out 0).trans rfl
   have hfs11 := blk_frozen BK145.out 0
   have hns11_0 := NB144_145.out
   have hms11_0 := NB145_144.out
   have hs12 : w10.cell? ⟨gb145, 1, none⟩ = some (.int .i64 0) := (blk_cell BK145.out 1).trans rfl
   have hfs12 := blk_frozen BK145.out 1
   have hns12_0 := NB144_145.out
   have hms12_0 := NB145_144.out
   refine skip_ (w1 := ?_) (by rfl) rfl ?_ ?_
   rotate_left
   ·go_simp
    rfl
   refine hK.out _ _ ⟨((cell_far (p := ⟨gb145, _, none⟩) NB144_145.out _).trans (((cell_far (p := ⟨gb145, _, none⟩) NB144_145.out _).trans (hHeld.1)))), ((cell_far (p := ⟨gb145, _, none⟩) NB144_145.out _).trans (((cell_far (p := ⟨gb145, _, none⟩) NB144_145.out _).trans (hHeld.2))))⟩ (fun hHeld => ?_)
   clear hK K
   refine pA 14 (some 5) 16383 16 32767 HT_ ?_
   refine pA 15 (some 6) 32767 16 65535 HT_ ?_
   refine done_ (done_of HT_.out (by kernel_rfl)) ?_
   try go_wp2
   refine bodyPost_ret (results_ctt rfl _ _ gb145 59 #[.slice none 0 0, .int .i64 0] (0, 0) _ rfl (by (with_reducible repeat (first | refine blk_drewN ?_ _ | refine blk_drew ?_ | refine blk_alloc ?_ _)); refine blk_put (cs := #[.slice none 0 0, .int .i64 0]) ?_ 1 _ rfl; (with_reducible repeat (first | refine blk_drewN ?_ _ | refine blk_drew ?_ | refine blk_alloc ?_ _)); refine blk_put (cs := #[.slice none 0 0, .int .i64 0]) ?_ 0 _ rfl; (with_reducible repeat (first | refine blk_drewN ?_ _ | refine blk_drew ?_ | refine blk_alloc ?_ _)); exact BK145.out) Tryd.underlying59 rfl (by kernel_rfl)) rfl ?_
   exact ⟨_, rE, (Kd.V_nil _ _ _ _ _), bH⟩
  ·rw [if_neg c5] at H
   have c5b0 : (a0_1 == 0) = false := beq_eq_false_iff_ne.mpr c5
   have c5b1 : (a0_1 != 0) = true := bne_iff_ne.mpr c5
   by_cases c13 : a1 = 1
   ·rw [if_pos c13] at H
    have c13b0 : (a1 == 1) = true := beq_iff_eq.mpr c13
    have c13b1 : (a1 != 1) = false := bne_eq_false_iff_eq.mpr c13
    clear c13
    simp only [Option.some.injEq, Prod.mk.injEq] at H
    obtain ⟨rfl, rfl, rfl, rfl⟩ := H
    go_enter Tryd.func55, Tryd.ntmps55
    try go_wp2_with (first | ((with_reducible refine gate_dst (N := 2) rfl ?_); refine bxE 2 #[.slice A0_0 l0_0.length c0_0, .int .i64 a0_1] 59 ?_; intro gb144 hg w14 hbox hb; replace HO0_0 := mk0 (Kd.V_below (Kd.V_elderB (uV HO0_0.out) gb144 (Nat.le_of_eq hg.symm)) hb); have BK144 := mk0 (hbox); have GW144 := mk0 ((by rw [hg]; exact (below_size (uL HB.out)) : w.heap.size ≤ gb144)); have GE144 := mk0 ((by rw [hg]; exact (below_size (uL HB.out)) : w.heap.size ≤ gb144)); replace HB := hbB (uL HB.out) hb; clear hb hbox hg) | ((with_reducible refine gate_dst (N := 4) rfl ?_); refine bxE 4 #[.slice none 0 0, .int .i64 0] 59 ?_; intro gb145 hg w15 hbox hb; replace HO0_0 := mk0 (Kd.V_below (Kd.V_elderB (uV HO0_0.out) gb145 (Nat.le_of_eq hg.symm)) hb); have BK145 := mk0 (hbox); have GW145 := mk0 ((by rw [hg]; exact (below_size bH) : w.heap.size ≤ gb145)); have GE145 := mk0 ((by rw [hg]; exact (below_size bH) : w.heap.size ≤ gb145)); replace HB := hbB bH hb; have NB144_145 := mk0 ((by rw [hg]; exact Nat.ne_of_lt (blk_lt (g := gb144) (o := .cells #[.slice A0_0 l0_0.length c0_0, .int .i64 a0_1] 59 (0, 0)) (uB BK144.out)) : gb144 ≠ gb145)); have NB145_144 := mk0 ((by rw [hg]; exact Nat.ne_of_gt (blk_lt (g := gb144) (o := .cells #[.slice A0_0 l0_0.length c0_0, .int .i64 a0_1] 59 (0, 0)) (uB BK144.out)) : gb145 ≠ gb144)); replace BK144 := bB BK144 hb; clear hb hbox hg; have hnb16 := NB144_145.out; have hnc16 := NB145_144.out; obtain ⟨hcz17_0, hcz17_1, hfz17_0, hfz17_1⟩ := cL2 BK144) | ((with_reducible refine gate_dst (N := 14) rfl ?_); refine gsM (some 14) Tryd.func66 #[.slice A0_0 l0_0.length c0_0] ?_; (with_reducible refine (sys_gcd.calls k _ _ l0_0 t146 _ ?side1 ?side2 A3.out).mono ?_); (case side1 => exact uC ((Kd.V_reads' HO0_0.out).2.2)); (case side2 => exact (Kd.V_reads' HO0_0.out).2.1); rintro e w' ⟨rfl, ⟨nd, rfl⟩⟩; refine ⟨_, rfl, ?_⟩; (try (rw [drewN_self w15]; generalize hq_ : World.drewN w15 _ = w15; have n0_ : Aside0 (Kd.V (Kd.int .i64) 2 w15 w.heap.size (fun k_ => (P0_0_ k_ ∨ w.heap.size ≤ k_) ∧ k_ ≠ gb144 ∧ k_ ≠ gb145) (.slice A0_0 l0_0.length c0_0) l0_0) := ⟨by rw [← hq_]; exact (uV (Kd.V_mono HO0_0.out (fun _ hk => ⟨hk.1.1, ⟨hk.1.2, hk.2⟩⟩)))⟩; have n1_ : Aside0 (w15.heap[gb144]? = some (.cells #[.slice A0_0 l0_0.length c0_0, .int .i64 a0_1] 59 (0, 0))) := ⟨by rw [← hq_]; exact (uB BK144.out)⟩; have n2_ : Aside0 (w15.heap[gb145]? = some (.cells #[.slice none 0 0, .int .i64 0] 59 (0, 0))) := ⟨by rw [← hq_]; exact (uB BK145.out)⟩; have n3_ : Aside0 (Below w.heap.size w w15) := ⟨by rw [← hq_]; exact bH⟩; clear HO0_0 BK144 BK145 HB hq_; have HO0_0 := n0_; have BK144 := n1_; have BK145 := n2_; have HB := n3_; clear n0_ n1_ n2_ n3_; obtain ⟨hczq144_0, hczq144_1, hfzq144_0, hfzq144_1⟩ := cL2 BK144; obtain ⟨hczq145_0, hczq145_1, hfzq145_0, hfzq145_1⟩ := cL2 BK145))))
    replace HO0_0 := mk0 (Kd.V_drew HO0_0.out)
    replace BK144 := mk0 (blk_drew BK144.out)
    replace BK145 := mk0 (blk_drew BK145.out)
    replace HB := mk0 (below_drew1 HB.out)
    refine start_ (n := 16) (S := fun w' => w'.cell? ⟨gb144, 0, none⟩ = some (.slice A0_0 l0_0.length c0_0) ∧ w'.cell? ⟨gb144, 1, none⟩ = some (.int .i64 a0_1)) (ds := []) (bts 16 0) (by kernel_rfl) rfl rfl ⟨(blk_cell BK144.out 0).trans rfl, (blk_cell BK144.out 1).trans rfl⟩ (fun hHeld => ?_); refine with_tabW sys_tight.tab5 sys_tight.bits5 (fun HT_ HW_ => ?_)
    generalize w15.drew = w18 at HO0_0 BK144 BK145 HB hHeld ⊢
    refine pA 0 (some 24) 0 16 1 HT_ ?_
    refine pA 1 (some 25) 1 16 3 HT_ ?_
    refine tA2 2 (some 26) 3 16 7 HT_ HW_ hHeld ?_
    refine pA 3 (some 27) 7 16 15 HT_ ?_
    refine pA 4 (some 28) 15 16 31 HT_ ?_
    refine pA 5 (some 29) 31 16 63 HT_ ?_
    refine pA 6 (some 30) 63 16 127 HT_ ?_
    refine pA 7 (some 31) 127 16 255 HT_ ?_
    refine pA 8 (some 32) 255 16 511 HT_ ?_
    refine tA2 9 (some 33) 511 16 1023 HT_ HW_ hHeld ?_
    refine pA 10 (some 34) 1023 16 2047 HT_ ?_
    refine pA 11 (some 35) 2047 16 4095 HT_ ?_
    refine pA 12 (some 36) 4095 16 8191 HT_ ?_
    refine one_ (i := 13) (N := none) (bts 16 16383) rfl rfl (one_of HT_.out (by kernel_rfl)) (by decide) (fun K hK => ?_)
    have hs19 : w18.cell? ⟨gb145, 0, none⟩ = some (.slice none 0 0) := (blk_cell BK145.out 0).trans rfl
    have hfs19 := blk_frozen BK145.out 0
    have hns19_0 := NB144_145.out
    have hms19_0 := NB145_144.out
    have hs20 : w18.cell? ⟨gb145, 1, none⟩ = some (.int .i64 0) := (blk_cell BK145.out 1).trans rfl
    have hfs20 := blk_frozen BK145.out 1
    have hns20_0 := NB144_145.out
    have hms20_0 := NB145_144.out
    refine skip_ (w1 := ?_) (by rfl) rfl ?_ ?_
    rotate_left
    ·go_simp
     rfl
    refine hK.out _ _ ⟨((cell_far (p := ⟨gb145, _, none⟩) NB144_145.out _).trans (((cell_far (p := ⟨gb145, _, none⟩) NB144_145.out _).trans (hHeld.1)))), ((cell_far (p := ⟨gb145, _, none⟩) NB144_145.out _).trans (((cell_far (p := ⟨gb145, _, none⟩) NB144_145.out _).trans (hHeld.2))))⟩ (fun hHeld => ?_)
    clear hK K
    refine pA 14 (some 5) 16383 16 32767 HT_ ?_
    refine pA 15 (some 6) 32767 16 65535 HT_ ?_
    refine done_ (done_of HT_.out (by kernel_rfl)) ?_
    try go_wp2
    refine bodyPost_ret (results_ctt rfl _ _ gb145 59 #[.slice none 0 0, .int .i64 0] (0, 0) _ rfl (by (with_reducible repeat (first | refine blk_drewN ?_ _ | refine blk_drew ?_ | refine blk_alloc ?_ _)); refine blk_put (cs := #[.slice none 0 0, .int .i64 0]) ?_ 1 _ rfl; (with_reducible repeat (first | refine blk_drewN ?_ _ | refine blk_drew ?_ | refine blk_alloc ?_ _)); refine blk_put (cs := #[.slice none 0 0, .int .i64 0]) ?_ 0 _ rfl; (with_reducible repeat (first | refine blk_drewN ?_ _ | refine blk_drew ?_ | refine blk_alloc ?_ _)); exact BK145.out) Tryd.underlying59 rfl (by kernel_rfl)) rfl ?_
    exact ⟨_, rE, (Kd.V_nil _ _ _ _ _), bH⟩
   ·rw [if_neg c13] at H
    have c13b0 : (a1 == 1) = false := beq_eq_false_iff_ne.mpr c13
    have c13b1 : (a1 != 1) = true := bne_iff_ne.mpr c13
    simp only [Option.some.injEq, Prod.mk.injEq] at H
    obtain ⟨rfl, rfl, rfl, rfl⟩ := H
    go_enter Tryd.func55, Tryd.ntmps55
    try go_wp2_with (first | ((with_reducible refine gate_dst (N := 2) rfl ?_); refine bxE 2 #[.slice A0_0 l0_0.length c0_0, .int .i64 a0_1] 59 ?_; intro gb144 hg w21 hbox hb; replace HO0_0 := mk0 (Kd.V_below (Kd.V_elderB (uV HO0_0.out) gb144 (Nat.le_of_eq hg.symm)) hb); have BK144 := mk0 (hbox); have GW144 := mk0 ((by rw [hg]; exact (below_size (uL HB.out)) : w.heap.size ≤ gb144)); have GE144 := mk0 ((by rw [hg]; exact (below_size (uL HB.out)) : w.heap.size ≤ gb144)); replace HB := hbB (uL HB.out) hb; clear hb hbox hg) | ((with_reducible refine gate_dst (N := 4) rfl ?_); refine bxE 4 #[.slice none 0 0, .int .i64 0] 59 ?_; intro gb145 hg w22 hbox hb; replace HO0_0 := mk0 (Kd.V_below (Kd.V_elderB (uV HO0_0.out) gb145 (Nat.le_of_eq hg.symm)) hb); have BK145 := mk0 (hbox); have GW145 := mk0 ((by rw [hg]; exact (below_size bH) : w.heap.size ≤ gb145)); have GE145 := mk0 ((by rw [hg]; exact (below_size bH) : w.heap.size ≤ gb145)); replace HB := hbB bH hb; have NB144_145 := mk0 ((by rw [hg]; exact Nat.ne_of_lt (blk_lt (g := gb144) (o := .cells #[.slice A0_0 l0_0.length c0_0, .int .i64 a0_1] 59 (0, 0)) (uB BK144.out)) : gb144 ≠ gb145)); have NB145_144 := mk0 ((by rw [hg]; exact Nat.ne_of_gt (blk_lt (g := gb144) (o := .cells #[.slice A0_0 l0_0.length c0_0, .int .i64 a0_1] 59 (0, 0)) (uB BK144.out)) : gb145 ≠ gb144)); replace BK144 := bB BK144 hb; clear hb hbox hg; have hnb23 := NB144_145.out; have hnc23 := NB145_144.out; obtain ⟨hcz24_0, hcz24_1, hfz24_0, hfz24_1⟩ := cL2 BK144) | ((with_reducible refine gate_dst (N := 14) rfl ?_); refine gsM (some 14) Tryd.func66 #[.slice A0_0 l0_0.length c0_0] ?_; (with_reducible refine (sys_gcd.calls k _ _ l0_0 t146 _ ?side1 ?side2 A3.out).mono ?_); (case side1 => exact uC ((Kd.V_reads' HO0_0.out).2.2)); (case side2 => exact (Kd.V_reads' HO0_0.out).2.1); rintro e w' ⟨rfl, ⟨nd, rfl⟩⟩; refine ⟨_, rfl, ?_⟩; (try (rw [drewN_self w22]; generalize hq_ : World.drewN w22 _ = w22; have n0_ : Aside0 (Kd.V (Kd.int .i64) 2 w22 w.heap.size (fun k_ => (P0_0_ k_ ∨ w.heap.size ≤ k_) ∧ k_ ≠ gb144 ∧ k_ ≠ gb145) (.slice A0_0 l0_0.length c0_0) l0_0) := ⟨by rw [← hq_]; exact (uV (Kd.V_mono HO0_0.out (fun _ hk => ⟨hk.1.1, ⟨hk.1.2, hk.2⟩⟩)))⟩; have n1_ : Aside0 (w22.heap[gb144]? = some (.cells #[.slice A0_0 l0_0.length c0_0, .int .i64 a0_1] 59 (0, 0))) := ⟨by rw [← hq_]; exact (uB BK144.out)⟩; have n2_ : Aside0 (w22.heap[gb145]? = some (.cells #[.slice none 0 0, .int .i64 0] 59 (0, 0))) := ⟨by rw [← hq_]; exact (uB BK145.out)⟩; have n3_ : Aside0 (Below w.heap.size w w22) := ⟨by rw [← hq_]; exact bH⟩; clear HO0_0 BK144 BK145 HB hq_; have HO0_0 := n0_; have BK144 := n1_; have BK145 := n2_; have HB := n3_; clear n0_ n1_ n2_ n3_; obtain ⟨hczq144_0, hczq144_1, hfzq144_0, hfzq144_1⟩ := cL2 BK144; obtain ⟨hczq145_0, hczq145_1, hfzq145_0, hfzq145_1⟩ := cL2 BK145))))
    replace HO0_0 := mk0 (Kd.V_drew HO0_0.out)
    replace BK144 := mk0 (blk_drew BK144.out)
    replace BK145 := mk0 (blk_drew BK145.out)
    replace HB := mk0 (below_drew1 HB.out)
    refine start_ (n := 16) (S := fun w' => w'.cell? ⟨gb144, 0, none⟩ = some (.slice A0_0 l0_0.length c0_0) ∧ w'.cell? ⟨gb144, 1, none⟩ = some (.int .i64 a0_1)) (ds := []) (bts 16 0) (by kernel_rfl) rfl rfl ⟨(blk_cell BK144.out 0).trans rfl, (blk_cell BK144.out 1).trans rfl⟩ (fun hHeld => ?_); refine with_tabW sys_tight.tab5 sys_tight.bits5 (fun HT_ HW_ => ?_)
    generalize w22.drew = w25 at HO0_0 BK144 BK145 HB hHeld ⊢
    refine pA 0 (some 24) 0 16 1 HT_ ?_
    refine pA 1 (some 25) 1 16 3 HT_ ?_
    refine tA2 2 (some 26) 3 16 7 HT_ HW_ hHeld ?_
    refine pA 3 (some 27) 7 16 15 HT_ ?_
    refine pA 4 (some 28) 15 16 31 HT_ ?_
    refine pA 5 (some 29) 31 16 63 HT_ ?_
    refine pA 6 (some 30) 63 16 127 HT_ ?_
    refine pA 7 (some 31) 127 16 255 HT_ ?_
    refine pU 8 (some 32) 255 16 511 HT_ ?_
    refine pU 9 (some 33) 511 16 1023 HT_ ?_
    refine pU 10 (some 34) 1023 16 2047 HT_ ?_
    refine pA 11 (some 35) 2047 16 4095 HT_ ?_
    refine pA 12 (some 36) 4095 16 8191 HT_ ?_
    refine one_ (i := 13) (N := none) (bts 16 16383) rfl rfl (one_of HT_.out (by kernel_rfl)) (by decide) (fun K hK => ?_)
    have hs26 : w25.cell? ⟨gb145, 0, none⟩ = some (.slice none 0 0) := (blk_cell BK145.out 0).trans rfl
    have hfs26 := blk_frozen BK145.out 0
    have hns26_0 := NB144_145.out
    have hms26_0 := NB145_144.out
    have hs27 : w25.cell? ⟨gb145, 1, none⟩ = some (.int .i64 0) := (blk_cell BK145.out 1).trans rfl
    have hfs27 := blk_frozen BK145.out 1
    have hns27_0 := NB144_145.out
    have hms27_0 := NB145_144.out
    refine skip_ (w1 := ?_) (by rfl) rfl ?_ ?_
    rotate_left
    ·go_simp
     rfl
    refine hK.out _ _ ⟨((cell_far (p := ⟨gb145, _, none⟩) NB144_145.out _).trans (((cell_far (p := ⟨gb145, _, none⟩) NB144_145.out _).trans (hHeld.1)))), ((cell_far (p := ⟨gb145, _, none⟩) NB144_145.out _).trans (((cell_far (p := ⟨gb145, _, none⟩) NB144_145.out _).trans (hHeld.2))))⟩ (fun hHeld => ?_)
    clear hK K
    refine pA 14 (some 5) 16383 16 32767 HT_ ?_
    refine pA 15 (some 6) 32767 16 65535 HT_ ?_
    refine done_ (done_of HT_.out (by kernel_rfl)) ?_
    try go_wp2
    refine bodyPost_ret (results_ctt rfl _ _ gb145 59 #[.slice none 0 0, .int .i64 0] (0, 0) _ rfl (by (with_reducible repeat (first | refine blk_drewN ?_ _ | refine blk_drew ?_ | refine blk_alloc ?_ _)); refine blk_put (cs := #[.slice none 0 0, .int .i64 0]) ?_ 1 _ rfl; (with_reducible repeat (first | refine blk_drewN ?_ _ | refine blk_drew ?_ | refine blk_alloc ?_ _)); refine blk_put (cs := #[.slice none 0 0, .int .i64 0]) ?_ 0 _ rfl; (with_reducible repeat (first | refine blk_drewN ?_ _ | refine blk_drew ?_ | refine blk_alloc ?_ _)); exact BK145.out) Tryd.underlying59 rfl (by kernel_rfl)) rfl ?_
    exact ⟨_, rE, (Kd.V_nil _ _ _ _ _), bH⟩
 ·rw [if_neg c4] at H
  have c4b0 : (t146 == 0) = false := beq_eq_false_iff_ne.mpr c4
  have c4b1 : (t146 != 0) = true := bne_iff_ne.mpr c4
  by_cases c28 : t146 > 9223372036854775807
  ·rw [if_pos c28] at H
   have c28b0 : decide (9223372036854775807 < t146) = true := decide_eq_true c28
   clear c28
   simp only [Option.some.injEq, Prod.mk.injEq] at H
   obtain ⟨rfl, rfl, rfl, rfl⟩ := H
   go_enter Tryd.func55, Tryd.ntmps55
   go_wp2_with (first | ((with_reducible refine gate_dst (N := 2) rfl ?_); refine bxE 2 #[.slice A0_0 l0_0.length c0_0, .int .i64 a0_1] 59 ?_; intro gb144 hg w29 hbox hb; replace HO0_0 := mk0 (Kd.V_below (Kd.V_elderB (uV HO0_0.out) gb144 (Nat.le_of_eq hg.symm)) hb); have BK144 := mk0 (hbox); have GW144 := mk0 ((by rw [hg]; exact (below_size (uL HB.out)) : w.heap.size ≤ gb144)); have GE144 := mk0 ((by rw [hg]; exact (below_size (uL HB.out)) : w.heap.size ≤ gb144)); replace HB := hbB (uL HB.out) hb; clear hb hbox hg) | ((with_reducible refine gate_dst (N := 4) rfl ?_); refine bxE 4 #[.slice none 0 0, .int .i64 0] 59 ?_; intro gb145 hg w30 hbox hb; replace HO0_0 := mk0 (Kd.V_below (Kd.V_elderB (uV HO0_0.out) gb145 (Nat.le_of_eq hg.symm)) hb); have BK145 := mk0 (hbox); have GW145 := mk0 ((by rw [hg]; exact (below_size bH) : w.heap.size ≤ gb145)); have GE145 := mk0 ((by rw [hg]; exact (below_size bH) : w.heap.size ≤ gb145)); replace HB := hbB bH hb; have NB144_145 := mk0 ((by rw [hg]; exact Nat.ne_of_lt (blk_lt (g := gb144) (o := .cells #[.slice A0_0 l0_0.length c0_0, .int .i64 a0_1] 59 (0, 0)) (uB BK144.out)) : gb144 ≠ gb145)); have NB145_144 := mk0 ((by rw [hg]; exact Nat.ne_of_gt (blk_lt (g := gb144) (o := .cells #[.slice A0_0 l0_0.length c0_0, .int .i64 a0_1] 59 (0, 0)) (uB BK144.out)) : gb145 ≠ gb144)); replace BK144 := bB BK144 hb; clear hb hbox hg; have hnb31 := NB144_145.out; have hnc31 := NB145_144.out; obtain ⟨hcz32_0, hcz32_1, hfz32_0, hfz32_1⟩ := cL2 BK144) | ((with_reducible refine gate_dst (N := 14) rfl ?_); refine gsM (some 14) Tryd.func66 #[.slice A0_0 l0_0.length c0_0] ?_; (with_reducible refine (sys_gcd.calls k _ _ l0_0 t146 _ ?side1 ?side2 A3.out).mono ?_); (case side1 => exact uC ((Kd.V_reads' HO0_0.out).2.2)); (case side2 => exact (Kd.V_reads' HO0_0.out).2.1); rintro e w' ⟨rfl, ⟨nd, rfl⟩⟩; refine ⟨_, rfl, ?_⟩; (try (rw [drewN_self w30]; generalize hq_ : World.drewN w30 _ = w30; have n0_ : Aside0 (Kd.V (Kd.int .i64) 2 w30 w.heap.size (fun k_ => (P0_0_ k_ ∨ w.heap.size ≤ k_) ∧ k_ ≠ gb144 ∧ k_ ≠ gb145) (.slice A0_0 l0_0.length c0_0) l0_0) := ⟨by rw [← hq_]; exact (uV (Kd.V_mono HO0_0.out (fun _ hk => ⟨hk.1.1, ⟨hk.1.2, hk.2⟩⟩)))⟩; have n1_ : Aside0 (w30.heap[gb144]? = some (.cells #[.slice A0_0 l0_0.length c0_0, .int .i64 a0_1] 59 (0, 0))) := ⟨by rw [← hq_]; exact (uB BK144.out)⟩; have n2_ : Aside0 (w30.heap[gb145]? = some (.cells #[.slice none 0 0, .int .i64 0] 59 (0, 0))) := ⟨by rw [← hq_]; exact (uB BK145.out)⟩; have n3_ : Aside0 (Below w.heap.size w w30) := ⟨by rw [← hq_]; exact bH⟩; clear HO0_0 BK144 BK145 HB hq_; have HO0_0 := n0_; have BK144 := n1_; have BK145 := n2_; have HB := n3_; clear n0_ n1_ n2_ n3_; obtain ⟨hczq144_0, hczq144_1, hfzq144_0, hfzq144_1⟩ := cL2 BK144; obtain ⟨hczq145_0, hczq145_1, hfzq145_0, hfzq145_1⟩ := cL2 BK145)); obtain ⟨hcz33_0, hcz33_1, hfz33_0, hfz33_1⟩ := cL2 BK145))
   refine bodyPost_ret (results_ctt rfl _ _ gb145 59 #[.slice A0_0 l0_0.length c0_0, .int .i64 a0_1] (0, 0) _ rfl (by (with_reducible repeat (first | refine blk_drewN ?_ _ | refine blk_drew ?_ | refine blk_alloc ?_ _)); refine blk_put (cs := #[.slice A0_0 l0_0.length c0_0, .int .i64 0]) ?_ 1 _ rfl; (with_reducible repeat (first | refine blk_drewN ?_ _ | refine blk_drew ?_ | refine blk_alloc ?_ _)); refine blk_put (cs := #[.slice none 0 0, .int .i64 0]) ?_ 0 _ rfl; (with_reducible repeat (first | refine blk_drewN ?_ _ | refine blk_drew ?_ | refine blk_alloc ?_ _)); exact BK145.out) Tryd.underlying59 rfl (by kernel_rfl)) rfl ?_
   exact ⟨_, rE, uV (Kd.V_mono (Kd.V_far (p := ⟨gb145, 1, none⟩) (Kd.V_far (p := ⟨gb145, 0, none⟩) (Kd.V_mono HO0_0.out (fun k_ hk => (⟨hk, by first | exact hk.2 | exact hk.2.2⟩ : _ ∧ k_ ≠ gb145))) (fun _ hk => hk.2) (.slice A0_0 l0_0.length c0_0)) (fun _ hk => hk.2) (.int .i64 a0_1)) (fun _ hk => by first | exact hk.1.1.1 | exact hk.1.1)), bH⟩
  ·rw [if_neg c28] at H
   have c28b0 : decide (9223372036854775807 < t146) = false := decide_eq_false c28
   clear c28
   by_cases c34 : t146 = 1
   ·rw [if_pos c34] at H
    have c34b0 : (t146 == 1) = true := beq_iff_eq.mpr c34
    have c34b1 : (t146 != 1) = false := bne_eq_false_iff_eq.mpr c34
    clear c34
    simp only [Option.some.injEq, Prod.mk.injEq] at H
    obtain ⟨rfl, rfl, rfl, rfl⟩ := H
    go_enter Tryd.func55, Tryd.ntmps55
    go_wp2_with (first | ((with_reducible refine gate_dst (N := 2) rfl ?_); refine bxE 2 #[.slice A0_0 l0_0.length c0_0, .int .i64 a0_1] 59 ?_; intro gb144 hg w35 hbox hb; replace HO0_0 := mk0 (Kd.V_below (Kd.V_elderB (uV HO0_0.out) gb144 (Nat.le_of_eq hg.symm)) hb); have BK144 := mk0 (hbox); have GW144 := mk0 ((by rw [hg]; exact (below_size (uL HB.out)) : w.heap.size ≤ gb144)); have GE144 := mk0 ((by rw [hg]; exact (below_size (uL HB.out)) : w.heap.size ≤ gb144)); replace HB := hbB (uL HB.out) hb; clear hb hbox hg) | ((with_reducible refine gate_dst (N := 4) rfl ?_); refine bxE 4 #[.slice none 0 0, .int .i64 0] 59 ?_; intro gb145 hg w36 hbox hb; replace HO0_0 := mk0 (Kd.V_below (Kd.V_elderB (uV HO0_0.out) gb145 (Nat.le_of_eq hg.symm)) hb); have BK145 := mk0 (hbox); have GW145 := mk0 ((by rw [hg]; exact (below_size bH) : w.heap.size ≤ gb145)); have GE145 := mk0 ((by rw [hg]; exact (below_size bH) : w.heap.size ≤ gb145)); replace HB := hbB bH hb; have NB144_145 := mk0 ((by rw [hg]; exact Nat.ne_of_lt (blk_lt (g := gb144) (o := .cells #[.slice A0_0 l0_0.length c0_0, .int .i64 a0_1] 59 (0, 0)) (uB BK144.out)) : gb144 ≠ gb145)); have NB145_144 := mk0 ((by rw [hg]; exact Nat.ne_of_gt (blk_lt (g := gb144) (o := .cells #[.slice A0_0 l0_0.length c0_0, .int .i64 a0_1] 59 (0, 0)) (uB BK144.out)) : gb145 ≠ gb144)); replace BK144 := bB BK144 hb; clear hb hbox hg; have hnb37 := NB144_145.out; have hnc37 := NB145_144.out; obtain ⟨hcz38_0, hcz38_1, hfz38_0, hfz38_1⟩ := cL2 BK144) | ((with_reducible refine gate_dst (N := 14) rfl ?_); refine gsM (some 14) Tryd.func66 #[.slice A0_0 l0_0.length c0_0] ?_; (with_reducible refine (sys_gcd.calls k _ _ l0_0 t146 _ ?side1 ?side2 A3.out).mono ?_); (case side1 => exact uC ((Kd.V_reads' HO0_0.out).2.2)); (case side2 => exact (Kd.V_reads' HO0_0.out).2.1); rintro e w' ⟨rfl, ⟨nd, rfl⟩⟩; refine ⟨_, rfl, ?_⟩; (try (rw [drewN_self w36]; generalize hq_ : World.drewN w36 _ = w36; have n0_ : Aside0 (Kd.V (Kd.int .i64) 2 w36 w.heap.size (fun k_ => (P0_0_ k_ ∨ w.heap.size ≤ k_) ∧ k_ ≠ gb144 ∧ k_ ≠ gb145) (.slice A0_0 l0_0.length c0_0) l0_0) := ⟨by rw [← hq_]; exact (uV (Kd.V_mono HO0_0.out (fun _ hk => ⟨hk.1.1, ⟨hk.1.2, hk.2⟩⟩)))⟩; have n1_ : Aside0 (w36.heap[gb144]? = some (.cells #[.slice A0_0 l0_0.length c0_0, .int .i64 a0_1] 59 (0, 0))) := ⟨by rw [← hq_]; exact (uB BK144.out)⟩; have n2_ : Aside0 (w36.heap[gb145]? = some (.cells #[.slice none 0 0, .int .i64 0] 59 (0, 0))) := ⟨by rw [← hq_]; exact (uB BK145.out)⟩; have n3_ : Aside0 (Below w.heap.size w w36) := ⟨by rw [← hq_]; exact bH⟩; clear HO0_0 BK144 BK145 HB hq_; have HO0_0 := n0_; have BK144 := n1_; have BK145 := n2_; have HB := n3_; clear n0_ n1_ n2_ n3_; obtain ⟨hczq144_0, hczq144_1, hfzq144_0, hfzq144_1⟩ := cL2 BK144; obtain ⟨hczq145_0, hczq145_1, hfzq145_0, hfzq145_1⟩ := cL2 BK145)); obtain ⟨hcz39_0, hcz39_1, hfz39_0, hfz39_1⟩ := cL2 BK145))
    refine bodyPost_ret (results_ctt rfl _ _ gb145 59 #[.slice A0_0 l0_0.length c0_0, .int .i64 a0_1] (0, 0) _ rfl (by (with_reducible repeat (first | refine blk_drewN ?_ _ | refine blk_drew ?_ | refine blk_alloc ?_ _)); refine blk_put (cs := #[.slice A0_0 l0_0.length c0_0, .int .i64 0]) ?_ 1 _ rfl; (with_reducible repeat (first | refine blk_drewN ?_ _ | refine blk_drew ?_ | refine blk_alloc ?_ _)); refine blk_put (cs := #[.slice none 0 0, .int .i64 0]) ?_ 0 _ rfl; (with_reducible repeat (first | refine blk_drewN ?_ _ | refine blk_drew ?_ | refine blk_alloc ?_ _)); exact BK145.out) Tryd.underlying59 rfl (by kernel_rfl)) rfl ?_
    exact ⟨_, rE, uV (Kd.V_mono (Kd.V_far (p := ⟨gb145, 1, none⟩) (Kd.V_far (p := ⟨gb145, 0, none⟩) (Kd.V_mono HO0_0.out (fun k_ hk => (⟨hk, by first | exact hk.2 | exact hk.2.2⟩ : _ ∧ k_ ≠ gb145))) (fun _ hk => hk.2) (.slice A0_0 l0_0.length c0_0)) (fun _ hk => hk.2) (.int .i64 a0_1)) (fun _ hk => by first | exact hk.1.1.1 | exact hk.1.1)), bH⟩
   ·rw [if_neg c34] at H
    have c34b0 : (t146 == 1) = false := beq_eq_false_iff_ne.mpr c34
    have c34b1 : (t146 != 1) = true := bne_iff_ne.mpr c34
    have HC40 := mk0 H
    clear H
    go_enter Tryd.func55, Tryd.ntmps55
    go_upto_region 9 with (first | ((with_reducible refine gate_dst (N := 2) rfl ?_); refine bxE 2 #[.slice A0_0 l0_0.length c0_0, .int .i64 a0_1] 59 ?_; intro gb144 hg w41 hbox hb; replace HO0_0 := mk0 (Kd.V_below (Kd.V_elderB (uV HO0_0.out) gb144 (Nat.le_of_eq hg.symm)) hb); have BK144 := mk0 (hbox); have GW144 := mk0 ((by rw [hg]; exact (below_size (uL HB.out)) : w.heap.size ≤ gb144)); have GE144 := mk0 ((by rw [hg]; exact (below_size (uL HB.out)) : w.heap.size ≤ gb144)); replace HB := hbB (uL HB.out) hb; clear hb hbox hg) | ((with_reducible refine gate_dst (N := 4) rfl ?_); refine bxE 4 #[.slice none 0 0, .int .i64 0] 59 ?_; intro gb145 hg w42 hbox hb; replace HO0_0 := mk0 (Kd.V_below (Kd.V_elderB (uV HO0_0.out) gb145 (Nat.le_of_eq hg.symm)) hb); have BK145 := mk0 (hbox); have GW145 := mk0 ((by rw [hg]; exact (below_size bH) : w.heap.size ≤ gb145)); have GE145 := mk0 ((by rw [hg]; exact (below_size bH) : w.heap.size ≤ gb145)); replace HB := hbB bH hb; have NB144_145 := mk0 ((by rw [hg]; exact Nat.ne_of_lt (blk_lt (g := gb144) (o := .cells #[.slice A0_0 l0_0.length c0_0, .int .i64 a0_1] 59 (0, 0)) (uB BK144.out)) : gb144 ≠ gb145)); have NB145_144 := mk0 ((by rw [hg]; exact Nat.ne_of_gt (blk_lt (g := gb144) (o := .cells #[.slice A0_0 l0_0.length c0_0, .int .i64 a0_1] 59 (0, 0)) (uB BK144.out)) : gb145 ≠ gb144)); replace BK144 := bB BK144 hb; clear hb hbox hg; have hnb43 := NB144_145.out; have hnc43 := NB145_144.out; obtain ⟨hcz44_0, hcz44_1, hfz44_0, hfz44_1⟩ := cL2 BK144) | ((with_reducible refine gate_dst (N := 14) rfl ?_); refine gsM (some 14) Tryd.func66 #[.slice A0_0 l0_0.length c0_0] ?_; (with_reducible refine (sys_gcd.calls k _ _ l0_0 t146 _ ?side1 ?side2 A3.out).mono ?_); (case side1 => exact uC ((Kd.V_reads' HO0_0.out).2.2)); (case side2 => exact (Kd.V_reads' HO0_0.out).2.1); rintro e w' ⟨rfl, ⟨nd, rfl⟩⟩; refine ⟨_, rfl, ?_⟩))
    (try simp only [Act.put, List.setIfInBounds_toArray, List.set_cons_zero, List.set_cons_succ])
    go_cut [48] (fun v48 wc => ∃ (kq : Nat) (x48_39 : Bool), v48 = .bool x48_39 ∧ Aside0 (sys_tight.j0 kq (wrap64 (t146)) x48_39 l0_0 a0_1 = some (r1, r2, r3, r4)) ∧ Aside0 (kq ≤ k) ∧ Aside0 (Kd.V (Kd.int .i64) 2 wc w.heap.size (fun k_ => (P0_0_ k_ ∨ w.heap.size ≤ k_) ∧ k_ ≠ gb144 ∧ k_ ≠ gb145) (.slice A0_0 l0_0.length c0_0) l0_0) ∧ Aside0 (wc.heap[gb144]? = some (.cells #[(.slice A0_0 l0_0.length c0_0), .int .i64 a0_1] 59 (0, 0))) ∧ Aside0 (wc.heap[gb145]? = some (.cells #[(.slice none 0 0), .int .i64 0] 59 (0, 0))) ∧ Aside0 (Below w.heap.size w wc))
    case first =>
     have H := HC40.out
     clear HC40
     by_cases c45 : a1 = 0
     ·rw [if_pos c45] at H
      have c45b0 : (a1 == 0) = true := beq_iff_eq.mpr c45
      have c45b1 : (a1 != 0) = false := bne_eq_false_iff_eq.mpr c45
      clear c45
      (first | rw [c45b0] | (simp only [i64_w, i32_w]; rw [c45b0]) | skip)
      by_cases c46 : (wrap64 (t146)) = 0
      ·rw [if_pos c46] at H
       exact absurd H (by simp)
      ·rw [if_neg c46] at H
       have c46b0 : ((wrap64 (t146)) == 0) = false := beq_eq_false_iff_ne.mpr c46
       have c46b1 : ((wrap64 (t146)) != 0) = true := bne_iff_ne.mpr c46
       have H' := mk0 H
       clear H
       have hnb47 := NB144_145.out
       have hnc47 := NB145_144.out
       obtain ⟨hcz48_0, hcz48_1, hfz48_0, hfz48_1⟩ := cL2 BK144
       go_wp2
       go_meet
       case rel => exact ⟨_, (((Int.tmod a0_1 (wrap64 (t146))) != 0)), (by first | rfl | (simp; done) | (simp [*]; done) | (simp [bne_nil_, beq_nil_]; done)), H', ⟨by first | omega | exact Nat.le_refl _⟩, ⟨uV (Kd.V_mono HO0_0.out (fun _ hk => ⟨hk.1.1, ⟨hk.1.2, hk.2⟩⟩))⟩, ⟨uB BK144.out⟩, ⟨uB BK145.out⟩, ⟨bH⟩⟩
     ·rw [if_neg c45] at H
      have c45b0 : (a1 == 0) = false := beq_eq_false_iff_ne.mpr c45
      have c45b1 : (a1 != 0) = true := bne_iff_ne.mpr c45
      (first | rw [c45b0] | (simp only [i64_w, i32_w]; rw [c45b0]) | skip)
      have H' := mk0 H
      clear H
      go_wp2
      go_meet
      case rel => exact ⟨_, (false), (by first | rfl | (simp; done) | (simp [*]; done) | (simp [bne_nil_, beq_nil_]; done)), H', ⟨by first | omega | exact Nat.le_refl _⟩, ⟨uV (Kd.V_mono HO0_0.out (fun _ hk => ⟨hk.1.1, ⟨hk.1.2, hk.2⟩⟩))⟩, ⟨uB BK144.out⟩, ⟨uB BK145.out⟩, ⟨bH⟩⟩
    case rest =>
     clear HC40
     try clear c1
     try clear c2
     try clear p2
     try clear c3
     try clear c4
     try clear c4b0
     try clear c4b1
     try clear c5
     try clear c5b0
     try clear c5b1
     try clear c6
     try clear p6
     try clear c8
     try clear c13
     try clear c13b0
     try clear c13b1
     try clear c16
     try clear c23
     try clear c28
     try clear c28b0
     try clear c31
     try clear c34
     try clear c34b0
     try clear c34b1
     try clear c37
     try clear c43
     try clear c45
     try clear c45b0
     try clear c45b1
     try clear c46
     try clear c46b0
     try clear c46b1
     try clear c47
     try clear hcz17_0
     try clear hcz17_1
     try clear hcz24_0
     try clear hcz24_1
     try clear hcz32_0
     try clear hcz32_1
     try clear hcz33_0
     try clear hcz33_1
     try clear hcz38_0
     try clear hcz38_1
     try clear hcz39_0
     try clear hcz39_1
     try clear hcz44_0
     try clear hcz44_1
     try clear hcz48_0
     try clear hcz48_1
     try clear hcz9_0
     try clear hcz9_1
     try clear hfz17_0
     try clear hfz17_1
     try clear hfz24_0
     try clear hfz24_1
     try clear hfz32_0
     try clear hfz32_1
     try clear hfz33_0
     try clear hfz33_1
     try clear hfz38_0
     try clear hfz38_1
     try clear hfz39_0
     try clear hfz39_1
     try clear hfz44_0
     try clear hfz44_1
     try clear hfz48_0
     try clear hfz48_1
     try clear hfz9_0
     try clear hfz9_1
     obtain ⟨kq, x48_39, rfl, HA, HJ39, HO_145000, BK144, BK145, HB⟩ := hcut
     cases kq with
     | zero => exact absurd HA.out (by simp [sys_tight.j0])
     | succ kj39 =>
      have H := HA.out
      clear HA
      simp only [sys_tight.j0] at H
      by_cases c49 : x48_39 = true
      ·subst c49
       have H1 : (some (([] : List Int), 0, false, false)) = some (r1, r2, r3, r4) := by rw [if_pos rfl] at H; exact H
       clear H
       have H := H1
       clear H1
       simp only [Option.some.injEq, Prod.mk.injEq] at H
       obtain ⟨rfl, rfl, rfl, rfl⟩ := H
       have hnb50 := NB145_144.out
       have hnc50 := NB144_145.out
       obtain ⟨hcz51_0, hcz51_1, hfz51_0, hfz51_1⟩ := cL2 BK145
       go_wp2
       refine bodyPost_ret (results_ctt rfl _ _ gb145 59 #[.slice none 0 0, .int .i64 0] (0, 0) _ rfl (by (with_reducible repeat (first | refine blk_drewN ?_ _ | refine blk_drew ?_ | refine blk_alloc ?_ _)); refine blk_put (cs := #[.slice none 0 0, .int .i64 0]) ?_ 1 _ rfl; (with_reducible repeat (first | refine blk_drewN ?_ _ | refine blk_drew ?_ | refine blk_alloc ?_ _)); refine blk_put (cs := #[.slice none 0 0, .int .i64 0]) ?_ 0 _ rfl; (with_reducible repeat (first | refine blk_drewN ?_ _ | refine blk_drew ?_ | refine blk_alloc ?_ _)); exact BK145.out) Tryd.underlying59 rfl (by kernel_rfl)) rfl ?_
       exact ⟨_, rE, (Kd.V_nil _ _ _ _ _), bH⟩
      ·replace c49 := Bool.eq_false_iff.mpr c49
       subst c49
       have H1 : (sys_tight.l0 kj39 (wrap64 (t146)) l0_0 (l0_0.length : Int) 0 l0_0 a0_1 ([] : List Int) 0) = some (r1, r2, r3, r4) := by rw [if_neg (show ¬ (false = true) by decide)] at H; exact H
       clear H
       have H := H1
       clear H1
       have H' := mk0 H
       clear H
       go_wp2_with (first | ((with_reducible refine gate_dst (N := 9) rfl ?_); refine bxE 9 #[.slice none 0 0, .int .i64 0] 59 ?_; intro gb147 hg w52 hbox hb; replace HO_145000 := mk0 (Kd.V_below (Kd.V_elderB (uV HO_145000.out) gb147 (Nat.le_of_eq hg.symm)) hb); have BK147 := mk0 (hbox); have GW147 := mk0 ((by rw [hg]; exact (below_size bH) : w.heap.size ≤ gb147)); have GE147 := mk0 ((by rw [hg]; exact (below_size bH) : w.heap.size ≤ gb147)); replace HB := hbB bH hb; have NB144_147 := mk0 ((by rw [hg]; exact Nat.ne_of_lt (blk_lt (g := gb144) (o := .cells #[.slice A0_0 l0_0.length c0_0, .int .i64 a0_1] 59 (0, 0)) (uB BK144.out)) : gb144 ≠ gb147)); have NB147_144 := mk0 ((by rw [hg]; exact Nat.ne_of_gt (blk_lt (g := gb144) (o := .cells #[.slice A0_0 l0_0.length c0_0, .int .i64 a0_1] 59 (0, 0)) (uB BK144.out)) : gb147 ≠ gb144)); replace BK144 := bB BK144 hb; have NB145_147 := mk0 ((by rw [hg]; exact Nat.ne_of_lt (blk_lt (g := gb145) (o := .cells #[.slice none 0 0, .int .i64 0] 59 (0, 0)) (uB BK145.out)) : gb145 ≠ gb147)); have NB147_145 := mk0 ((by rw [hg]; exact Nat.ne_of_gt (blk_lt (g := gb145) (o := .cells #[.slice none 0 0, .int .i64 0] 59 (0, 0)) (uB BK145.out)) : gb147 ≠ gb145)); replace BK145 := bB BK145 hb; clear hb hbox hg; have hnb53 := NB147_144.out; have hnc53 := NB144_147.out; have hnb54 := NB147_145.out; have hnc54 := NB145_147.out; obtain ⟨hcz55_0, hcz55_1, hfz55_0, hfz55_1⟩ := cL2 BK147; have hnb56 := NB144_145.out; have hnc56 := NB145_144.out; obtain ⟨hcz57_0, hcz57_1, hfz57_0, hfz57_1⟩ := cL2 BK144))
       go_loopg [54] kj39 (fun kq v54 w' => ∃ (x54_2 : Int) (x148000_2 : List Int) (u148000 : Value), v54 = .int .i64 x54_2 ∧ Aside0 (sys_tight.l0 kq (wrap64 (t146)) l0_0 (l0_0.length : Int) x54_2 l0_0 a0_1 x148000_2 0 = some (r1, r2, r3, r4)) ∧ Aside0 (kq ≤ kj39) ∧ Aside0 (Kd.V (Kd.int .i64) 2 w' w.heap.size (fun k_ => (P0_0_ k_ ∨ w.heap.size ≤ k_) ∧ some k_ ≠ (u148000 : Value).ownBlock ∧ k_ ≠ gb144 ∧ k_ ≠ gb145 ∧ k_ ≠ gb147) (.slice A0_0 l0_0.length c0_0) l0_0) ∧ Aside0 (Kd.V (Kd.int .i64) 2 w' w.heap.size (fun k_ => (P0_0_ k_ ∨ w.heap.size ≤ k_) ∧ some k_ ≠ (u148000 : Value).ownBlock ∧ k_ ≠ gb144 ∧ k_ ≠ gb145 ∧ k_ ≠ gb147) (.slice A0_0 l0_0.length c0_0) l0_0) ∧ Aside0 (Kd.R (Kd.int .i64) 2 w' w.heap.size (fun k_ => (w.heap.size ≤ k_)) u148000 x148000_2) ∧ Aside0 (w'.heap[gb144]? = some (.cells #[(.slice A0_0 l0_0.length c0_0), .int .i64 a0_1] 59 (0, 0))) ∧ Aside0 (w'.heap[gb145]? = some (.cells #[(.slice none 0 0), .int .i64 0] 59 (0, 0))) ∧ Aside0 (w'.heap[gb147]? = some (.cells #[u148000, .int .i64 0] 59 (0, 0))) ∧ Aside0 (Below w.heap.size w w'))
       case atStart => exact ⟨(0), (([] : List Int)), (.slice none 0 0), (by first | rfl | (simp; done) | (simp [*]; done) | (simp [bne_nil_, beq_nil_]; done)), H', ⟨Nat.le_refl _⟩, ⟨uV (Kd.V_mono (Kd.V_far (p := ⟨gb147, 1, none⟩) (Kd.V_far (p := ⟨gb147, 0, none⟩) (Kd.V_mono HO_145000.out (fun k_ hk => (⟨hk, hk.2⟩ : _ ∧ k_ ≠ gb147))) (fun _ hk => hk.2) (.slice none 0 0)) (fun _ hk => hk.2) (.int .i64 0)) (fun _ hk => ⟨hk.1.1.1, ⟨(by simp [Value.ownBlock]), ⟨hk.1.1.2.1, ⟨hk.1.1.2.2, hk.1.2⟩⟩⟩⟩))⟩, ⟨uV (Kd.V_mono (Kd.V_far (p := ⟨gb147, 1, none⟩) (Kd.V_far (p := ⟨gb147, 0, none⟩) (Kd.V_mono HO_145000.out (fun k_ hk => (⟨hk, hk.2⟩ : _ ∧ k_ ≠ gb147))) (fun _ hk => hk.2) (.slice none 0 0)) (fun _ hk => hk.2) (.int .i64 0)) (fun _ hk => ⟨hk.1.1.1, ⟨(by simp [Value.ownBlock]), ⟨hk.1.1.2.1, ⟨hk.1.1.2.2, hk.1.2⟩⟩⟩⟩))⟩, ⟨nK⟩, ⟨by (with_reducible repeat (first | refine blk_drewN ?_ _ | refine blk_drew ?_ | refine blk_alloc ?_ _)); refine blk_far ?_ NB144_147.out _; (with_reducible repeat (first | refine blk_drewN ?_ _ | refine blk_drew ?_ | refine blk_alloc ?_ _)); refine blk_far ?_ NB144_147.out _; (with_reducible repeat (first | refine blk_drewN ?_ _ | refine blk_drew ?_ | refine blk_alloc ?_ _)); exact BK144.out⟩, ⟨by (with_reducible repeat (first | refine blk_drewN ?_ _ | refine blk_drew ?_ | refine blk_alloc ?_ _)); refine blk_far ?_ NB145_147.out _; (with_reducible repeat (first | refine blk_drewN ?_ _ | refine blk_drew ?_ | refine blk_alloc ?_ _)); refine blk_far ?_ NB145_147.out _; (with_reducible repeat (first | refine blk_drewN ?_ _ | refine blk_drew ?_ | refine blk_alloc ?_ _)); exact BK145.out⟩, ⟨by (with_reducible repeat (first | refine blk_drewN ?_ _ | refine blk_drew ?_ | refine blk_alloc ?_ _)); refine blk_put (cs := #[.slice none 0 0, .int .i64 0]) ?_ 1 _ rfl; (with_reducible repeat (first | refine blk_drewN ?_ _ | refine blk_drew ?_ | refine blk_alloc ?_ _)); refine blk_put (cs := #[.slice none 0 0, .int .i64 0]) ?_ 0 _ rfl; (with_reducible repeat (first | refine blk_drewN ?_ _ | refine blk_drew ?_ | refine blk_alloc ?_ _)); exact BK147.out⟩, ⟨bH⟩⟩
       case round =>
        clear H'
        try clear c1
        try clear c2
        try clear p2
        try clear c3
        try clear c4
        try clear c4b0
        try clear c4b1
        try clear c5
        try clear c5b0
        try clear c5b1
        try clear c6
        try clear p6
        try clear c8
        try clear c13
        try clear c13b0
        try clear c13b1
        try clear c16
        try clear c23
        try clear c28
        try clear c28b0
        try clear c31
        try clear c34
        try clear c34b0
        try clear c34b1
        try clear c37
        try clear c43
        try clear c45
        try clear c45b0
        try clear c45b1
        try clear c46
        try clear c46b0
        try clear c46b1
        try clear c47
        try clear c49
        try clear c50
        try clear c53
        try clear c54
        try clear c55
        try clear c56
        try clear hcz17_0
        try clear hcz17_1
        try clear hcz24_0
        try clear hcz24_1
        try clear hcz32_0
        try clear hcz32_1
        try clear hcz33_0
        try clear hcz33_1
        try clear hcz38_0
        try clear hcz38_1
        try clear hcz39_0
        try clear hcz39_1
        try clear hcz44_0
        try clear hcz44_1
        try clear hcz48_0
        try clear hcz48_1
        try clear hcz51_0
        try clear hcz51_1
        try clear hcz55_0
        try clear hcz55_1
        try clear hcz57_0
        try clear hcz57_1
        try clear hcz9_0
        try clear hcz9_1
        try clear hfz17_0
        try clear hfz17_1
        try clear hfz24_0
        try clear hfz24_1
        try clear hfz32_0
        try clear hfz32_1
        try clear hfz33_0
        try clear hfz33_1
        try clear hfz38_0
        try clear hfz38_1
        try clear hfz39_0
        try clear hfz39_1
        try clear hfz44_0
        try clear hfz44_1
        try clear hfz48_0
        try clear hfz48_1
        try clear hfz51_0
        try clear hfz51_1
        try clear hfz55_0
        try clear hfz55_1
        try clear hfz57_0
        try clear hfz57_1
        try clear hfz9_0
        try clear hfz9_1
        try clear p2
        try clear p6
        obtain ⟨x54_2, x148000_2, u148000, rfl, HA, HK2, HO_52, HO_145000, HO_148000, BK144, BK145, BK147, HB⟩ := hrel
        cases gk with
        | zero => exact absurd HA.out (by simp [sys_tight.l0])
        | succ k2 =>
         have H := HA.out
         clear HA
         simp only [sys_tight.l0] at H
         by_cases c58 : x54_2 < (l0_0.length : Int)
         ·rw [if_pos c58] at H
          have c58b0 : decide (x54_2 < (l0_0.length : Int)) = true := decide_eq_true c58
          clear c58
          by_cases c59 : 0 ≤ x54_2
          ·rw [if_pos c59] at H
           have c59b0 : decide (0 ≤ x54_2) = true := decide_eq_true c59
           clear c59
           by_cases c60 : x54_2 < (l0_0.length : Int)
           ·rw [if_pos c60] at H
            have c60b0 : decide (x54_2 < (l0_0.length : Int)) = true := decide_eq_true c60
            clear c60
            by_cases c61 : (wrap64 (t146)) = 0
            ·rw [if_pos c61] at H
             exact absurd H (by simp)
            ·rw [if_neg c61] at H
             have c61b0 : ((wrap64 (t146)) == 0) = false := beq_eq_false_iff_ne.mpr c61
             have c61b1 : ((wrap64 (t146)) != 0) = true := bne_iff_ne.mpr c61
             by_cases c62 : x148000_2.length < 17592186044416
             ·rw [if_pos c62] at H
              have LMc62 := mk0 c62
              clear c62
              obtain ⟨y149, hy149⟩ : ∃ y_ : List Int, y_ = (x148000_2 ++ [wrap64 (Int.tdiv (rd l0_0 x54_2) (wrap64 (t146)))]) := ⟨_, rfl⟩
              replace H : (sys_tight.l0 k2 (wrap64 (t146)) l0_0 (l0_0.length : Int) (wrap64 (x54_2 + 1)) l0_0 a0_1 y149 0) = some (r1, r2, r3, r4) := by first | (rw [hy149]; with_reducible exact H) | (have H2_ := (Option.bind_some _ _).symm.trans H; rw [hy149]; with_reducible exact H2_) | (have H2_ := (Option.bind_some _ _).symm.trans H; with_reducible exact H2_) | with_reducible exact H | (rw [hy149]; exact H) | exact H
              have Ny149 := mk0 hy149
              clear hy149
              have H' := mk0 H
              clear H
              have p148 : 0 ≤ (x54_2 : Int) := of_decide_eq_true (by first | (with_reducible assumption) | assumption)
              have q148 : x54_2 < (l0_0.length : Int) := of_decide_eq_true (by first | (with_reducible assumption) | assumption)
              obtain ⟨ad148, e148, hx148_0⟩ := Kd.at_int (Kd.V_reads' HO_52.out).2.2 x54_2 p148 q148
              cases e148
              replace p148 := eq_true p148
              replace q148 := eq_true q148
              try go_wp2
              replace HO_52 := mk0 (Kd.V_drew HO_52.out)
              replace HO_145000 := mk0 (Kd.V_drew HO_145000.out)
              replace HO_148000 := mk0 (Kd.R_drew HO_148000.out)
              replace BK144 := mk0 (blk_drew BK144.out)
              replace BK145 := mk0 (blk_drew BK145.out)
              replace BK147 := mk0 (blk_drew BK147.out)
              replace HB := mk0 (below_drew1 HB.out)
              refine start_ (n := 9) (S := fun w' => w'.cell? ⟨gb147, 0, none⟩ = some (u148000) ∧ w'.cell? ⟨gb147, 1, none⟩ = some (.int .i64 0)) (ds := [8]) (bts 9 0) (by kernel_rfl) rfl rfl ⟨(blk_cell BK147.out 0).trans rfl, (blk_cell BK147.out 1).trans rfl⟩ (fun hHeld => ?_); refine with_tabW sys_tight.tab15 sys_tight.bits15 (fun HT_ HW_ => ?_)
              generalize wr.drew = w63 at HO_52 HO_145000 HO_148000 BK144 BK145 BK147 HB hHeld ⊢
              refine pA 0 (some 58) 0 9 1 HT_ ?_
              refine pA 2 (some 60) 1 9 5 HT_ ?_
              refine pA 3 (some 61) 5 9 13 HT_ ?_
              refine pA 4 (some 62) 13 9 29 HT_ ?_
              refine tA2 1 (some 59) 29 9 31 HT_ HW_ hHeld ?_
              refine one_ (i := 5) (N := some 63) (bts 9 63) rfl rfl (one_of HT_.out (by kernel_rfl)) (by decide) (fun K hK => ?_)
              refine value_ (w1 := ?_) (v := ?_) (by rfl) rfl ?_ ?_
              rotate_left 2
              ·go_simp
               constructor
               ·rfl
               ·rfl
              refine hK.out _ _ ⟨(blk_cell (blk_alloc BK147.out _) 0).trans rfl, (blk_cell (blk_alloc BK147.out _) 1).trans rfl⟩ (fun hHeld => ?_)
              clear hK K
              refine norm_ (a' := ?_) ?_ ?_
              rotate_left
              ·show Act.put _ (some 63) _ = _
               simp only [Act.put, List.setIfInBounds_toArray, List.set_cons_zero, List.set_cons_succ, i64_w, i32_w]
               rfl
              refine one_ (i := 6) (N := some 64) (bts 9 127) rfl rfl (one_of HT_.out (by kernel_rfl)) (by decide) (fun K hK => ?_)
              refine Kd.R_append_step (Kd.int .i64) (w0 := w) w.heap.size (by rfl) (.tmp 59) (.tmp 63) 44 2 (.int .i64 0) 8 rfl Tryd.underlying44 info2 rfl (by decide) (by omega) u148000 x148000_2 (wrap64 (Int.tdiv (rd l0_0 x54_2) (wrap64 (t146)))) [.int .i64 (wrap64 (Int.tdiv (rd l0_0 x54_2) (wrap64 (t146))))] (fun k_ => (w.heap.size ≤ k_)) (fun _ => False) rfl rfl ?aP (fun _ hk => hk.elim) ?aF ?aO ?aB ?aS ?aL ?_
              (case aP => exact rfl)
              (case aB => exact bH)
              (case aF => exact (fun k_ hk => (Nat.le_trans (below_size bH) hk)))
              (case aO => exact (uR HO_148000.out))
              (case aS => exact (below_size bH))
              (case aL => have := LMc62.out; omega)
              intro v150 w64 ho hb hg hat
              rw [← Ny149.out] at ho
              have n0_ := mk0 (Kd.V_afterv (ok := (fun k_ => (P0_0_ k_ ∨ w.heap.size ≤ k_) ∧ k_ ≠ gb144 ∧ k_ ≠ gb145 ∧ k_ ≠ gb147)) (uV (Kd.V_mono HO_52.out (fun _ hk => ⟨⟨hk.1, ⟨hk.2.2.1, ⟨hk.2.2.2.1, hk.2.2.2.2⟩⟩⟩, hk.2.1⟩))) hg hat)
              have n1_ := mk0 (Kd.V_afterv (ok := (fun k_ => (P0_0_ k_ ∨ w.heap.size ≤ k_) ∧ k_ ≠ gb144 ∧ k_ ≠ gb145 ∧ k_ ≠ gb147)) (uV (Kd.V_mono HO_145000.out (fun _ hk => ⟨⟨hk.1, ⟨hk.2.2.1, ⟨hk.2.2.2.1, hk.2.2.2.2⟩⟩⟩, hk.2.1⟩))) hg hat)
              have n2_ := mk0 (blk_grown (g := gb144) (o := .cells #[.slice (some ad148) l0_0.length c0_0, .int .i64 a0_1] 59 (0, 0)) (uB BK144.out) hg (Kd.R_ne HO_148000.out BK144.out (by decide)))
              have n3_ := mk0 (blk_grown (g := gb145) (o := .cells #[.slice none 0 0, .int .i64 0] 59 (0, 0)) (uB BK145.out) hg (Kd.R_ne HO_148000.out BK145.out (by decide)))
              have n4_ := mk0 (blk_grown (g := gb147) (o := .cells #[u148000, .int .i64 0] 59 (0, 0)) (uB BK147.out) hg (Kd.R_ne HO_148000.out BK147.out (by decide)))
              have n5_ := mk0 (hb)
              have n6_ := mk0 (ho)
              clear HO_52
              clear HO_145000
              clear BK144
              clear BK145
              clear BK147
              clear HB
              clear HO_148000
              have HO_52 := n0_
              have HO_145000 := n1_
              have BK144 := n2_
              have BK145 := n3_
              have BK147 := n4_
              have HB := n5_
              have HO151 := n6_
              clear n0_ n1_ n2_ n3_ n4_ n5_ n6_
              clear ho hb hg hat
              obtain ⟨Ao65, co65, eo65⟩ := Kd.R_slice HO151.out
              (first | subst eo65 | (injection eo65 with f1_ f2_ f3_; have f4_ := f1_.symm; have f5_ := f3_.symm; clear f1_ f2_ f3_; subst f4_; subst f5_))
              refine hK.out _ _ ⟨(blk_cell BK147.out 0).trans rfl, (blk_cell BK147.out 1).trans rfl⟩ (fun hHeld => ?_)
              clear hK K
              refine norm_ (a' := ?_) ?_ ?_
              rotate_left
              ·show Act.put _ (some 64) _ = _
               simp only [Act.put, List.setIfInBounds_toArray, List.set_cons_zero, List.set_cons_succ, i64_w, i32_w]
               rfl
              refine pA 7 (some 65) 127 9 255 HT_ ?_
              refine last_ (i := 8) (N := none) (bts 9 511) rfl rfl (one_of HT_.out (by kernel_rfl)) (by decide) (fun K hK => ?_)
              have hs66 : w64.cell? ⟨gb147, 0, none⟩ = some (u148000) := (blk_cell BK147.out 0).trans rfl
              have hfs66 := blk_frozen BK147.out 0
              have hns66_0 := NB144_147.out
              have hns66_1 := NB145_147.out
              have hms66_0 := NB147_144.out
              have hms66_1 := NB147_145.out
              refine skip_ (w1 := ?_) (by rfl) rfl ?_ ?_
              rotate_left
              ·go_simp
               rfl
              refine hK.out _ _ ?_
              clear hK K
              refine done_ (done_of HT_.out (by kernel_rfl)) ?_
              try go_wp2
              go_roundg k2
              case measure => have := HJ39.out; have := HK2.out; omega
              case rel => exact ⟨(wrap64 (x54_2 + 1)), (y149), (.slice Ao65 y149.length co65), (by first | rfl | (simp; done) | (simp [*]; done) | (simp [bne_nil_, beq_nil_]; done)), H', ⟨by have := HJ39.out; have := HK2.out; omega⟩, ⟨uV (Kd.V_mono (Kd.V_far (p := ⟨gb147, 0, none⟩) (Kd.V_mono HO_52.out (fun k_ hk => (⟨hk, hk.1.2.2.2⟩ : _ ∧ k_ ≠ gb147))) (fun _ hk => hk.2) (.slice Ao65 y149.length co65)) (fun _ hk => ⟨hk.1.1.1, ⟨hk.1.2, ⟨hk.1.1.2.1, ⟨hk.1.1.2.2.1, hk.1.1.2.2.2⟩⟩⟩⟩))⟩, ⟨uV (Kd.V_mono (Kd.V_far (p := ⟨gb147, 0, none⟩) (Kd.V_mono HO_145000.out (fun k_ hk => (⟨hk, hk.1.2.2.2⟩ : _ ∧ k_ ≠ gb147))) (fun _ hk => hk.2) (.slice Ao65 y149.length co65)) (fun _ hk => ⟨hk.1.1.1, ⟨hk.1.2, ⟨hk.1.1.2.1, ⟨hk.1.1.2.2.1, hk.1.1.2.2.2⟩⟩⟩⟩))⟩, ⟨uR (Kd.R_mono (Kd.R_far (p := ⟨gb147, 0, none⟩) (Kd.R_types HO151.out BK147.out (by decide)) (fun _ hk => hk.2) (.slice Ao65 y149.length co65)) (fun _ hk => hk.1))⟩, ⟨by (with_reducible repeat (first | refine blk_drewN ?_ _ | refine blk_drew ?_ | refine blk_alloc ?_ _)); refine blk_far ?_ NB144_147.out _; (with_reducible repeat (first | refine blk_drewN ?_ _ | refine blk_drew ?_ | refine blk_alloc ?_ _)); exact BK144.out⟩, ⟨by (with_reducible repeat (first | refine blk_drewN ?_ _ | refine blk_drew ?_ | refine blk_alloc ?_ _)); refine blk_far ?_ NB145_147.out _; (with_reducible repeat (first | refine blk_drewN ?_ _ | refine blk_drew ?_ | refine blk_alloc ?_ _)); exact BK145.out⟩, ⟨by (with_reducible repeat (first | refine blk_drewN ?_ _ | refine blk_drew ?_ | refine blk_alloc ?_ _)); refine blk_put (cs := #[u148000, .int .i64 0]) ?_ 0 _ rfl; (with_reducible repeat (first | refine blk_drewN ?_ _ | refine blk_drew ?_ | refine blk_alloc ?_ _)); exact BK147.out⟩, ⟨bH⟩⟩
             ·rw [if_neg c62] at H
              exact absurd H (by simp)
           ·rw [if_neg c60] at H
            exact absurd H (by simp)
          ·rw [if_neg c59] at H
           exact absurd H (by simp)
         ·rw [if_neg c58] at H
          have c58b0 : decide (x54_2 < (l0_0.length : Int)) = false := decide_eq_false c58
          clear c58
          replace H := Option.bind_eq_some_iff.mp H
          obtain ⟨⟨t152, t153⟩, A670, H⟩ := H
          dsimp only at H
          have A67 := mk0 A670
          clear A670
          simp only [Option.some.injEq, Prod.mk.injEq] at H
          obtain ⟨rfl, rfl, rfl, rfl⟩ := H
          have hnb68 := NB144_145.out
          have hnc68 := NB145_144.out
          have hnb69 := NB144_147.out
          have hnc69 := NB147_144.out
          obtain ⟨hcz70_0, hcz70_1, hfz70_0, hfz70_1⟩ := cL2 BK144
          go_wp2_with (first | ((with_reducible refine gate_dst (N := 71) rfl ?_); refine gsM (some 71) Tryd.func60 #[.int .i64 a0_1, .int .i64 (wrap64 (t146))] ?_; (with_reducible refine (num_Floor.calls k2 a0_1 (wrap64 (t146)) t152 t153 _ A67.out).mono ?_); rintro e w' ⟨rfl, ⟨nd, rfl⟩⟩; refine ⟨_, rfl, ?_⟩; (try (rw [drewN_self wr]; generalize hq_ : World.drewN wr _ = wr; have n0_ : Aside0 (Kd.V (Kd.int .i64) 2 wr w.heap.size (fun k_ => (P0_0_ k_ ∨ w.heap.size ≤ k_) ∧ some k_ ≠ (u148000 : Value).ownBlock ∧ k_ ≠ gb144 ∧ k_ ≠ gb145 ∧ k_ ≠ gb147) (.slice A0_0 l0_0.length c0_0) l0_0) := ⟨by rw [← hq_]; exact (uV HO_145000.out)⟩; have n1_ : Aside0 (Kd.R (Kd.int .i64) 2 wr w.heap.size (fun k_ => (w.heap.size ≤ k_)) u148000 x148000_2) := ⟨by rw [← hq_]; exact (uR HO_148000.out)⟩; have n2_ : Aside0 (Kd.V (Kd.int .i64) 2 wr w.heap.size (fun k_ => (P0_0_ k_ ∨ w.heap.size ≤ k_) ∧ some k_ ≠ (u148000 : Value).ownBlock ∧ k_ ≠ gb144 ∧ k_ ≠ gb145 ∧ k_ ≠ gb147) (.slice A0_0 l0_0.length c0_0) l0_0) := ⟨by rw [← hq_]; exact (uV HO_52.out)⟩; have n3_ : Aside0 (wr.heap[gb144]? = some (.cells #[.slice A0_0 l0_0.length c0_0, .int .i64 a0_1] 59 (0, 0))) := ⟨by rw [← hq_]; exact (uB BK144.out)⟩; have n4_ : Aside0 (wr.heap[gb145]? = some (.cells #[.slice none 0 0, .int .i64 0] 59 (0, 0))) := ⟨by rw [← hq_]; exact (uB BK145.out)⟩; have n5_ : Aside0 (wr.heap[gb147]? = some (.cells #[u148000, .int .i64 0] 59 (0, 0))) := ⟨by rw [← hq_]; exact (uB BK147.out)⟩; have n6_ : Aside0 (Below w.heap.size w wr) := ⟨by rw [← hq_]; exact bH⟩; clear HO_145000 HO_148000 HO_52 BK144 BK145 BK147 HB hq_; have HO_145000 := n0_; have HO_148000 := n1_; have HO_52 := n2_; have BK144 := n3_; have BK145 := n4_; have BK147 := n5_; have HB := n6_; clear n0_ n1_ n2_ n3_ n4_ n5_ n6_)); have hnb71 := NB147_145.out; have hnc71 := NB145_147.out; obtain ⟨hcz72_0, hcz72_1, hfz72_0, hfz72_1⟩ := cL2 BK147; obtain ⟨Ao73, co73, eo73⟩ := Kd.R_slice HO_148000.out; subst eo73; obtain ⟨hcz74_0, hcz74_1, hfz74_0, hfz74_1⟩ := cL2 BK145))
          refine bodyPost_ret (results_ctt rfl _ _ gb145 59 #[.slice Ao73 x148000_2.length co73, .int .i64 t152] (0, 0) _ rfl (by (with_reducible repeat (first | refine blk_drewN ?_ _ | refine blk_drew ?_ | refine blk_alloc ?_ _)); refine blk_put (cs := #[.slice Ao73 x148000_2.length co73, .int .i64 0]) ?_ 1 _ rfl; (with_reducible repeat (first | refine blk_drewN ?_ _ | refine blk_drew ?_ | refine blk_alloc ?_ _)); refine blk_put (cs := #[.slice none 0 0, .int .i64 0]) ?_ 0 _ rfl; (with_reducible repeat (first | refine blk_drewN ?_ _ | refine blk_drew ?_ | refine blk_alloc ?_ _)); refine blk_far ?_ NB145_147.out _; (with_reducible repeat (first | refine blk_drewN ?_ _ | refine blk_drew ?_ | refine blk_alloc ?_ _)); exact BK145.out) Tryd.underlying59 rfl (by kernel_rfl)) rfl ?_
          exact ⟨_, rE, Kd.V_mono (Kd.R_V (uR (Kd.R_mono (Kd.R_far (p := ⟨gb145, 1, none⟩) (Kd.R_far (p := ⟨gb145, 0, none⟩) (Kd.R_far (p := ⟨gb147, 1, none⟩) (Kd.R_types (Kd.R_types HO_148000.out BK147.out (by decide)) BK145.out (by decide)) (fun _ hk => hk.1.2) (.int .i64 t152)) (fun _ hk => hk.2) (.slice Ao73 x148000_2.length co73)) (fun _ hk => hk.2) (.int .i64 t152)) (fun _ hk => hk.1.1)))) (fun k_ hk => by first | exact ⟨(.inr (hk.1)), hk.2⟩ | exact (.inr (hk))), bH⟩

end Go.Proofs.YtkkpgjkjkcmcbaaDoor.X
