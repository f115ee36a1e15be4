-- PRINTED by print.py (a twelfth state) out of the translation. Not trusted: Lean checks it.
import Derived.Test.YtkkpgjkjkcmcbaaDoorXx0
import Derived.Test.YtkkpgjkjkcmcbaaDoorXx2
import Derived.Test.YtkkpgjkjkcmcbaaDoorHandF
import Derived.Test.YtkkpgjkjkcmcbaaDoorHandI2
namespace Go.Proofs.YtkkpgjkjkcmcbaaDoor.X
open Go.Proofs.YtkkpgjkjkcmcbaaDoor.Flt Go.Proofs.YtkkpgjkjkcmcbaaDoor.H Go.RowKit Go.Proofs.YtkkpgjkjkcmcbaaDoorW.PrintWords Go.Proofs.YtkkpgjkjkcmcbaaDoorW.PrintLast Go.Proofs.YtkkpgjkjkcmcbaaDoorW.PrintMore
attribute [local go_sem] max2_int min2_int max_two min_two max_three min_three max_four min_four   -- for this text's walks alone
set_option linter.unusedVariables false
set_option linter.unusedSimpArgs false

/-! ### sys_Check: function 11 -/
mutual
def sys_Check.j0 : Nat → Bool → Int → List (S59) → List (S59) → Option ((List (Flt)))
 | 0, _, _, _, _ => none
 | k + 1, x12, x115000, x115001, x115002 => if x12 = true then ((sys_fault.f 0 1).bind fun t115 => (some t115)) else (if (wrap64 ((x115001.length : Int) + (x115002.length : Int))) > 64 then ((sys_fault.f 64 4).bind fun t118 => (some t118)) else ((lin_Form_28.f x115001).bind fun t121 => (if t121.length + x115002.length < 4398046511104 then ((some (t121 ++ x115002 : List (S59))).bind fun y124 => (sys_Check.l0 k y124 (y124.length : Int) 0 x115000 x115001 x115002)) else (none))))
def sys_Check.l0 : Nat → List (S59) → Int → Int → Int → List (S59) → List (S59) → Option ((List (Flt)))
 | 0, _, _, _, _, _, _ => none
 | k + 1, x28, x29, x30, x115000, x115001, x115002 => if x30 < x29 then (if 0 ≤ x30 then (if x30 < (x28.length : Int) then (if (((rd_T59 x28 x30).f0).length : Int) = x115000 then ((sys_large.f ((rd_T59 x28 x30).f1)).bind fun t129 => (if t129 = true then ((sys_fault.f x30 5).bind fun t130 => (some t130)) else ((slices_ContainsFunc_int64_int64.f k ((rd_T59 x28 x30).f0)).bind fun t133 => (if t133 = true then ((sys_fault.f x30 5).bind fun t134 => (some t134)) else (sys_Check.l0 k x28 x29 (wrap64 (x30 + 1)) x115000 x115001 x115002))))) else ((sys_fault.f x30 1).bind fun t137 => (some t137))) else (none)) else (none)) else (some ([] : List (Flt)))
end
def sys_Check.f (k : Nat) (a0_0 : Int) (l0_1 : List (S59)) (l0_2 : List (S59)) : Option ((List (Flt))) := if a0_0 < 0 then (sys_Check.j0 k true a0_0 l0_1 l0_2) else (sys_Check.j0 k (decide (a0_0 > 16)) a0_0 l0_1 l0_2)
theorem sys_Check.mono_l : ∀ k, (∀ y0 y1 y2 y3, LeO (sys_Check.j0 k y0 y1 y2 y3) (sys_Check.j0 (k + 1) y0 y1 y2 y3)) ∧ (∀ y0 y1 y2 y3 y4 y5, LeO (sys_Check.l0 k y0 y1 y2 y3 y4 y5) (sys_Check.l0 (k + 1) y0 y1 y2 y3 y4 y5))
 | 0 => ⟨fun _ _ _ _ r h => by simp [sys_Check.j0] at h, fun _ _ _ _ _ _ r h => by simp [sys_Check.l0] at h⟩
 | k + 1 => by
  obtain ⟨ih0, ih1⟩ := sys_Check.mono_l k
  refine ⟨?_, ?_⟩
  ·intro y0 y1 y2 y3
   unfold sys_Check.j0
   repeat' first
   | (with_reducible exact ih0 _ _ _ _)
   | (with_reducible exact ih1 _ _ _ _ _ _)
   | (with_reducible exact slices_ContainsFunc_int64_int64.mono _ _)
   | (with_reducible exact LeO.refl _)
   | (with_reducible exact LeO.none _)
   | (with_reducible refine LeO.ite ?_ ?_)
   | (with_reducible refine LeO.bind ?_ (fun _ => ?_))
   | exact ih0 _ _ _ _
   | exact ih1 _ _ _ _ _ _
   | exact slices_ContainsFunc_int64_int64.mono _ _
   | exact LeO.none _
   | refine LeO.ite ?_ ?_
   | refine LeO.bind ?_ (fun _ => ?_)
  ·intro y0 y1 y2 y3 y4 y5
   unfold sys_Check.l0
   repeat' first
   | (with_reducible exact ih0 _ _ _ _)
   | (with_reducible exact ih1 _ _ _ _ _ _)
   | (with_reducible exact slices_ContainsFunc_int64_int64.mono _ _)
   | (with_reducible exact LeO.refl _)
   | (with_reducible exact LeO.none _)
   | (with_reducible refine LeO.ite ?_ ?_)
   | (with_reducible refine LeO.bind ?_ (fun _ => ?_))
   | exact ih0 _ _ _ _
   | exact ih1 _ _ _ _ _ _
   | exact slices_ContainsFunc_int64_int64.mono _ _
   | exact LeO.none _
   | refine LeO.ite ?_ ?_
   | refine LeO.bind ?_ (fun _ => ?_)
theorem sys_Check.mono : ∀ a0 a1 a2 k, LeO (sys_Check.f k a0 a1 a2) (sys_Check.f (k + 1) a0 a1 a2) := by
 intro a0 a1 a2 k
 obtain ⟨ih0, ih1⟩ := sys_Check.mono_l k
 unfold sys_Check.f
 repeat' first
   | (with_reducible exact ih0 _ _ _ _)
   | (with_reducible exact ih1 _ _ _ _ _ _)
   | (with_reducible exact slices_ContainsFunc_int64_int64.mono _ _)
   | (with_reducible exact LeO.refl _)
   | (with_reducible exact LeO.none _)
   | (with_reducible refine LeO.ite ?_ ?_)
   | (with_reducible refine LeO.bind ?_ (fun _ => ?_))
   | exact ih0 _ _ _ _
   | exact ih1 _ _ _ _ _ _
   | exact slices_ContainsFunc_int64_int64.mono _ _
   | exact LeO.none _
   | refine LeO.ite ?_ ?_
   | refine LeO.bind ?_ (fun _ => ?_)
def sys_Check.T5 : Bool × List (List Nat × List Nat) := (true, [([], []), ([0], [0]), ([1], [1]), ([], []), ([3], [3]), ([2, 4, 2], [2, 4]), ([5], [5]), ([], [])])
def sys_Check.B5 : List Nat := [0, 1, 3, 0, 8, 31, 63, 0]
theorem sys_Check.tab5 : rtab .any (opsOf Tryd.f11 5) = sys_Check.T5 := by kernel_rfl
theorem sys_Check.bits5 : waitsOk sys_Check.T5.2 sys_Check.B5 = true := by kernel_rfl
set_option maxHeartbeats 8000000 in
set_option maxRecDepth 100000 in
theorem sys_Check.calls (k : Nat) (a0_0 : Int) (P0_1_ : Nat → Prop) (A0_1 : Option Addr) (c0_1 : Nat) (l0_1 : List (S59)) (P0_2_ : Nat → Prop) (A0_2 : Option Addr) (c0_2 : Nat) (l0_2 : List (S59)) (r : List (Flt)) (w : World) (hs0_1 : Kd.V k59 59 w w.heap.size (fun k_ => P0_1_ k_) (.slice A0_1 l0_1.length c0_1) l0_1) (hs0_2 : Kd.V k59 59 w w.heap.size (fun k_ => P0_2_ k_) (.slice A0_2 l0_2.length c0_2) l0_2) (h : sys_Check.f k a0_0 l0_1 l0_2 = some r) :
  Calls Tryd.prog 11 #[.agg #[.int .i64 a0_0, .slice A0_1 l0_1.length c0_1, .slice A0_2 l0_2.length c0_2]] w fun e w' => ∃ v0_ : Value, e = .returned (errV v0_) ∧ Kd.R fltK 74 w' w.heap.size (fun k_ => (w.heap.size ≤ k_)) v0_ r ∧ Below w.heap.size w w' := by
 have hu24 := Tryd.underlying24
 have hu59 := Tryd.underlying59
 have HO0_1 := mk0 (show Kd.V k59 59 w w.heap.size (fun k_ => ((P0_1_ k_ ∨ P0_2_ k_) ∨ w.heap.size ≤ k_)) (.slice A0_1 l0_1.length c0_1) l0_1 from Kd.V_mono hs0_1 (fun k_ hk => .inl (.inl hk)))
 have HO0_2 := mk0 (show Kd.V k59 59 w w.heap.size (fun k_ => ((P0_1_ k_ ∨ P0_2_ k_) ∨ w.heap.size ≤ k_)) (.slice A0_2 l0_2.length c0_2) l0_2 from Kd.V_mono hs0_2 (fun k_ hk => .inl (.inr hk)))
 have HB := mk0 (Below.refl w.heap.size w)
 have H : (if a0_0 < 0 then (sys_Check.j0 k true a0_0 l0_1 l0_2) else (sys_Check.j0 k (decide (a0_0 > 16)) a0_0 l0_1 l0_2)) = some r := h
 clear h
 have HC2 := mk0 H
 clear H
 go_enter Tryd.func11, Tryd.ntmps11
 go_upto_region 1 with (first | ((with_reducible refine gate_dst (N := 1) rfl ?_); refine bxE 1 #[.int .i64 a0_0, .slice A0_1 l0_1.length c0_1, .slice A0_2 l0_2.length c0_2] 24 ?_; intro gb114 hg w3 hbox hb; replace HO0_1 := mk0 (Kd.V_below (Kd.V_elderB (uV HO0_1.out) gb114 (Nat.le_of_eq hg.symm)) hb); replace HO0_2 := mk0 (Kd.V_below (Kd.V_elderB (uV HO0_2.out) gb114 (Nat.le_of_eq hg.symm)) hb); have BK114 := mk0 (hbox); have GW114 := mk0 ((by rw [hg]; exact (below_size (uL HB.out)) : w.heap.size ≤ gb114)); have GE114 := mk0 ((by rw [hg]; exact (below_size (uL HB.out)) : w.heap.size ≤ gb114)); replace HB := hbB (uL HB.out) hb; clear hb hbox hg))
 (try simp only [Act.put, List.setIfInBounds_toArray, List.set_cons_zero, List.set_cons_succ])
 go_cut [12] (fun v12 wc => ∃ (kq : Nat) (x12_1 : Bool), v12 = .bool x12_1 ∧ Aside0 (sys_Check.j0 kq x12_1 a0_0 l0_1 l0_2 = some r) ∧ Aside0 (kq ≤ k) ∧ Aside0 (Kd.V k59 59 wc w.heap.size (fun k_ => ((P0_1_ k_ ∨ P0_2_ k_) ∨ w.heap.size ≤ k_) ∧ k_ ≠ gb114) (.slice A0_1 l0_1.length c0_1) l0_1) ∧ Aside0 (Kd.V k59 59 wc w.heap.size (fun k_ => ((P0_1_ k_ ∨ P0_2_ k_) ∨ w.heap.size ≤ k_) ∧ k_ ≠ gb114) (.slice A0_2 l0_2.length c0_2) l0_2) ∧ Aside0 (wc.heap[gb114]? = some (.cells #[.int .i64 a0_0, (.slice A0_1 l0_1.length c0_1), (.slice A0_2 l0_2.length c0_2)] 24 (0, 0))) ∧ Aside0 (Below w.heap.size w wc))
 case first =>
  have H := HC2.out
  clear HC2
  by_cases c4 : a0_0 < 0
  ·rw [if_pos c4] at H
   have c4b0 : decide (a0_0 < 0) = true := decide_eq_true c4
   clear c4
   (first | rw [c4b0] | (simp only [i64_w, i32_w]; rw [c4b0]) | skip)
   have H' := mk0 H
   clear H
   obtain ⟨hcz5_0, hcz5_1, hcz5_2, hfz5_0, hfz5_1, hfz5_2⟩ := cL3 BK114
   go_wp2
   go_meet
   case rel => exact ⟨_, (true), (by first | rfl | (simp; done) | (simp [*]; done) | (simp [bne_nil_, beq_nil_]; done)), H', ⟨by first | omega | exact Nat.le_refl _⟩, ⟨uV HO0_1.out⟩, ⟨uV HO0_2.out⟩, ⟨uB BK114.out⟩, ⟨bH⟩⟩
  ·rw [if_neg c4] at H
   have c4b0 : decide (a0_0 < 0) = false := decide_eq_false c4
   clear c4
   (first | rw [c4b0] | (simp only [i64_w, i32_w]; rw [c4b0]) | skip)
   have H' := mk0 H
   clear H
   obtain ⟨hcz6_0, hcz6_1, hcz6_2, hfz6_0, hfz6_1, hfz6_2⟩ := cL3 BK114
   go_wp2
   go_meet
   case rel => exact ⟨_, (decide (a0_0 > 16)), (by first | rfl | (simp; done) | (simp [*]; done) | (simp [bne_nil_, beq_nil_]; done)), H', ⟨by first | omega | exact Nat.le_refl _⟩, ⟨uV HO0_1.out⟩, ⟨uV HO0_2.out⟩, ⟨uB BK114.out⟩, ⟨bH⟩⟩
 case rest =>
  clear HC2
  try clear c1
  try clear p2
  try clear c4
  try clear c4b0
  try clear hcz5_0
  try clear hcz5_1
  try clear hcz5_2
  try clear hcz6_0
  try clear hcz6_1
  try clear hcz6_2
  try clear hfz5_0
  try clear hfz5_1
  try clear hfz5_2
  try clear hfz6_0
  try clear hfz6_1
  try clear hfz6_2
  obtain ⟨kq, x12_1, rfl, HA, HJ1, HO_115001, HO_115002, BK114, HB⟩ := hcut
  cases kq with
  | zero => exact absurd HA.out (by simp [sys_Check.j0])
  | succ kj1 =>
   have H := HA.out
   clear HA
   simp only [sys_Check.j0] at H
   by_cases c7 : x12_1 = true
   ·subst c7
    have H1 : ((sys_fault.f 0 1).bind fun t115 => (some t115)) = some r := by rw [if_pos rfl] at H; exact H
    clear H
    have H := H1
    clear H1
    replace H := Option.bind_eq_some_iff.mp H
    obtain ⟨t115, A80, H⟩ := H
    have A8 := mk0 A80
    clear A80
    obtain rfl := Option.some.inj H
    go_wp2_with (first | ((with_reducible refine gate_dst (N := 13) rfl ?_); refine gsM (some 13) Tryd.func27 #[.int .i64 0, .int .i64 1] ?_; (with_reducible refine (sys_fault.calls 0 1 t115 _ A8.out).mono ?_); rintro e w9 ⟨v116, rfl, ho0, hb⟩; refine ⟨_, rfl, ?_⟩; replace HO_115001 := mk0 (Kd.V_elder' (uV HO_115001.out) (Kd.R_base ho0) hb); replace HO_115002 := mk0 (Kd.V_elder' (uV HO_115002.out) (Kd.R_base ho0) hb); have HO117 := mk0 (Kd.R_lower (Kd.R_newM (M := fun k_ => (w.heap.size ≤ k_)) ho0 (below_size bH) (fun k_ h_ => h_)) (below_size bH)); replace BK114 := bB BK114 hb; replace HB := hbB bH hb; (try clear hb); (try clear hb2); (try clear hk); (try clear hi); (try clear ho0); (first | (have EHO117 := cmpV_no HO117.out (by with_reducible assumption)) | (have EHO117 := cmpV_yes HO117.out (by with_reducible assumption)) | skip)))
    go_ret
    exact ⟨(v116), rE, uR (Kd.R_mono HO117.out (fun _ hk => hk.1)), bH⟩
   ·replace c7 := Bool.eq_false_iff.mpr c7
    subst c7
    have H1 : (if (wrap64 ((l0_1.length : Int) + (l0_2.length : Int))) > 64 then ((sys_fault.f 64 4).bind fun t118 => (some t118)) else ((lin_Form_28.f l0_1).bind fun t121 => (if t121.length + l0_2.length < 4398046511104 then ((some (t121 ++ l0_2 : List (S59))).bind fun y124 => (sys_Check.l0 kj1 y124 (y124.length : Int) 0 a0_0 l0_1 l0_2)) else (none)))) = some r := by rw [if_neg (show ¬ (false = true) by decide)] at H; exact H
    clear H
    have H := H1
    clear H1
    by_cases c10 : (wrap64 ((l0_1.length : Int) + (l0_2.length : Int))) > 64
    ·rw [if_pos c10] at H
     have c10b0 : decide (64 < (wrap64 ((l0_1.length : Int) + (l0_2.length : Int)))) = true := decide_eq_true c10
     clear c10
     replace H := Option.bind_eq_some_iff.mp H
     obtain ⟨t118, A110, H⟩ := H
     have A11 := mk0 A110
     clear A110
     obtain rfl := Option.some.inj H
     obtain ⟨hcz12_0, hcz12_1, hcz12_2, hfz12_0, hfz12_1, hfz12_2⟩ := cL3 BK114
     go_wp2_with (first | ((with_reducible refine gate_dst (N := 22) rfl ?_); refine gsM (some 22) Tryd.func27 #[.int .i64 64, .int .i64 4] ?_; (with_reducible refine (sys_fault.calls 64 4 t118 _ A11.out).mono ?_); rintro e w13 ⟨v119, rfl, ho0, hb⟩; refine ⟨_, rfl, ?_⟩; replace HO_115001 := mk0 (Kd.V_elder' (uV HO_115001.out) (Kd.R_base ho0) hb); replace HO_115002 := mk0 (Kd.V_elder' (uV HO_115002.out) (Kd.R_base ho0) hb); have HO120 := mk0 (Kd.R_lower (Kd.R_newM (M := fun k_ => (w.heap.size ≤ k_)) ho0 (below_size bH) (fun k_ h_ => h_)) (below_size bH)); replace BK114 := bB BK114 hb; replace HB := hbB bH hb; (try clear hb); (try clear hb2); (try clear hk); (try clear hi); (try clear ho0); (first | (have EHO120 := cmpV_no HO120.out (by with_reducible assumption)) | (have EHO120 := cmpV_yes HO120.out (by with_reducible assumption)) | skip)))
     go_ret
     exact ⟨(v119), rE, uR (Kd.R_mono HO120.out (fun _ hk => hk.1)), bH⟩
    ·rw [if_neg c10] at H
     have c10b0 : decide (64 < (wrap64 ((l0_1.length : Int) + (l0_2.length : Int)))) = false := decide_eq_false c10
     clear c10
     replace H := Option.bind_eq_some_iff.mp H
     obtain ⟨t121, A140, H⟩ := H
     have A14 := mk0 A140
     clear A140
     by_cases c15 : t121.length + l0_2.length < 4398046511104
     ·rw [if_pos c15] at H
      have LMc15 := mk0 c15
      clear c15
      obtain ⟨y124, hy124⟩ : ∃ y_ : List (S59), y_ = (t121 ++ l0_2) := ⟨_, rfl⟩
      replace H : (sys_Check.l0 kj1 y124 (y124.length : Int) 0 a0_0 l0_1 l0_2) = some r := by first | (rw [hy124]; with_reducible exact H) | (have H2_ := (Option.bind_some _ _).symm.trans H; rw [hy124]; with_reducible exact H2_) | (have H2_ := (Option.bind_some _ _).symm.trans H; with_reducible exact H2_) | with_reducible exact H | (rw [hy124]; exact H) | exact H
      have Ny124 := mk0 hy124
      clear hy124
      have H' := mk0 H
      clear H
      obtain ⟨hcz16_0, hcz16_1, hcz16_2, hfz16_0, hfz16_1, hfz16_2⟩ := cL3 BK114
      try go_wp2
      replace HO_115001 := mk0 (Kd.V_drew HO_115001.out)
      replace HO_115002 := mk0 (Kd.V_drew HO_115002.out)
      replace BK114 := mk0 (blk_drew BK114.out)
      replace HB := mk0 (below_drew1 HB.out)
      refine start_ (n := 8) (S := fun w' => w'.cell? ⟨gb114, 0, none⟩ = some (.int .i64 a0_0) ∧ w'.cell? ⟨gb114, 1, none⟩ = some (.slice A0_1 l0_1.length c0_1) ∧ w'.cell? ⟨gb114, 2, none⟩ = some (.slice A0_2 l0_2.length c0_2)) (ds := []) (bts 8 0) (by kernel_rfl) rfl rfl ⟨(blk_cell BK114.out 0).trans rfl, (blk_cell BK114.out 1).trans rfl, (blk_cell BK114.out 2).trans rfl⟩ (fun hHeld => ?_); refine with_tabW sys_Check.tab5 sys_Check.bits5 (fun HT_ HW_ => ?_)
      generalize wc.drew = w17 at HO_115001 HO_115002 BK114 HB hHeld ⊢
      refine pA 0 (some 23) 0 8 1 HT_ ?_
      refine pA 3 (some 26) 1 8 9 HT_ ?_
      refine pA 7 (some 30) 9 8 137 HT_ ?_
      refine tA3 1 (some 24) 137 8 139 HT_ HW_ hHeld ?_
      refine tA3 4 (some 27) 139 8 155 HT_ HW_ hHeld ?_
      refine one_ (i := 2) (N := some 25) (bts 8 159) rfl rfl (one_of HT_.out (by kernel_rfl)) (by decide) (fun K hK => ?_)
      refine goes_ Tryd.func28 (by kernel_rfl) rfl #[.slice A0_1 l0_1.length c0_1] (by rfl) rfl rfl (by (try simp only [List.map_toArray, List.map_cons, List.map_nil]); first | done | rfl | (simp only [List.length_drop, List.length_take]; rfl)) ?_
      with_reducible refine (lin_Form_28.calls (fun k_ => (((P0_1_ k_ ∨ P0_2_ k_) ∨ w.heap.size ≤ k_) ∧ k_ ≠ gb114)) _ _ l0_1 t121 _ ?side1 A14.out).mono ?_
      (case side1 => exact HO_115001.out)
      rintro e w18 ⟨v122, rfl, ho0, hb⟩
      refine ⟨_, rfl, ?_⟩
      replace HO_115001 := mk0 (Kd.V_elder' (uV HO_115001.out) (Kd.N_base ho0) hb)
      replace HO_115002 := mk0 (Kd.V_elder' (uV HO_115002.out) (Kd.N_base ho0) hb)
      have HO123 := mk0 (Kd.N_lower (Kd.N_mono (ok' := fun k_ => ((P0_1_ k_ ∨ P0_2_ k_) ∨ w.heap.size ≤ k_) ∧ k_ ≠ gb114) ho0 (fun k_ hk_ => ⟨Or.elim hk_ (fun hs_ => hs_.1) (fun hn_ => (.inr (Nat.le_trans (below_size bH) hn_))), Or.elim hk_ (fun hs_ => hs_.2) (fun hn_ => (Kd.freshB (g := gb114) (o := .cells #[.int .i64 a0_0, .slice A0_1 l0_1.length c0_1, .slice A0_2 l0_2.length c0_2] 24 (0, 0)) (uB BK114.out) k_ hn_))⟩)) (below_size bH))
      replace BK114 := bB BK114 hb
      replace HB := hbB bH hb
      (try clear hb)
      (try clear hb2)
      (try clear hk)
      (try clear hi)
      (try clear ho0)
      refine hK.out _ _ ⟨(blk_cell BK114.out 0).trans rfl, (blk_cell BK114.out 1).trans rfl, (blk_cell BK114.out 2).trans rfl⟩ (fun hHeld => ?_)
      clear hK K
      refine norm_ (a' := ?_) ?_ ?_
      rotate_left
      ·show Act.put _ (some 25) _ = _
       simp only [Act.put, List.setIfInBounds_toArray, List.set_cons_zero, List.set_cons_succ, i64_w, i32_w]
       rfl
      refine one_ (i := 5) (N := some 28) (bts 8 191) rfl rfl (one_of HT_.out (by kernel_rfl)) (by decide) (fun K hK => ?_)
      refine Kd.N_append_rows_step k59 (w0 := w) w.heap.size (by rfl) (.tmp 25) (.tmp 27) 22 59 (.agg #[(.slice none 0 0), (.int .i64 0)]) 32 rfl Tryd.underlying22 info59 rfl (by decide) (by omega) v122 t121 l0_2 _ _ _ (fun k_ => ((P0_1_ k_ ∨ P0_2_ k_) ∨ w.heap.size ≤ k_) ∧ k_ ≠ gb114) (fun k_ => ((fun k_ => ((P0_1_ k_ ∨ P0_2_ k_) ∨ w.heap.size ≤ k_) ∧ k_ ≠ gb114)) k_ ∧ some k_ ≠ (v122 : Value).ownBlock) rfl rfl ?aO ?aR (fun _ hk => hk) ?aF ?aB ?aS ?aL ?_
      (case aR => exact (by skip; exact Kd.V_F (Kd.V_mono (ok' := (fun k_ => ((fun k_ => ((P0_1_ k_ ∨ P0_2_ k_) ∨ w.heap.size ≤ k_) ∧ k_ ≠ gb114)) k_ ∧ some k_ ≠ (v122 : Value).ownBlock)) (HO_115002.out) (fun k_ hk => ⟨⟨hk.1.1, hk.1.2⟩, hk.2⟩))))
      (case aB => exact bH)
      (case aF => exact (fun k_ hk => ⟨(.inr (Nat.le_trans (below_size bH) hk)), Kd.freshB (g := gb114) (o := .cells #[.int .i64 a0_0, .slice A0_1 l0_1.length c0_1, .slice A0_2 l0_2.length c0_2] 24 (0, 0)) (uB BK114.out) k_ hk⟩))
      (case aO => exact (uN HO123.out))
      (case aS => exact (below_size bH))
      (case aL => have := LMc15.out; omega)
      intro v125 w19 ho hb hg hat
      rw [← Ny124.out] at ho
      have n0_ := mk0 (Kd.V_afterv (ok := (fun k_ => ((P0_1_ k_ ∨ P0_2_ k_) ∨ w.heap.size ≤ k_) ∧ k_ ≠ gb114)) (uV HO_115001.out) hg hat)
      have n1_ := mk0 (Kd.V_afterv (ok := (fun k_ => ((P0_1_ k_ ∨ P0_2_ k_) ∨ w.heap.size ≤ k_) ∧ k_ ≠ gb114)) (uV HO_115002.out) hg hat)
      have n2_ := mk0 (blk_grown (g := gb114) (o := .cells #[.int .i64 a0_0, .slice A0_1 l0_1.length c0_1, .slice A0_2 l0_2.length c0_2] 24 (0, 0)) (uB BK114.out) hg (Kd.N_ne HO123.out BK114.out (by decide)))
      have n3_ := mk0 (hb)
      have n4_ := mk0 (ho)
      clear HO_115001
      clear HO_115002
      clear BK114
      clear HB
      clear HO123
      have HO_115001 := n0_
      have HO_115002 := n1_
      have BK114 := n2_
      have HB := n3_
      have HO126 := n4_
      clear n0_ n1_ n2_ n3_ n4_
      clear ho hb hg hat
      obtain ⟨Ao20, co20, eo20⟩ := Kd.N_slice HO126.out
      (first | subst eo20 | (injection eo20 with f1_ f2_ f3_; have f4_ := f1_.symm; have f5_ := f3_.symm; clear f1_ f2_ f3_; subst f4_; subst f5_))
      refine hK.out _ _ ⟨(blk_cell BK114.out 0).trans rfl, (blk_cell BK114.out 1).trans rfl, (blk_cell BK114.out 2).trans rfl⟩ (fun hHeld => ?_)
      clear hK K
      refine norm_ (a' := ?_) ?_ ?_
      rotate_left
      ·show Act.put _ (some 28) _ = _
       simp only [Act.put, List.setIfInBounds_toArray, List.set_cons_zero, List.set_cons_succ, i64_w, i32_w]
       rfl
      refine pA 6 (some 29) 191 8 255 HT_ ?_
      refine done_ (done_of HT_.out (by kernel_rfl)) ?_
      try go_wp2
      go_loopg [30] kj1 (fun kq v30 w' => ∃ (x30_2 : Int), v30 = .int .i64 x30_2 ∧ Aside0 (sys_Check.l0 kq y124 (y124.length : Int) x30_2 a0_0 l0_1 l0_2 = some r) ∧ Aside0 (kq ≤ kj1) ∧ Aside0 (Kd.N k59 59 w' w.heap.size (fun k_ => ((P0_1_ k_ ∨ P0_2_ k_) ∨ w.heap.size ≤ k_) ∧ k_ ≠ gb114) (.slice Ao20 y124.length co20) y124) ∧ Aside0 (Kd.V k59 59 w' w.heap.size (fun k_ => ((P0_1_ k_ ∨ P0_2_ k_) ∨ w.heap.size ≤ k_) ∧ some k_ ≠ ((.slice Ao20 y124.length co20) : Value).ownBlock ∧ k_ ≠ gb114) (.slice A0_1 l0_1.length c0_1) l0_1) ∧ Aside0 (Kd.V k59 59 w' w.heap.size (fun k_ => ((P0_1_ k_ ∨ P0_2_ k_) ∨ w.heap.size ≤ k_) ∧ some k_ ≠ ((.slice Ao20 y124.length co20) : Value).ownBlock ∧ k_ ≠ gb114) (.slice A0_2 l0_2.length c0_2) l0_2) ∧ Aside0 (w'.heap[gb114]? = some (.cells #[.int .i64 a0_0, (.slice A0_1 l0_1.length c0_1), (.slice A0_2 l0_2.length c0_2)] 24 (0, 0))) ∧ Aside0 (Below w.heap.size w w'))
      case atStart => exact ⟨(0), (by first | rfl | (simp; done) | (simp [*]; done) | (simp [bne_nil_, beq_nil_]; done)), H', ⟨Nat.le_refl _⟩, ⟨uN HO126.out⟩, ⟨uV (Kd.V_mono HO_115001.out (fun _ hk => ⟨hk.1.1, ⟨hk.2, hk.1.2⟩⟩))⟩, ⟨uV (Kd.V_mono HO_115002.out (fun _ hk => ⟨hk.1.1, ⟨hk.2, hk.1.2⟩⟩))⟩, ⟨uB BK114.out⟩, ⟨bH⟩⟩
      case round =>
       clear H'
       try clear c1
       try clear c2
       try clear p2
       try clear c4
       try clear c4b0
       try clear p6
       try clear c7
       try clear c10
       try clear c10b0
       try clear c11
       try clear c15
       try clear hcz12_0
       try clear hcz12_1
       try clear hcz12_2
       try clear hcz16_0
       try clear hcz16_1
       try clear hcz16_2
       try clear hcz5_0
       try clear hcz5_1
       try clear hcz5_2
       try clear hcz6_0
       try clear hcz6_1
       try clear hcz6_2
       try clear hfz12_0
       try clear hfz12_1
       try clear hfz12_2
       try clear hfz16_0
       try clear hfz16_1
       try clear hfz16_2
       try clear hfz5_0
       try clear hfz5_1
       try clear hfz5_2
       try clear hfz6_0
       try clear hfz6_1
       try clear hfz6_2
       try clear p2
       obtain ⟨x30_2, rfl, HA, HK2, HO_28, HO_115001, HO_115002, BK114, HB⟩ := hrel
       cases gk with
       | zero => exact absurd HA.out (by simp [sys_Check.l0])
       | succ k2 =>
        have H := HA.out
        clear HA
        simp only [sys_Check.l0] at H
        by_cases c21 : x30_2 < (y124.length : Int)
        ·rw [if_pos c21] at H
         have c21b0 : decide (x30_2 < (y124.length : Int)) = true := decide_eq_true c21
         clear c21
         by_cases c22 : 0 ≤ x30_2
         ·rw [if_pos c22] at H
          have c22b0 : decide (0 ≤ x30_2) = true := decide_eq_true c22
          clear c22
          by_cases c23 : x30_2 < (y124.length : Int)
          ·rw [if_pos c23] at H
           have c23b0 : decide (x30_2 < (y124.length : Int)) = true := decide_eq_true c23
           clear c23
           by_cases c24 : (((rd_T59 y124 x30_2).f0).length : Int) = a0_0
           ·rw [if_pos c24] at H
            have c24b0 : ((((rd_T59 y124 x30_2).f0).length : Int) == a0_0) = true := beq_iff_eq.mpr c24
            have c24b1 : ((((rd_T59 y124 x30_2).f0).length : Int) != a0_0) = false := bne_eq_false_iff_eq.mpr c24
            clear c24
            replace H := Option.bind_eq_some_iff.mp H
            obtain ⟨t129, A250, H⟩ := H
            have A25 := mk0 A250
            clear A250
            by_cases c26 : t129 = true
            ·subst c26
             have H1 : ((sys_fault.f x30_2 5).bind fun t130 => (some t130)) = some r := by rw [if_pos rfl] at H; exact H
             clear H
             have H := H1
             clear H1
             replace H := Option.bind_eq_some_iff.mp H
             obtain ⟨t130, A270, H⟩ := H
             have A27 := mk0 A270
             clear A270
             obtain rfl := Option.some.inj H
             have p127 : 0 ≤ (x30_2 : Int) := of_decide_eq_true (by first | (with_reducible assumption) | assumption)
             have q127 : x30_2 < (y124.length : Int) := of_decide_eq_true (by first | (with_reducible assumption) | assumption)
             obtain ⟨ad127, A127_0, c127_0, e127, hx127_0, hx127_1, hl127_0, hi127_0⟩ := at_T59 (Kd.N_reads' HO_28.out).2.2 x30_2 p127 q127
             cases e127
             obtain ⟨ce127, hce127, hMe127, hcc127⟩ := Kd.N_get HO_28.out z59 x30_2 p127 (by first | exact q127 | exact of_decide_eq_true (by first | (with_reducible assumption) | assumption) | (have e_ := (Kd.N_reads' HO_28.out).1; omega))
             obtain ⟨ua127_0, uc127_0, rfl, ul127_0, ge127_0⟩ := k59_openF hMe127
             have hv127_0 := hcc127 0 _ rfl
             rw [Nat.add_zero] at hv127_0
             replace hv127_0 := Option.some.inj (hv127_0.symm.trans hx127_0)
             injection hv127_0 with hva_ hvn_ hvc_
             rw [hva_] at ge127_0
             rw [hvc_] at ul127_0
             have HL127_0 := mk0 (show Kd.V (Kd.int .i64) 2 _ w.heap.size _ _ ((rd_T59 y124 x30_2).f0) from Kd.V_mk ul127_0 ge127_0)
             clear hva_ hvn_ hvc_ ge127_0 ul127_0
             clear hcc127 hce127
             have HR127_0 := mk0 hi127_0
             have HC127_0 := mk0 hl127_0
             clear hi127_0 hl127_0
             replace p127 := eq_true p127
             replace q127 := eq_true q127
             go_wp2_with (first | ((with_reducible refine gate_dst (N := 4) rfl ?_); refine bxE 4 #[.slice none 0 0, .int .i64 0] 59 ?_; intro gb128 hg w28 hbox hb; replace HO_28 := mk0 (Kd.N_below (Kd.N_elderB (uN HO_28.out) gb128 (Nat.le_of_eq hg.symm)) hb); replace HO_115001 := mk0 (Kd.V_below (Kd.V_elderB (uV HO_115001.out) gb128 (Nat.le_of_eq hg.symm)) hb); replace HO_115002 := mk0 (Kd.V_below (Kd.V_elderB (uV HO_115002.out) gb128 (Nat.le_of_eq hg.symm)) hb); replace HL127_0 := mk0 (Kd.V_below (Kd.V_elderB (uV HL127_0.out) gb128 (Nat.le_of_eq hg.symm)) hb); have BK128 := mk0 (hbox); have GW128 := mk0 ((by rw [hg]; exact (below_size bH) : w.heap.size ≤ gb128)); have GE128 := mk0 ((by rw [hg]; exact (below_size bH) : w.heap.size ≤ gb128)); replace HB := hbB bH hb; have NB114_128 := mk0 ((by rw [hg]; exact Nat.ne_of_lt (blk_lt (g := gb114) (o := .cells #[.int .i64 a0_0, .slice A0_1 l0_1.length c0_1, .slice A0_2 l0_2.length c0_2] 24 (0, 0)) (uB BK114.out)) : gb114 ≠ gb128)); have NB128_114 := mk0 ((by rw [hg]; exact Nat.ne_of_gt (blk_lt (g := gb114) (o := .cells #[.int .i64 a0_0, .slice A0_1 l0_1.length c0_1, .slice A0_2 l0_2.length c0_2] 24 (0, 0)) (uB BK114.out)) : gb128 ≠ gb114)); replace BK114 := bB BK114 hb; clear hb hbox hg; have hnb29 := NB128_114.out; have hnc29 := NB114_128.out; obtain ⟨hcz30_0, hcz30_1, hfz30_0, hfz30_1⟩ := cL2 BK128; obtain ⟨hcz31_0, hcz31_1, hcz31_2, hfz31_0, hfz31_1, hfz31_2⟩ := cL3 BK114) | ((with_reducible refine gate_dst (N := 47) rfl ?_); refine gsM (some 47) Tryd.func29 #[.int .i64 ((rd_T59 y124 x30_2).f1)] ?_; (with_reducible refine (sys_large.calls ((rd_T59 y124 x30_2).f1) true _ A25.out).mono ?_); rintro e w' ⟨rfl, ⟨nd, rfl⟩⟩; refine ⟨_, rfl, ?_⟩) | ((with_reducible refine gate_dst (N := 54) rfl ?_); refine gsM (some 54) Tryd.func27 #[.int .i64 x30_2, .int .i64 5] ?_; (with_reducible refine (sys_fault.calls x30_2 5 t130 _ A27.out).mono ?_); rintro e w32 ⟨v131, rfl, ho0, hb⟩; refine ⟨_, rfl, ?_⟩; replace HO_28 := mk0 (Kd.N_elder' (uN (Kd.N_mono (Kd.N_far (p := ⟨gb128, 1, none⟩) (Kd.N_far (p := ⟨gb128, 0, none⟩) (Kd.N_mono HO_28.out (fun k_ hk => (⟨hk, hk.2⟩ : _ ∧ k_ ≠ gb128))) (fun _ hk => hk.2) (.slice A127_0 ((rd_T59 y124 x30_2).f0).length c127_0)) (fun _ hk => hk.2) (.int .i64 ((rd_T59 y124 x30_2).f1))) (fun _ h_ => h_.1))) (Kd.R_base ho0) hb); replace HO_115001 := mk0 (Kd.V_elder' (uV (Kd.V_mono (Kd.V_far (p := ⟨gb128, 1, none⟩) (Kd.V_far (p := ⟨gb128, 0, none⟩) (Kd.V_mono HO_115001.out (fun k_ hk => (⟨hk, hk.2⟩ : _ ∧ k_ ≠ gb128))) (fun _ hk => hk.2) (.slice A127_0 ((rd_T59 y124 x30_2).f0).length c127_0)) (fun _ hk => hk.2) (.int .i64 ((rd_T59 y124 x30_2).f1))) (fun _ h_ => h_.1))) (Kd.R_base ho0) hb); replace HO_115002 := mk0 (Kd.V_elder' (uV (Kd.V_mono (Kd.V_far (p := ⟨gb128, 1, none⟩) (Kd.V_far (p := ⟨gb128, 0, none⟩) (Kd.V_mono HO_115002.out (fun k_ hk => (⟨hk, hk.2⟩ : _ ∧ k_ ≠ gb128))) (fun _ hk => hk.2) (.slice A127_0 ((rd_T59 y124 x30_2).f0).length c127_0)) (fun _ hk => hk.2) (.int .i64 ((rd_T59 y124 x30_2).f1))) (fun _ h_ => h_.1))) (Kd.R_base ho0) hb); have HO132 := mk0 (Kd.R_lower (Kd.R_newM (M := fun k_ => (w.heap.size ≤ k_)) ho0 (below_size bH) (fun k_ h_ => h_)) (below_size bH)); replace BK114 := mk0 (blk_below (g := gb114) (o := .cells #[.int .i64 a0_0, .slice A0_1 l0_1.length c0_1, .slice A0_2 l0_2.length c0_2] 24 (0, 0)) (by (with_reducible repeat (first | refine blk_drewN ?_ _ | refine blk_drew ?_ | refine blk_alloc ?_ _)); refine blk_far ?_ NB114_128.out _; (with_reducible repeat (first | refine blk_drewN ?_ _ | refine blk_drew ?_ | refine blk_alloc ?_ _)); refine blk_far ?_ NB114_128.out _; (with_reducible repeat (first | refine blk_drewN ?_ _ | refine blk_drew ?_ | refine blk_alloc ?_ _)); exact BK114.out) hb); replace HL127_0 := mk0 (Kd.V_elder' (uV (Kd.V_mono (Kd.V_far (p := ⟨gb128, 1, none⟩) (Kd.V_far (p := ⟨gb128, 0, none⟩) (Kd.V_mono HL127_0.out (fun k_ hk => (⟨hk, hk.2⟩ : _ ∧ k_ ≠ gb128))) (fun _ hk => hk.2) (.slice A127_0 ((rd_T59 y124 x30_2).f0).length c127_0)) (fun _ hk => hk.2) (.int .i64 ((rd_T59 y124 x30_2).f1))) (fun _ h_ => h_.1))) (Kd.R_base ho0) hb); replace BK128 := mk0 (blk_below (g := gb128) (o := .cells #[.slice A127_0 ((rd_T59 y124 x30_2).f0).length c127_0, .int .i64 ((rd_T59 y124 x30_2).f1)] 59 (0, 0)) (by (with_reducible repeat (first | refine blk_drewN ?_ _ | refine blk_drew ?_ | refine blk_alloc ?_ _)); refine blk_put (cs := #[.slice A127_0 ((rd_T59 y124 x30_2).f0).length c127_0, .int .i64 0]) ?_ 1 _ rfl; (with_reducible repeat (first | refine blk_drewN ?_ _ | refine blk_drew ?_ | refine blk_alloc ?_ _)); refine blk_put (cs := #[.slice none 0 0, .int .i64 0]) ?_ 0 _ rfl; (with_reducible repeat (first | refine blk_drewN ?_ _ | refine blk_drew ?_ | refine blk_alloc ?_ _)); exact BK128.out) hb); replace HB := hbB bH hb; (try clear hb); (try clear hb2); (try clear hk); (try clear hi); (try clear ho0); (first | (have EHO132 := cmpV_no HO132.out (by with_reducible assumption)) | (have EHO132 := cmpV_yes HO132.out (by with_reducible assumption)) | skip)))
             go_ret
             exact ⟨(v131), rE, uR (Kd.R_mono HO132.out (fun _ hk => hk.1)), bH⟩
            ·replace c26 := Bool.eq_false_iff.mpr c26
             subst c26
             have H1 : ((slices_ContainsFunc_int64_int64.f k2 ((rd_T59 y124 x30_2).f0)).bind fun t133 => (if t133 = true then ((sys_fault.f x30_2 5).bind fun t134 => (some t134)) else (sys_Check.l0 k2 y124 (y124.length : Int) (wrap64 (x30_2 + 1)) a0_0 l0_1 l0_2))) = some r := by rw [if_neg (show ¬ (false = true) by decide)] at H; exact H
             clear H
             have H := H1
             clear H1
             replace H := Option.bind_eq_some_iff.mp H
             obtain ⟨t133, A330, H⟩ := H
             have A33 := mk0 A330
             clear A330
             by_cases c34 : t133 = true
             ·subst c34
              have H1 : ((sys_fault.f x30_2 5).bind fun t134 => (some t134)) = some r := by rw [if_pos rfl] at H; exact H
              clear H
              have H := H1
              clear H1
              replace H := Option.bind_eq_some_iff.mp H
              obtain ⟨t134, A350, H⟩ := H
              have A35 := mk0 A350
              clear A350
              obtain rfl := Option.some.inj H
              have p127 : 0 ≤ (x30_2 : Int) := of_decide_eq_true (by first | (with_reducible assumption) | assumption)
              have q127 : x30_2 < (y124.length : Int) := of_decide_eq_true (by first | (with_reducible assumption) | assumption)
              obtain ⟨ad127, A127_0, c127_0, e127, hx127_0, hx127_1, hl127_0, hi127_0⟩ := at_T59 (Kd.N_reads' HO_28.out).2.2 x30_2 p127 q127
              cases e127
              obtain ⟨ce127, hce127, hMe127, hcc127⟩ := Kd.N_get HO_28.out z59 x30_2 p127 (by first | exact q127 | exact of_decide_eq_true (by first | (with_reducible assumption) | assumption) | (have e_ := (Kd.N_reads' HO_28.out).1; omega))
              obtain ⟨ua127_0, uc127_0, rfl, ul127_0, ge127_0⟩ := k59_openF hMe127
              have hv127_0 := hcc127 0 _ rfl
              rw [Nat.add_zero] at hv127_0
              replace hv127_0 := Option.some.inj (hv127_0.symm.trans hx127_0)
              injection hv127_0 with hva_ hvn_ hvc_
              rw [hva_] at ge127_0
              rw [hvc_] at ul127_0
              have HL127_0 := mk0 (show Kd.V (Kd.int .i64) 2 _ w.heap.size _ _ ((rd_T59 y124 x30_2).f0) from Kd.V_mk ul127_0 ge127_0)
              clear hva_ hvn_ hvc_ ge127_0 ul127_0
              clear hcc127 hce127
              have HR127_0 := mk0 hi127_0
              have HC127_0 := mk0 hl127_0
              clear hi127_0 hl127_0
              replace p127 := eq_true p127
              replace q127 := eq_true q127
              go_wp2_with (first | ((with_reducible refine gate_dst (N := 4) rfl ?_); refine bxE 4 #[.slice none 0 0, .int .i64 0] 59 ?_; intro gb128 hg w36 hbox hb; replace HO_28 := mk0 (Kd.N_below (Kd.N_elderB (uN HO_28.out) gb128 (Nat.le_of_eq hg.symm)) hb); replace HO_115001 := mk0 (Kd.V_below (Kd.V_elderB (uV HO_115001.out) gb128 (Nat.le_of_eq hg.symm)) hb); replace HO_115002 := mk0 (Kd.V_below (Kd.V_elderB (uV HO_115002.out) gb128 (Nat.le_of_eq hg.symm)) hb); replace HL127_0 := mk0 (Kd.V_below (Kd.V_elderB (uV HL127_0.out) gb128 (Nat.le_of_eq hg.symm)) hb); have BK128 := mk0 (hbox); have GW128 := mk0 ((by rw [hg]; exact (below_size bH) : w.heap.size ≤ gb128)); have GE128 := mk0 ((by rw [hg]; exact (below_size bH) : w.heap.size ≤ gb128)); replace HB := hbB bH hb; have NB114_128 := mk0 ((by rw [hg]; exact Nat.ne_of_lt (blk_lt (g := gb114) (o := .cells #[.int .i64 a0_0, .slice A0_1 l0_1.length c0_1, .slice A0_2 l0_2.length c0_2] 24 (0, 0)) (uB BK114.out)) : gb114 ≠ gb128)); have NB128_114 := mk0 ((by rw [hg]; exact Nat.ne_of_gt (blk_lt (g := gb114) (o := .cells #[.int .i64 a0_0, .slice A0_1 l0_1.length c0_1, .slice A0_2 l0_2.length c0_2] 24 (0, 0)) (uB BK114.out)) : gb128 ≠ gb114)); replace BK114 := bB BK114 hb; clear hb hbox hg; have hnb37 := NB128_114.out; have hnc37 := NB114_128.out; obtain ⟨hcz38_0, hcz38_1, hfz38_0, hfz38_1⟩ := cL2 BK128; obtain ⟨hcz39_0, hcz39_1, hcz39_2, hfz39_0, hfz39_1, hfz39_2⟩ := cL3 BK114) | ((with_reducible refine gate_dst (N := 47) rfl ?_); refine gsM (some 47) Tryd.func29 #[.int .i64 ((rd_T59 y124 x30_2).f1)] ?_; (with_reducible refine (sys_large.calls ((rd_T59 y124 x30_2).f1) false _ A25.out).mono ?_); rintro e w' ⟨rfl, ⟨nd, rfl⟩⟩; refine ⟨_, rfl, ?_⟩) | (go_at_call 30; (with_reducible refine (slices_ContainsFunc_int64_int64.calls k2 _ _ ((rd_T59 y124 x30_2).f0) true _ ?side1 ?side2 A33.out).mono ?_); (case side1 => exact ((Kd.V_reads' (uV (Kd.V_mono (Kd.V_far (p := ⟨gb128, 1, none⟩) (Kd.V_far (p := ⟨gb128, 0, none⟩) (Kd.V_mono HL127_0.out (fun k_ hk => (⟨hk, hk.2⟩ : _ ∧ k_ ≠ gb128))) (fun _ hk => hk.2) (.slice A127_0 ((rd_T59 y124 x30_2).f0).length c127_0)) (fun _ hk => hk.2) (.int .i64 ((rd_T59 y124 x30_2).f1))) (fun _ h_ => h_.1)))).2.2)); (case side2 => exact HC127_0.out); rintro e w40 ⟨rfl, hb⟩; replace HO_28 := mk0 (Kd.N_below (uN (Kd.N_mono (Kd.N_far (p := ⟨gb128, 1, none⟩) (Kd.N_far (p := ⟨gb128, 0, none⟩) (Kd.N_mono HO_28.out (fun k_ hk => (⟨hk, hk.2⟩ : _ ∧ k_ ≠ gb128))) (fun _ hk => hk.2) (.slice A127_0 ((rd_T59 y124 x30_2).f0).length c127_0)) (fun _ hk => hk.2) (.int .i64 ((rd_T59 y124 x30_2).f1))) (fun _ h_ => h_.1))) hb); replace HO_115001 := mk0 (Kd.V_below (uV (Kd.V_mono (Kd.V_far (p := ⟨gb128, 1, none⟩) (Kd.V_far (p := ⟨gb128, 0, none⟩) (Kd.V_mono HO_115001.out (fun k_ hk => (⟨hk, hk.2⟩ : _ ∧ k_ ≠ gb128))) (fun _ hk => hk.2) (.slice A127_0 ((rd_T59 y124 x30_2).f0).length c127_0)) (fun _ hk => hk.2) (.int .i64 ((rd_T59 y124 x30_2).f1))) (fun _ h_ => h_.1))) hb); replace HO_115002 := mk0 (Kd.V_below (uV (Kd.V_mono (Kd.V_far (p := ⟨gb128, 1, none⟩) (Kd.V_far (p := ⟨gb128, 0, none⟩) (Kd.V_mono HO_115002.out (fun k_ hk => (⟨hk, hk.2⟩ : _ ∧ k_ ≠ gb128))) (fun _ hk => hk.2) (.slice A127_0 ((rd_T59 y124 x30_2).f0).length c127_0)) (fun _ hk => hk.2) (.int .i64 ((rd_T59 y124 x30_2).f1))) (fun _ h_ => h_.1))) hb); replace BK114 := mk0 (blk_below (g := gb114) (o := .cells #[.int .i64 a0_0, .slice A0_1 l0_1.length c0_1, .slice A0_2 l0_2.length c0_2] 24 (0, 0)) (by (with_reducible repeat (first | refine blk_drewN ?_ _ | refine blk_drew ?_ | refine blk_alloc ?_ _)); refine blk_far ?_ NB114_128.out _; (with_reducible repeat (first | refine blk_drewN ?_ _ | refine blk_drew ?_ | refine blk_alloc ?_ _)); refine blk_far ?_ NB114_128.out _; (with_reducible repeat (first | refine blk_drewN ?_ _ | refine blk_drew ?_ | refine blk_alloc ?_ _)); exact BK114.out) hb); replace HL127_0 := mk0 (Kd.V_below (uV (Kd.V_mono (Kd.V_far (p := ⟨gb128, 1, none⟩) (Kd.V_far (p := ⟨gb128, 0, none⟩) (Kd.V_mono HL127_0.out (fun k_ hk => (⟨hk, hk.2⟩ : _ ∧ k_ ≠ gb128))) (fun _ hk => hk.2) (.slice A127_0 ((rd_T59 y124 x30_2).f0).length c127_0)) (fun _ hk => hk.2) (.int .i64 ((rd_T59 y124 x30_2).f1))) (fun _ h_ => h_.1))) hb); replace BK128 := mk0 (blk_below (g := gb128) (o := .cells #[.slice A127_0 ((rd_T59 y124 x30_2).f0).length c127_0, .int .i64 ((rd_T59 y124 x30_2).f1)] 59 (0, 0)) (by (with_reducible repeat (first | refine blk_drewN ?_ _ | refine blk_drew ?_ | refine blk_alloc ?_ _)); refine blk_put (cs := #[.slice A127_0 ((rd_T59 y124 x30_2).f0).length c127_0, .int .i64 0]) ?_ 1 _ rfl; (with_reducible repeat (first | refine blk_drewN ?_ _ | refine blk_drew ?_ | refine blk_alloc ?_ _)); refine blk_put (cs := #[.slice none 0 0, .int .i64 0]) ?_ 0 _ rfl; (with_reducible repeat (first | refine blk_drewN ?_ _ | refine blk_drew ?_ | refine blk_alloc ?_ _)); exact BK128.out) hb); replace HB := hbB bH hb; (try clear hb); (try clear hb2); (try clear hk); (try clear hi); clear HO_28 HO_115001 HO_115002) | ((with_reducible refine gate_dst (N := 54) rfl ?_); refine gsM (some 54) Tryd.func27 #[.int .i64 x30_2, .int .i64 5] ?_; (with_reducible refine (sys_fault.calls x30_2 5 t134 _ A35.out).mono ?_); rintro e w41 ⟨v135, rfl, ho0, hb⟩; refine ⟨_, rfl, ?_⟩; replace HL127_0 := mk0 (Kd.V_elder' (uV HL127_0.out) (Kd.R_base ho0) hb); have HO136 := mk0 (Kd.R_lower (Kd.R_newM (M := fun k_ => (w.heap.size ≤ k_)) ho0 (below_size bH) (fun k_ h_ => h_)) (below_size bH)); replace BK114 := bB BK114 hb; replace BK128 := bB BK128 hb; replace HB := hbB bH hb; (try clear hb); (try clear hb2); (try clear hk); (try clear hi); (try clear ho0); (first | (have EHO136 := cmpV_no HO136.out (by with_reducible assumption)) | (have EHO136 := cmpV_yes HO136.out (by with_reducible assumption)) | skip)))
              go_ret
              exact ⟨(v135), rE, uR (Kd.R_mono HO136.out (fun _ hk => hk.1)), bH⟩
             ·replace c34 := Bool.eq_false_iff.mpr c34
              subst c34
              have H1 : (sys_Check.l0 k2 y124 (y124.length : Int) (wrap64 (x30_2 + 1)) a0_0 l0_1 l0_2) = some r := by rw [if_neg (show ¬ (false = true) by decide)] at H; exact H
              clear H
              have H := H1
              clear H1
              have H' := mk0 H
              clear H
              have p127 : 0 ≤ (x30_2 : Int) := of_decide_eq_true (by first | (with_reducible assumption) | assumption)
              have q127 : x30_2 < (y124.length : Int) := of_decide_eq_true (by first | (with_reducible assumption) | assumption)
              obtain ⟨ad127, A127_0, c127_0, e127, hx127_0, hx127_1, hl127_0, hi127_0⟩ := at_T59 (Kd.N_reads' HO_28.out).2.2 x30_2 p127 q127
              cases e127
              obtain ⟨ce127, hce127, hMe127, hcc127⟩ := Kd.N_get HO_28.out z59 x30_2 p127 (by first | exact q127 | exact of_decide_eq_true (by first | (with_reducible assumption) | assumption) | (have e_ := (Kd.N_reads' HO_28.out).1; omega))
              obtain ⟨ua127_0, uc127_0, rfl, ul127_0, ge127_0⟩ := k59_openF hMe127
              have hv127_0 := hcc127 0 _ rfl
              rw [Nat.add_zero] at hv127_0
              replace hv127_0 := Option.some.inj (hv127_0.symm.trans hx127_0)
              injection hv127_0 with hva_ hvn_ hvc_
              rw [hva_] at ge127_0
              rw [hvc_] at ul127_0
              have HL127_0 := mk0 (show Kd.V (Kd.int .i64) 2 _ w.heap.size _ _ ((rd_T59 y124 x30_2).f0) from Kd.V_mk ul127_0 ge127_0)
              clear hva_ hvn_ hvc_ ge127_0 ul127_0
              clear hcc127 hce127
              have HR127_0 := mk0 hi127_0
              have HC127_0 := mk0 hl127_0
              clear hi127_0 hl127_0
              replace p127 := eq_true p127
              replace q127 := eq_true q127
              go_wp2_with (first | ((with_reducible refine gate_dst (N := 4) rfl ?_); refine bxE 4 #[.slice none 0 0, .int .i64 0] 59 ?_; intro gb128 hg w42 hbox hb; replace HO_28 := mk0 (Kd.N_below (Kd.N_elderB (uN HO_28.out) gb128 (Nat.le_of_eq hg.symm)) hb); replace HO_115001 := mk0 (Kd.V_below (Kd.V_elderB (uV HO_115001.out) gb128 (Nat.le_of_eq hg.symm)) hb); replace HO_115002 := mk0 (Kd.V_below (Kd.V_elderB (uV HO_115002.out) gb128 (Nat.le_of_eq hg.symm)) hb); replace HL127_0 := mk0 (Kd.V_below (Kd.V_elderB (uV HL127_0.out) gb128 (Nat.le_of_eq hg.symm)) hb); have BK128 := mk0 (hbox); have GW128 := mk0 ((by rw [hg]; exact (below_size bH) : w.heap.size ≤ gb128)); have GE128 := mk0 ((by rw [hg]; exact (below_size bH) : w.heap.size ≤ gb128)); replace HB := hbB bH hb; have NB114_128 := mk0 ((by rw [hg]; exact Nat.ne_of_lt (blk_lt (g := gb114) (o := .cells #[.int .i64 a0_0, .slice A0_1 l0_1.length c0_1, .slice A0_2 l0_2.length c0_2] 24 (0, 0)) (uB BK114.out)) : gb114 ≠ gb128)); have NB128_114 := mk0 ((by rw [hg]; exact Nat.ne_of_gt (blk_lt (g := gb114) (o := .cells #[.int .i64 a0_0, .slice A0_1 l0_1.length c0_1, .slice A0_2 l0_2.length c0_2] 24 (0, 0)) (uB BK114.out)) : gb128 ≠ gb114)); replace BK114 := bB BK114 hb; clear hb hbox hg; have hnb43 := NB128_114.out; have hnc43 := NB114_128.out; obtain ⟨hcz44_0, hcz44_1, hfz44_0, hfz44_1⟩ := cL2 BK128; obtain ⟨hcz45_0, hcz45_1, hcz45_2, hfz45_0, hfz45_1, hfz45_2⟩ := cL3 BK114) | ((with_reducible refine gate_dst (N := 47) rfl ?_); refine gsM (some 47) Tryd.func29 #[.int .i64 ((rd_T59 y124 x30_2).f1)] ?_; (with_reducible refine (sys_large.calls ((rd_T59 y124 x30_2).f1) false _ A25.out).mono ?_); rintro e w' ⟨rfl, ⟨nd, rfl⟩⟩; refine ⟨_, rfl, ?_⟩) | (go_at_call 30; (with_reducible refine (slices_ContainsFunc_int64_int64.calls k2 _ _ ((rd_T59 y124 x30_2).f0) false _ ?side1 ?side2 A33.out).mono ?_); (case side1 => exact ((Kd.V_reads' (uV (Kd.V_mono (Kd.V_far (p := ⟨gb128, 1, none⟩) (Kd.V_far (p := ⟨gb128, 0, none⟩) (Kd.V_mono HL127_0.out (fun k_ hk => (⟨hk, hk.2⟩ : _ ∧ k_ ≠ gb128))) (fun _ hk => hk.2) (.slice A127_0 ((rd_T59 y124 x30_2).f0).length c127_0)) (fun _ hk => hk.2) (.int .i64 ((rd_T59 y124 x30_2).f1))) (fun _ h_ => h_.1)))).2.2)); (case side2 => exact HC127_0.out); rintro e w46 ⟨rfl, hb⟩; replace HO_28 := mk0 (Kd.N_below (uN (Kd.N_mono (Kd.N_far (p := ⟨gb128, 1, none⟩) (Kd.N_far (p := ⟨gb128, 0, none⟩) (Kd.N_mono HO_28.out (fun k_ hk => (⟨hk, hk.2⟩ : _ ∧ k_ ≠ gb128))) (fun _ hk => hk.2) (.slice A127_0 ((rd_T59 y124 x30_2).f0).length c127_0)) (fun _ hk => hk.2) (.int .i64 ((rd_T59 y124 x30_2).f1))) (fun _ h_ => h_.1))) hb); replace HO_115001 := mk0 (Kd.V_below (uV (Kd.V_mono (Kd.V_far (p := ⟨gb128, 1, none⟩) (Kd.V_far (p := ⟨gb128, 0, none⟩) (Kd.V_mono HO_115001.out (fun k_ hk => (⟨hk, hk.2⟩ : _ ∧ k_ ≠ gb128))) (fun _ hk => hk.2) (.slice A127_0 ((rd_T59 y124 x30_2).f0).length c127_0)) (fun _ hk => hk.2) (.int .i64 ((rd_T59 y124 x30_2).f1))) (fun _ h_ => h_.1))) hb); replace HO_115002 := mk0 (Kd.V_below (uV (Kd.V_mono (Kd.V_far (p := ⟨gb128, 1, none⟩) (Kd.V_far (p := ⟨gb128, 0, none⟩) (Kd.V_mono HO_115002.out (fun k_ hk => (⟨hk, hk.2⟩ : _ ∧ k_ ≠ gb128))) (fun _ hk => hk.2) (.slice A127_0 ((rd_T59 y124 x30_2).f0).length c127_0)) (fun _ hk => hk.2) (.int .i64 ((rd_T59 y124 x30_2).f1))) (fun _ h_ => h_.1))) hb); replace BK114 := mk0 (blk_below (g := gb114) (o := .cells #[.int .i64 a0_0, .slice A0_1 l0_1.length c0_1, .slice A0_2 l0_2.length c0_2] 24 (0, 0)) (by (with_reducible repeat (first | refine blk_drewN ?_ _ | refine blk_drew ?_ | refine blk_alloc ?_ _)); refine blk_far ?_ NB114_128.out _; (with_reducible repeat (first | refine blk_drewN ?_ _ | refine blk_drew ?_ | refine blk_alloc ?_ _)); refine blk_far ?_ NB114_128.out _; (with_reducible repeat (first | refine blk_drewN ?_ _ | refine blk_drew ?_ | refine blk_alloc ?_ _)); exact BK114.out) hb); replace HL127_0 := mk0 (Kd.V_below (uV (Kd.V_mono (Kd.V_far (p := ⟨gb128, 1, none⟩) (Kd.V_far (p := ⟨gb128, 0, none⟩) (Kd.V_mono HL127_0.out (fun k_ hk => (⟨hk, hk.2⟩ : _ ∧ k_ ≠ gb128))) (fun _ hk => hk.2) (.slice A127_0 ((rd_T59 y124 x30_2).f0).length c127_0)) (fun _ hk => hk.2) (.int .i64 ((rd_T59 y124 x30_2).f1))) (fun _ h_ => h_.1))) hb); replace BK128 := mk0 (blk_below (g := gb128) (o := .cells #[.slice A127_0 ((rd_T59 y124 x30_2).f0).length c127_0, .int .i64 ((rd_T59 y124 x30_2).f1)] 59 (0, 0)) (by (with_reducible repeat (first | refine blk_drewN ?_ _ | refine blk_drew ?_ | refine blk_alloc ?_ _)); refine blk_put (cs := #[.slice A127_0 ((rd_T59 y124 x30_2).f0).length c127_0, .int .i64 0]) ?_ 1 _ rfl; (with_reducible repeat (first | refine blk_drewN ?_ _ | refine blk_drew ?_ | refine blk_alloc ?_ _)); refine blk_put (cs := #[.slice none 0 0, .int .i64 0]) ?_ 0 _ rfl; (with_reducible repeat (first | refine blk_drewN ?_ _ | refine blk_drew ?_ | refine blk_alloc ?_ _)); exact BK128.out) hb); replace HB := hbB bH hb; (try clear hb); (try clear hb2); (try clear hk); (try clear hi)))
              go_roundg k2
              case measure => have := HJ1.out; have := HK2.out; omega
              case rel => exact ⟨(wrap64 (x30_2 + 1)), (by first | rfl | (simp; done) | (simp [*]; done) | (simp [bne_nil_, beq_nil_]; done)), H', ⟨by have := HJ1.out; have := HK2.out; omega⟩, ⟨uN (Kd.N_mono HO_28.out (fun _ hk => ⟨hk.1.1, hk.1.2⟩))⟩, ⟨uV (Kd.V_mono HO_115001.out (fun _ hk => ⟨hk.1.1, ⟨hk.1.2.1, hk.1.2.2⟩⟩))⟩, ⟨uV (Kd.V_mono HO_115002.out (fun _ hk => ⟨hk.1.1, ⟨hk.1.2.1, hk.1.2.2⟩⟩))⟩, ⟨uB BK114.out⟩, ⟨bH⟩⟩
           ·rw [if_neg c24] at H
            have c24b0 : ((((rd_T59 y124 x30_2).f0).length : Int) == a0_0) = false := beq_eq_false_iff_ne.mpr c24
            have c24b1 : ((((rd_T59 y124 x30_2).f0).length : Int) != a0_0) = true := bne_iff_ne.mpr c24
            replace H := Option.bind_eq_some_iff.mp H
            obtain ⟨t137, A470, H⟩ := H
            have A47 := mk0 A470
            clear A470
            obtain rfl := Option.some.inj H
            have p127 : 0 ≤ (x30_2 : Int) := of_decide_eq_true (by first | (with_reducible assumption) | assumption)
            have q127 : x30_2 < (y124.length : Int) := of_decide_eq_true (by first | (with_reducible assumption) | assumption)
            obtain ⟨ad127, A127_0, c127_0, e127, hx127_0, hx127_1, hl127_0, hi127_0⟩ := at_T59 (Kd.N_reads' HO_28.out).2.2 x30_2 p127 q127
            cases e127
            obtain ⟨ce127, hce127, hMe127, hcc127⟩ := Kd.N_get HO_28.out z59 x30_2 p127 (by first | exact q127 | exact of_decide_eq_true (by first | (with_reducible assumption) | assumption) | (have e_ := (Kd.N_reads' HO_28.out).1; omega))
            obtain ⟨ua127_0, uc127_0, rfl, ul127_0, ge127_0⟩ := k59_openF hMe127
            have hv127_0 := hcc127 0 _ rfl
            rw [Nat.add_zero] at hv127_0
            replace hv127_0 := Option.some.inj (hv127_0.symm.trans hx127_0)
            injection hv127_0 with hva_ hvn_ hvc_
            rw [hva_] at ge127_0
            rw [hvc_] at ul127_0
            have HL127_0 := mk0 (show Kd.V (Kd.int .i64) 2 _ w.heap.size _ _ ((rd_T59 y124 x30_2).f0) from Kd.V_mk ul127_0 ge127_0)
            clear hva_ hvn_ hvc_ ge127_0 ul127_0
            clear hcc127 hce127
            have HR127_0 := mk0 hi127_0
            have HC127_0 := mk0 hl127_0
            clear hi127_0 hl127_0
            replace p127 := eq_true p127
            replace q127 := eq_true q127
            go_wp2_with (first | ((with_reducible refine gate_dst (N := 4) rfl ?_); refine bxE 4 #[.slice none 0 0, .int .i64 0] 59 ?_; intro gb128 hg w48 hbox hb; replace HO_28 := mk0 (Kd.N_below (Kd.N_elderB (uN HO_28.out) gb128 (Nat.le_of_eq hg.symm)) hb); replace HO_115001 := mk0 (Kd.V_below (Kd.V_elderB (uV HO_115001.out) gb128 (Nat.le_of_eq hg.symm)) hb); replace HO_115002 := mk0 (Kd.V_below (Kd.V_elderB (uV HO_115002.out) gb128 (Nat.le_of_eq hg.symm)) hb); replace HL127_0 := mk0 (Kd.V_below (Kd.V_elderB (uV HL127_0.out) gb128 (Nat.le_of_eq hg.symm)) hb); have BK128 := mk0 (hbox); have GW128 := mk0 ((by rw [hg]; exact (below_size bH) : w.heap.size ≤ gb128)); have GE128 := mk0 ((by rw [hg]; exact (below_size bH) : w.heap.size ≤ gb128)); replace HB := hbB bH hb; have NB114_128 := mk0 ((by rw [hg]; exact Nat.ne_of_lt (blk_lt (g := gb114) (o := .cells #[.int .i64 a0_0, .slice A0_1 l0_1.length c0_1, .slice A0_2 l0_2.length c0_2] 24 (0, 0)) (uB BK114.out)) : gb114 ≠ gb128)); have NB128_114 := mk0 ((by rw [hg]; exact Nat.ne_of_gt (blk_lt (g := gb114) (o := .cells #[.int .i64 a0_0, .slice A0_1 l0_1.length c0_1, .slice A0_2 l0_2.length c0_2] 24 (0, 0)) (uB BK114.out)) : gb128 ≠ gb114)); replace BK114 := bB BK114 hb; clear hb hbox hg; have hnb49 := NB128_114.out; have hnc49 := NB114_128.out; obtain ⟨hcz50_0, hcz50_1, hfz50_0, hfz50_1⟩ := cL2 BK128; obtain ⟨hcz51_0, hcz51_1, hcz51_2, hfz51_0, hfz51_1, hfz51_2⟩ := cL3 BK114) | ((with_reducible refine gate_dst (N := 43) rfl ?_); refine gsM (some 43) Tryd.func27 #[.int .i64 x30_2, .int .i64 1] ?_; (with_reducible refine (sys_fault.calls x30_2 1 t137 _ A47.out).mono ?_); rintro e w52 ⟨v138, rfl, ho0, hb⟩; refine ⟨_, rfl, ?_⟩; replace HO_28 := mk0 (Kd.N_elder' (uN (Kd.N_mono (Kd.N_far (p := ⟨gb128, 1, none⟩) (Kd.N_far (p := ⟨gb128, 0, none⟩) (Kd.N_mono HO_28.out (fun k_ hk => (⟨hk, hk.2⟩ : _ ∧ k_ ≠ gb128))) (fun _ hk => hk.2) (.slice A127_0 ((rd_T59 y124 x30_2).f0).length c127_0)) (fun _ hk => hk.2) (.int .i64 ((rd_T59 y124 x30_2).f1))) (fun _ h_ => h_.1))) (Kd.R_base ho0) hb); replace HO_115001 := mk0 (Kd.V_elder' (uV (Kd.V_mono (Kd.V_far (p := ⟨gb128, 1, none⟩) (Kd.V_far (p := ⟨gb128, 0, none⟩) (Kd.V_mono HO_115001.out (fun k_ hk => (⟨hk, hk.2⟩ : _ ∧ k_ ≠ gb128))) (fun _ hk => hk.2) (.slice A127_0 ((rd_T59 y124 x30_2).f0).length c127_0)) (fun _ hk => hk.2) (.int .i64 ((rd_T59 y124 x30_2).f1))) (fun _ h_ => h_.1))) (Kd.R_base ho0) hb); replace HO_115002 := mk0 (Kd.V_elder' (uV (Kd.V_mono (Kd.V_far (p := ⟨gb128, 1, none⟩) (Kd.V_far (p := ⟨gb128, 0, none⟩) (Kd.V_mono HO_115002.out (fun k_ hk => (⟨hk, hk.2⟩ : _ ∧ k_ ≠ gb128))) (fun _ hk => hk.2) (.slice A127_0 ((rd_T59 y124 x30_2).f0).length c127_0)) (fun _ hk => hk.2) (.int .i64 ((rd_T59 y124 x30_2).f1))) (fun _ h_ => h_.1))) (Kd.R_base ho0) hb); have HO139 := mk0 (Kd.R_lower (Kd.R_newM (M := fun k_ => (w.heap.size ≤ k_)) ho0 (below_size bH) (fun k_ h_ => h_)) (below_size bH)); replace BK114 := mk0 (blk_below (g := gb114) (o := .cells #[.int .i64 a0_0, .slice A0_1 l0_1.length c0_1, .slice A0_2 l0_2.length c0_2] 24 (0, 0)) (by (with_reducible repeat (first | refine blk_drewN ?_ _ | refine blk_drew ?_ | refine blk_alloc ?_ _)); refine blk_far ?_ NB114_128.out _; (with_reducible repeat (first | refine blk_drewN ?_ _ | refine blk_drew ?_ | refine blk_alloc ?_ _)); refine blk_far ?_ NB114_128.out _; (with_reducible repeat (first | refine blk_drewN ?_ _ | refine blk_drew ?_ | refine blk_alloc ?_ _)); exact BK114.out) hb); replace HL127_0 := mk0 (Kd.V_elder' (uV (Kd.V_mono (Kd.V_far (p := ⟨gb128, 1, none⟩) (Kd.V_far (p := ⟨gb128, 0, none⟩) (Kd.V_mono HL127_0.out (fun k_ hk => (⟨hk, hk.2⟩ : _ ∧ k_ ≠ gb128))) (fun _ hk => hk.2) (.slice A127_0 ((rd_T59 y124 x30_2).f0).length c127_0)) (fun _ hk => hk.2) (.int .i64 ((rd_T59 y124 x30_2).f1))) (fun _ h_ => h_.1))) (Kd.R_base ho0) hb); replace BK128 := mk0 (blk_below (g := gb128) (o := .cells #[.slice A127_0 ((rd_T59 y124 x30_2).f0).length c127_0, .int .i64 ((rd_T59 y124 x30_2).f1)] 59 (0, 0)) (by (with_reducible repeat (first | refine blk_drewN ?_ _ | refine blk_drew ?_ | refine blk_alloc ?_ _)); refine blk_put (cs := #[.slice A127_0 ((rd_T59 y124 x30_2).f0).length c127_0, .int .i64 0]) ?_ 1 _ rfl; (with_reducible repeat (first | refine blk_drewN ?_ _ | refine blk_drew ?_ | refine blk_alloc ?_ _)); refine blk_put (cs := #[.slice none 0 0, .int .i64 0]) ?_ 0 _ rfl; (with_reducible repeat (first | refine blk_drewN ?_ _ | refine blk_drew ?_ | refine blk_alloc ?_ _)); exact BK128.out) hb); replace HB := hbB bH hb; (try clear hb); (try clear hb2); (try clear hk); (try clear hi); (try clear ho0); (first | (have EHO139 := cmpV_no HO139.out (by with_reducible assumption)) | (have EHO139 := cmpV_yes HO139.out (by with_reducible assumption)) | skip)))
            go_ret
            exact ⟨(v138), rE, uR (Kd.R_mono HO139.out (fun _ hk => hk.1)), bH⟩
          ·rw [if_neg c23] at H
           exact absurd H (by simp)
         ·rw [if_neg c22] at H
          exact absurd H (by simp)
        ·rw [if_neg c21] at H
         have c21b0 : decide (x30_2 < (y124.length : Int)) = false := decide_eq_false c21
         clear c21
         obtain rfl := Option.some.inj H
         go_wp2
         go_ret
         exact ⟨(.slice none 0 0), rE, nK, bH⟩
     ·rw [if_neg c15] at H
      exact absurd H (by simp)

end Go.Proofs.YtkkpgjkjkcmcbaaDoor.X
