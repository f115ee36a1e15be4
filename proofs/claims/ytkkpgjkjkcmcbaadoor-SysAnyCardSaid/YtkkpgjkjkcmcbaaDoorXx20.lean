-- PRINTED by print.py (a twelfth state) out of the translation. Not trusted: Lean checks it.
import Derived.Test.YtkkpgjkjkcmcbaaDoorXx0
import Derived.Test.YtkkpgjkjkcmcbaaDoorXx1
import Derived.Test.YtkkpgjkjkcmcbaaDoorHandF
import Derived.Test.YtkkpgjkjkcmcbaaDoorHandI2
namespace Go.Proofs.YtkkpgjkjkcmcbaaDoor.X
open Go.Proofs.YtkkpgjkjkcmcbaaDoor.Flt Go.Proofs.YtkkpgjkjkcmcbaaDoor.H Go.RowKit Go.Proofs.YtkkpgjkjkcmcbaaDoorW.PrintWords Go.Proofs.YtkkpgjkjkcmcbaaDoorW.PrintLast Go.Proofs.YtkkpgjkjkcmcbaaDoorW.PrintMore
attribute [local go_sem] max2_int min2_int max_two min_two max_three min_three max_four min_four   -- for this text's walks alone
set_option linter.unusedVariables false
set_option linter.unusedSimpArgs false

/-! ### sys_Check: function 11 -/
mutual
def sys_Check.j0 : Nat → Bool → Int → List (S59) → List (S59) → Option ((List (Flt)))
 | 0, _, _, _, _ => none
 | k + 1, x12, x115000, x115001, x115002 => if x12 = true then ((sys_fault.f 0 1).bind fun t115 => (some t115)) else (if (wrap64 ((x115001.length : Int) + (x115002.length : Int))) > 64 then ((sys_fault.f 64 4).bind fun t118 => (some t118)) else ((lin_Form_28.f x115001).bind fun t121 => (if t121.length + x115002.length < 4398046511104 then ((some (t121 ++ x115002 : List (S59))).bind fun y124 => (sys_Check.l0 k y124 (y124.length : Int) 0 x115000 x115001 x115002)) else (none))))
def sys_Check.l0 : Nat → List (S59) → Int → Int → Int → List (S59) → List (S59) → Option ((List (Flt)))
 | 0, _, _, _, _, _, _ => none
 | k + 1, x28, x29, x30, x115000, x115001, x115002 => if x30 < x29 then (if 0 ≤ x30 then (if x30 < (x28.length : Int) then (if (((rd_T59 x28 x30).f0).length : Int) = x115000 then ((sys_large.f ((rd_T59 x28 x30).f1)).bind fun t129 => (if t129 = true then ((sys_fault.f x30 5).bind fun t130 => (some t130)) else ((slices_ContainsFunc_int64_int64.f k ((rd_T59 x28 x30).f0)).bind fun t133 => (if t133 = true then ((sys_fault.f x30 5).bind fun t134 => (some t134)) else (sys_Check.l0 k x28 x29 (wrap64 (x30 + 1)) x115000 x115001 x115002))))) else ((sys_fault.f x30 1).bind fun t137 => (some t137))) else (none)) else (none)) else (some ([] : List (Flt)))
end
def sys_Check.f (k : Nat) (a0_0 : Int) (l0_1 : List (S59)) (l0_2 : List (S59)) : Option ((List (Flt))) := if a0_0 < 0 then (sys_Check.j0 k true a0_0 l0_1 l0_2) else (sys_Check.j0 k (decide (a0_0 > 16)) a0_0 l0_1 l0_2)
theorem sys_Check.mono_l : ∀ k, (∀ y0 y1 y2 y3, LeO (sys_Check.j0 k y0 y1 y2 y3) (sys_Check.j0 (k + 1) y0 y1 y2 y3)) ∧ (∀ y0 y1 y2 y3 y4 y5, LeO (sys_Check.l0 k y0 y1 y2 y3 y4 y5) (sys_Check.l0 (k + 1) y0 y1 y2 y3 y4 y5))
 | 0 => by refine ⟨?_, ?_⟩ <;> intros <;> exact fun r h => by simp [sys_Check.j0, sys_Check.l0] at h
 | k + 1 => by
  obtain ⟨i0_, i1_⟩ := sys_Check.mono_l k; have m0_ := @slices_ContainsFunc_int64_int64.mono; refine ⟨?_, ?_⟩ <;> intros
  ·unfold sys_Check.j0; exact lO_
  ·unfold sys_Check.l0; exact lO_
theorem sys_Check.mono : ∀ a0 a1 a2 k, LeO (sys_Check.f k a0 a1 a2) (sys_Check.f (k + 1) a0 a1 a2) := by
 intro a0 a1 a2 k
 obtain ⟨i0_, i1_⟩ := sys_Check.mono_l k; have m0_ := @slices_ContainsFunc_int64_int64.mono; unfold sys_Check.f; exact lO_
def sys_Check.T5 : Bool × List (List Nat × List Nat) := (true, [([], []), ([0], [0]), ([1], [1]), ([], []), ([3], [3]), ([2, 4, 2], [2, 4]), ([5], [5]), ([], [])])
def sys_Check.B5 : List Nat := [0, 1, 3, 0, 8, 31, 63, 0]
theorem sys_Check.tab5 : rtab .any (opsOf Tryd.f11 5) = sys_Check.T5 := by kernel_rfl
theorem sys_Check.bits5 : waitsOk sys_Check.T5.2 sys_Check.B5 = true := by kernel_rfl
set_option maxHeartbeats 8000000 in
set_option maxRecDepth 100000 in
theorem sys_Check.calls (k : Nat) (a0_0 : Int) (P0_1_ : Nat → Prop) (A0_1 : Option Addr) (c0_1 : Nat) (l0_1 : List (S59)) (P0_2_ : Nat → Prop) (A0_2 : Option Addr) (c0_2 : Nat) (l0_2 : List (S59)) (r : List (Flt)) (w : World) (hs0_1 : Kd.V k59 59 w w.heap.size (fun k_ => P0_1_ k_) (.slice A0_1 l0_1.length c0_1) l0_1) (hs0_2 : Kd.V k59 59 w w.heap.size (fun k_ => P0_2_ k_) (.slice A0_2 l0_2.length c0_2) l0_2) (h : sys_Check.f k a0_0 l0_1 l0_2 = some r) :
  Calls Tryd.prog 11 #[.agg #[.int .i64 a0_0, .slice A0_1 l0_1.length c0_1, .slice A0_2 l0_2.length c0_2]] w fun e w' => ∃ v0_ : Value, e = .returned (errV v0_) ∧ Kd.R fltK 74 w' w.heap.size (fun k_ => (w.heap.size ≤ k_)) v0_ r ∧ Below w.heap.size w w' := by
 have hu24 := Tryd.underlying24
 have hu59 := Tryd.underlying59
 have aQ := mk0 (show Kd.V k59 59 w w.heap.size (fun k_ => ((P0_1_ k_ ∨ P0_2_ k_) ∨ w.heap.size ≤ k_)) (.slice A0_1 l0_1.length c0_1) l0_1 from Kd.V_mono hs0_1 (fun k_ hk => .inl (.inl hk)))
 have aT := mk0 (show Kd.V k59 59 w w.heap.size (fun k_ => ((P0_1_ k_ ∨ P0_2_ k_) ∨ w.heap.size ≤ k_)) (.slice A0_2 l0_2.length c0_2) l0_2 from Kd.V_mono hs0_2 (fun k_ hk => .inl (.inr hk)))
 have HB := mk0 (Below.refl w.heap.size w)
 have H : (if a0_0 < 0 then (sys_Check.j0 k true a0_0 l0_1 l0_2) else (sys_Check.j0 k (decide (a0_0 > 16)) a0_0 l0_1 l0_2)) = some r := h
 clear h
 have a6 := mk0 H
 clear H
 go_enter Tryd.func11, Tryd.ntmps11
 go_upto_region 1 with (first | ((with_reducible refine gate_dst (N := 1) rfl ?_); refine bxE 1 #[.int .i64 a0_0, .slice A0_1 l0_1.length c0_1, .slice A0_2 l0_2.length c0_2] 24 ?_; intro ag hg w3 hbox hb; replace aQ := vD aQ ag hg hb; replace aT := vD aT ag hg hb; have ac := mk0 (hbox); have cj := gE (uL HB.out) hg; have ck := gE (uL HB.out) hg; replace HB := hbB (uL HB.out) hb; clear hb hbox hg))
 (try simp only [AP])
 go_cut [12] (fun bx wc => ∃ (kq : Nat) (aU : Bool), bx = .bool aU ∧ Aside0 (sys_Check.j0 kq aU a0_0 l0_1 l0_2 = some r) ∧ Aside0 (kq ≤ k) ∧ Aside0 (Kd.V k59 59 wc w.heap.size (fun k_ => ((P0_1_ k_ ∨ P0_2_ k_) ∨ w.heap.size ≤ k_) ∧ k_ ≠ ag) (.slice A0_1 l0_1.length c0_1) l0_1) ∧ Aside0 (Kd.V k59 59 wc w.heap.size (fun k_ => ((P0_1_ k_ ∨ P0_2_ k_) ∨ w.heap.size ≤ k_) ∧ k_ ≠ ag) (.slice A0_2 l0_2.length c0_2) l0_2) ∧ Aside0 (wc.heap[ag]? = some (.cells #[.int .i64 a0_0, (.slice A0_1 l0_1.length c0_1), (.slice A0_2 l0_2.length c0_2)] 24 (0, 0))) ∧ Aside0 (Below w.heap.size w wc))
 case first =>
  have H := a6.out; clear a6
  by_cases c4 : a0_0 < 0
  ·rw [if_pos c4] at H
   have aK := decide_eq_true c4; clear c4; (first | rw [aK] | (simp only [i64_w, i32_w]; rw [aK]) | skip); have H' := mk0 H; clear H; obtain ⟨cl, cm, cn, cp, cq, cr⟩ := cL3 ac; go_wp2
   go_meet
   case rel => exact ⟨_, (true), eK, H', ⟨by first | omega | exact Nat.le_refl _⟩, ⟨uV aQ.out⟩, ⟨uV aT.out⟩, ⟨uB ac.out⟩, ⟨bH⟩⟩
  ·rw [if_neg c4] at H
   have aK := decide_eq_false c4; clear c4; (first | rw [aK] | (simp only [i64_w, i32_w]; rw [aK]) | skip); have H' := mk0 H; clear H; obtain ⟨ct, cu, cv, cw, cy, cz⟩ := cL3 ac; go_wp2
   go_meet
   case rel => exact ⟨_, (decide (a0_0 > 16)), eK, H', ⟨by first | omega | exact Nat.le_refl _⟩, ⟨uV aQ.out⟩, ⟨uV aT.out⟩, ⟨uB ac.out⟩, ⟨bH⟩⟩
 case rest =>
  clear a6; obtain ⟨kq, aU, rfl, HA, bq, al, am, ac, HB⟩ := hcut
  cases kq with
  | zero => exact absurd HA.out (by simp [sys_Check.j0])
  | succ kj1 =>
   have H := HA.out; clear HA; simp only [sys_Check.j0] at H
   by_cases c7 : aU = true
   ·subst c7
    replace H := iT H; obtain ⟨bz, A8, H⟩ := oB H; obtain rfl := Option.some.inj H
    go_wp2_with (first | ((with_reducible refine gate_dst (N := 13) rfl ?_); refine gsM (some 13) Tryd.func27 #[.int .i64 0, .int .i64 1] ?_; (with_reducible refine (sys_fault.calls 0 1 bz _ A8.out).mono ?_); rintro e w9 ⟨bC, rfl, ho0, hb⟩; refine ⟨_, rfl, ?_⟩; have a7 := mk0 (Kd.R_lower (Kd.R_newM (M := fun k_ => (w.heap.size ≤ k_)) ho0 (below_size bH) (fun k_ h_ => h_)) (below_size bH)); replace HB := hbB bH hb; (try clear hb hk ho0); (first | (have bE := cmpV_no a7.out (by with_reducible assumption)) | (have bE := cmpV_yes a7.out (by with_reducible assumption)) | skip)))
    go_ret; exact ⟨(bC), rE, uR (Kd.R_mono a7.out (fun _ hk => hk.1)), bH⟩
   ·replace c7 := Bool.eq_false_iff.mpr c7
    subst c7; replace H := iF H
    by_cases ay : (wrap64 ((l0_1.length : Int) + (l0_2.length : Int))) > 64
    ·rw [if_pos ay] at H
     have br := decide_eq_true ay; clear ay; obtain ⟨bF, bG, H⟩ := oB H; obtain rfl := Option.some.inj H; obtain ⟨cA, cD, cE, cF, cG, cH⟩ := cL3 ac
     go_wp2_with (first | ((with_reducible refine gate_dst (N := 22) rfl ?_); refine gsM (some 22) Tryd.func27 #[.int .i64 64, .int .i64 4] ?_; (with_reducible refine (sys_fault.calls 64 4 bF _ bG.out).mono ?_); rintro e cI ⟨bI, rfl, ho0, hb⟩; refine ⟨_, rfl, ?_⟩; have a8 := mk0 (Kd.R_lower (Kd.R_newM (M := fun k_ => (w.heap.size ≤ k_)) ho0 (below_size bH) (fun k_ h_ => h_)) (below_size bH)); replace HB := hbB bH hb; (try clear hb hk ho0); (first | (have bJ := cmpV_no a8.out (by with_reducible assumption)) | (have bJ := cmpV_yes a8.out (by with_reducible assumption)) | skip)))
     go_ret; exact ⟨(bI), rE, uR (Kd.R_mono a8.out (fun _ hk => hk.1)), bH⟩
    ·rw [if_neg ay] at H
     have br := decide_eq_false ay; clear ay; obtain ⟨aV, bK, H⟩ := oB H
     by_cases aM : aV.length + l0_2.length < 4398046511104
     ·rw [if_pos aM] at H
      have bL := mk0 aM; clear aM; obtain ⟨ae, a9⟩ : ∃ y_ : List (S59), y_ = (aV ++ l0_2) := ⟨_, rfl⟩; (replace H : (sys_Check.l0 kj1 ae (ae.length : Int) 0 a0_0 l0_1 l0_2) = some r := by (try rw [a9]); first | with_reducible exact H | with_reducible exact oN H | exact H); have bM := mk0 a9; clear a9; have H' := mk0 H; clear H; obtain ⟨bO, bP, bQ, bR, bT, bU⟩ := cL3 ac; (try go_wp2); replace al := mk0 (Kd.V_drew al.out); replace am := mk0 (Kd.V_drew am.out); replace ac := mk0 (blk_drew ac.out); replace HB := mk0 (below_drew1 HB.out); refine start_ (n := 8) (S := fun w' => w'.cell? ⟨ag, 0, none⟩ = some (.int .i64 a0_0) ∧ w'.cell? ⟨ag, 1, none⟩ = some (.slice A0_1 l0_1.length c0_1) ∧ w'.cell? ⟨ag, 2, none⟩ = some (.slice A0_2 l0_2.length c0_2)) (ds := []) (bts 8 0) (by kernel_rfl) rfl rfl ⟨(blk_cell ac.out 0).trans rfl, (blk_cell ac.out 1).trans rfl, (blk_cell ac.out 2).trans rfl⟩ (fun hHeld => ?_); refine with_tabW sys_Check.tab5 sys_Check.bits5 (fun HT_ HW_ => ?_); generalize wc.drew = cJ at al am ac HB hHeld ⊢; refine qA 0 1 ?_; refine qA 3 9 ?_; refine qA 7 137 ?_; refine qT3 1 139 ?_; refine qT3 4 155 ?_; refine one_ (i := 2) (N := some 25) (bts 8 159) rfl rfl (one_of HT_.out (by kernel_rfl)) (by decide) (fun K hK => ?_); refine goes_ Tryd.func28 (by kernel_rfl) rfl #[.slice A0_1 l0_1.length c0_1] (by rfl) rfl rfl (by (try simp only [List.map_toArray, List.map_cons, List.map_nil]); first | done | rfl | (simp only [List.length_drop, List.length_take]; rfl)) ?_; (with_reducible refine (lin_Form_28.calls (fun k_ => (((P0_1_ k_ ∨ P0_2_ k_) ∨ w.heap.size ≤ k_) ∧ k_ ≠ ag)) _ _ l0_1 aV _ ?side1 bK.out).mono ?_); (case side1 => exact al.out); rintro e cK ⟨a_, rfl, ho0, hb⟩; refine ⟨_, rfl, ?_⟩; replace al := mk0 (Kd.V_elder' (uV al.out) (Kd.N_base ho0) hb); replace am := mk0 (Kd.V_elder' (uV am.out) (Kd.N_base ho0) hb); have ba := mk0 (Kd.N_lower (Kd.N_mono (ok' := fun k_ => ((P0_1_ k_ ∨ P0_2_ k_) ∨ w.heap.size ≤ k_) ∧ k_ ≠ ag) ho0 (fun k_ hk_ => ⟨Or.elim hk_ (fun hs_ => hs_.1) (fun hn_ => (.inr (Nat.le_trans (below_size bH) hn_))), Or.elim hk_ (fun hs_ => hs_.2) (fun hn_ => (Kd.freshB (g := ag) (o := .cells #[.int .i64 a0_0, .slice A0_1 l0_1.length c0_1, .slice A0_2 l0_2.length c0_2] 24 (0, 0)) (uB ac.out) k_ hn_))⟩)) (below_size bH)); replace ac := bB ac hb; replace HB := hbB bH hb; (try clear hb hk ho0); refine hK.out _ _ ⟨(blk_cell ac.out 0).trans rfl, (blk_cell ac.out 1).trans rfl, (blk_cell ac.out 2).trans rfl⟩ (fun hHeld => ?_); clear hK K; refine norm_ (a' := ?_) ?_ ?_; rotate_left
      ·show Act.put _ (some 25) _ = _
       simp only [AP, i64_w, i32_w]; rfl
      refine one_ (i := 5) (N := some 28) (bts 8 191) rfl rfl (one_of HT_.out (by kernel_rfl)) (by decide) (fun K hK => ?_); refine Kd.N_append_rows_step k59 (w0 := w) w.heap.size (by rfl) (.tmp 25) (.tmp 27) 22 59 (.agg #[(.slice none 0 0), (.int .i64 0)]) 32 rfl Tryd.underlying22 info59 rfl (by decide) (by omega) a_ aV l0_2 _ _ _ (fun k_ => ((P0_1_ k_ ∨ P0_2_ k_) ∨ w.heap.size ≤ k_) ∧ k_ ≠ ag) (fun k_ => ((fun k_ => ((P0_1_ k_ ∨ P0_2_ k_) ∨ w.heap.size ≤ k_) ∧ k_ ≠ ag)) k_ ∧ some k_ ≠ (a_ : Value).ownBlock) rfl rfl ?aO ?aR (fun _ hk => hk) ?aF ?aB ?aS ?aL ?_; (case aR => exact (by skip; exact Kd.V_F (vP (ok' := (fun k_ => ((fun k_ => ((P0_1_ k_ ∨ P0_2_ k_) ∨ w.heap.size ≤ k_) ∧ k_ ≠ ag)) k_ ∧ some k_ ≠ (a_ : Value).ownBlock)) am))); (case aB => exact bH); (case aF => exact (fun k_ hk => ⟨(.inr (Nat.le_trans (below_size bH) hk)), fB ac hk⟩)); (case aO => exact (uN ba.out)); (case aS => exact (below_size bH)); (case aL => have := bL.out; omega); intro cL cM ho hb hg hat; rw [← bM.out] at ho; have n0_ := mk0 (Kd.V_afterv (ok := (fun k_ => ((P0_1_ k_ ∨ P0_2_ k_) ∨ w.heap.size ≤ k_) ∧ k_ ≠ ag)) (uV al.out) hg hat); have n1_ := mk0 (Kd.V_afterv (ok := (fun k_ => ((P0_1_ k_ ∨ P0_2_ k_) ∨ w.heap.size ≤ k_) ∧ k_ ≠ ag)) (uV am.out) hg hat); have n2_ := (gB ac hg (Kd.N_ne ba.out ac.out (by decide))); have n3_ := mk0 (hb); have n4_ := mk0 (ho); clear al am ac HB ba; have al := n0_; have am := n1_; have ac := n2_; have HB := n3_; have bs := n4_; clear n0_ n1_ n2_ n3_ n4_; clear ho hb hg hat; obtain ⟨bb, bc, bu⟩ := Kd.N_slice bs.out; (first | subst bu | (injection bu with f1_ f2_ f3_; have f4_ := f1_.symm; have f5_ := f3_.symm; clear f1_ f2_ f3_; subst f4_; subst f5_)); refine hK.out _ _ ⟨(blk_cell ac.out 0).trans rfl, (blk_cell ac.out 1).trans rfl, (blk_cell ac.out 2).trans rfl⟩ (fun hHeld => ?_); clear hK K; refine norm_ (a' := ?_) ?_ ?_; rotate_left
      ·show Act.put _ (some 28) _ = _
       simp only [AP, i64_w, i32_w]; rfl
      refine qA 6 255 ?_; refine done_ (done_of HT_.out (by kernel_rfl)) ?_; (try go_wp2)
      go_loopg [30] kj1 (fun kq bV w' => ∃ (aa : Int), bV = .int .i64 aa ∧ Aside0 (sys_Check.l0 kq ae (ae.length : Int) aa a0_0 l0_1 l0_2 = some r) ∧ Aside0 (kq ≤ kj1) ∧ Aside0 (Kd.N k59 59 w' w.heap.size (fun k_ => ((P0_1_ k_ ∨ P0_2_ k_) ∨ w.heap.size ≤ k_) ∧ k_ ≠ ag) (.slice bb ae.length bc) ae) ∧ Aside0 (Kd.V k59 59 w' w.heap.size (fun k_ => ((P0_1_ k_ ∨ P0_2_ k_) ∨ w.heap.size ≤ k_) ∧ some k_ ≠ ((.slice bb ae.length bc) : Value).ownBlock ∧ k_ ≠ ag) (.slice A0_1 l0_1.length c0_1) l0_1) ∧ Aside0 (Kd.V k59 59 w' w.heap.size (fun k_ => ((P0_1_ k_ ∨ P0_2_ k_) ∨ w.heap.size ≤ k_) ∧ some k_ ≠ ((.slice bb ae.length bc) : Value).ownBlock ∧ k_ ≠ ag) (.slice A0_2 l0_2.length c0_2) l0_2) ∧ Aside0 (w'.heap[ag]? = some (.cells #[.int .i64 a0_0, (.slice A0_1 l0_1.length c0_1), (.slice A0_2 l0_2.length c0_2)] 24 (0, 0))) ∧ Aside0 (Below w.heap.size w w'))
      case atStart => exact ⟨(0), eK, H', ⟨Nat.le_refl _⟩, ⟨uN bs.out⟩, ⟨uV (vP al)⟩, ⟨uV (vP am)⟩, ⟨uB ac.out⟩, ⟨bH⟩⟩
      case round =>
       clear H'; (try clear c7 ay br aM bO bP bQ bR bT bU); obtain ⟨aa, rfl, HA, bv, ak, al, am, ac, HB⟩ := hrel
       cases gk with
       | zero => exact absurd HA.out (by simp [sys_Check.l0])
       | succ k2 =>
        have H := HA.out; clear HA; simp only [sys_Check.l0] at H
        by_cases aJ : aa < (ae.length : Int)
        ·rw [if_pos aJ] at H
         have bW := decide_eq_true aJ; clear aJ
         by_cases aW : 0 ≤ aa
         ·rw [if_pos aW] at H
          have cN := decide_eq_true aW; clear aW
          by_cases aX : aa < (ae.length : Int)
          ·rw [if_pos aX] at H
           have cO := decide_eq_true aX; clear aX
           by_cases az : (((rd_T59 ae aa).f0).length : Int) = a0_0
           ·rw [if_pos az] at H
            have bX : ((((rd_T59 ae aa).f0).length : Int) == a0_0) = true := beq_iff_eq.mpr az; have bY : ((((rd_T59 ae aa).f0).length : Int) != a0_0) = false := bne_eq_false_iff_eq.mpr az; clear az; obtain ⟨bZ, bd, H⟩ := oB H
            by_cases aY : bZ = true
            ·subst aY
             replace H := iT H; obtain ⟨b3, b4, H⟩ := oB H; obtain rfl := Option.some.inj H; have ah : 0 ≤ (aa : Int) := dY; have ai : aa < (ae.length : Int) := dY; obtain ⟨bf, aw, ax, aA, aC, bg, aq, ar⟩ := at_T59 (Kd.N_reads' ak.out).2.2 aa ah ai
             cases aA
             obtain ⟨bh, aD, aE, au⟩ := Kd.N_get ak.out z59 aa ah (by first | exact ai | exact dY | (have e_ := (Kd.N_reads' ak.out).1; omega)); obtain ⟨bi, bj, rfl, ao, ap⟩ := k59_openF aE; have aj := au 0 _ rfl; rw [Nat.add_zero] at aj; replace aj := Option.some.inj (aj.symm.trans aC); injection aj with hva_ hvn_ hvc_; rw [hva_] at ap; rw [hvc_] at ao; have av := mk0 (show Kd.V (Kd.int .i64) 2 _ w.heap.size _ _ ((rd_T59 ae aa).f0) from Kd.V_mk ao ap); clear hva_ hvn_ hvc_ ap ao; clear au aD; have bk := mk0 ar; have aN := mk0 aq; clear ar aq; replace ah := eq_true ah; replace ai := eq_true ai
             go_wp2_with (first | ((with_reducible refine gate_dst (N := 4) rfl ?_); refine bxE 4 #[.slice none 0 0, .int .i64 0] 59 ?_; intro af hg cP hbox hb; have aG := mk0 (hbox); have bl := gE bH hg; have bm := gE bH hg; replace HB := hbB bH hb; have aH := nL ac hg; have aI := nG ac hg; replace ac := bB ac hb; clear hb hbox hg; have cQ := aI.out; have cR := aH.out; obtain ⟨cS, cT, cU, cV⟩ := cL2 aG; obtain ⟨cW, cX, cY, cZ, c_, da⟩ := cL3 ac) | ((with_reducible refine gate_dst (N := 47) rfl ?_); refine gsM (some 47) Tryd.func29 #[.int .i64 ((rd_T59 ae aa).f1)] ?_; (with_reducible refine (sys_large.calls ((rd_T59 ae aa).f1) true _ bd.out).mono ?_); rintro e w' ⟨rfl, ⟨nd, rfl⟩⟩; refine ⟨_, rfl, ?_⟩) | ((with_reducible refine gate_dst (N := 54) rfl ?_); refine gsM (some 54) Tryd.func27 #[.int .i64 aa, .int .i64 5] ?_; (with_reducible refine (sys_fault.calls aa 5 b3 _ b4.out).mono ?_); rintro e db ⟨b5, rfl, ho0, hb⟩; refine ⟨_, rfl, ?_⟩; have bn := mk0 (Kd.R_lower (Kd.R_newM (M := fun k_ => (w.heap.size ≤ k_)) ho0 (below_size bH) (fun k_ h_ => h_)) (below_size bH)); replace HB := hbB bH hb; (try clear hb hk ho0); (first | (have b6 := cmpV_no bn.out (by with_reducible assumption)) | (have b6 := cmpV_yes bn.out (by with_reducible assumption)) | skip)))
             go_ret; exact ⟨(b5), rE, uR (Kd.R_mono bn.out (fun _ hk => hk.1)), bH⟩
            ·replace aY := Bool.eq_false_iff.mpr aY
             subst aY; replace H := iF H; obtain ⟨b7, bw, H⟩ := oB H
             by_cases aZ : b7 = true
             ·subst aZ
              replace H := iT H; obtain ⟨b8, b9, H⟩ := oB H; obtain rfl := Option.some.inj H; have ah : 0 ≤ (aa : Int) := dY; have ai : aa < (ae.length : Int) := dY; obtain ⟨bf, aw, ax, aA, aC, bg, aq, ar⟩ := at_T59 (Kd.N_reads' ak.out).2.2 aa ah ai
              cases aA
              obtain ⟨bh, aD, aE, au⟩ := Kd.N_get ak.out z59 aa ah (by first | exact ai | exact dY | (have e_ := (Kd.N_reads' ak.out).1; omega)); obtain ⟨bi, bj, rfl, ao, ap⟩ := k59_openF aE; have aj := au 0 _ rfl; rw [Nat.add_zero] at aj; replace aj := Option.some.inj (aj.symm.trans aC); injection aj with hva_ hvn_ hvc_; rw [hva_] at ap; rw [hvc_] at ao; have av := mk0 (show Kd.V (Kd.int .i64) 2 _ w.heap.size _ _ ((rd_T59 ae aa).f0) from Kd.V_mk ao ap); clear hva_ hvn_ hvc_ ap ao; clear au aD; have bk := mk0 ar; have aN := mk0 aq; clear ar aq; replace ah := eq_true ah; replace ai := eq_true ai
              go_wp2_with (first | ((with_reducible refine gate_dst (N := 4) rfl ?_); refine bxE 4 #[.slice none 0 0, .int .i64 0] 59 ?_; intro af hg dc hbox hb; replace av := vD av af hg hb; have aG := mk0 (hbox); have bl := gE bH hg; have bm := gE bH hg; replace HB := hbB bH hb; have aH := nL ac hg; have aI := nG ac hg; replace ac := bB ac hb; clear hb hbox hg; have dd := aI.out; have de := aH.out; obtain ⟨df, dg, dh, di⟩ := cL2 aG; obtain ⟨dj, dk, dl, dn, dp, dq⟩ := cL3 ac) | ((with_reducible refine gate_dst (N := 47) rfl ?_); refine gsM (some 47) Tryd.func29 #[.int .i64 ((rd_T59 ae aa).f1)] ?_; (with_reducible refine (sys_large.calls ((rd_T59 ae aa).f1) false _ bd.out).mono ?_); rintro e w' ⟨rfl, ⟨nd, rfl⟩⟩; refine ⟨_, rfl, ?_⟩) | (go_at_call 30; (with_reducible refine (slices_ContainsFunc_int64_int64.calls k2 _ _ ((rd_T59 ae aa).f0) true _ ?side1 ?side2 bw.out).mono ?_); (case side1 => exact ((Kd.V_reads' (uV (Kd.V_mono (Kd.V_far (p := ⟨af, 1, none⟩) (Kd.V_far (p := ⟨af, 0, none⟩) (Kd.V_mono av.out (fun k_ hk => (⟨hk, hk.2⟩ : _ ∧ k_ ≠ af))) (fun _ hk => hk.2) (.slice aw ((rd_T59 ae aa).f0).length ax)) (fun _ hk => hk.2) (.int .i64 ((rd_T59 ae aa).f1))) (fun _ h_ => h_.1)))).2.2)); (case side2 => exact aN.out); rintro e dr ⟨rfl, hb⟩; replace HB := hbB bH hb; (try clear hb hk); clear ak al am) | ((with_reducible refine gate_dst (N := 54) rfl ?_); refine gsM (some 54) Tryd.func27 #[.int .i64 aa, .int .i64 5] ?_; (with_reducible refine (sys_fault.calls aa 5 b8 _ b9.out).mono ?_); rintro e dt ⟨ca, rfl, ho0, hb⟩; refine ⟨_, rfl, ?_⟩; have bo := mk0 (Kd.R_lower (Kd.R_newM (M := fun k_ => (w.heap.size ≤ k_)) ho0 (below_size bH) (fun k_ h_ => h_)) (below_size bH)); replace HB := hbB bH hb; (try clear hb hk ho0); (first | (have cd := cmpV_no bo.out (by with_reducible assumption)) | (have cd := cmpV_yes bo.out (by with_reducible assumption)) | skip)))
              go_ret; exact ⟨(ca), rE, uR (Kd.R_mono bo.out (fun _ hk => hk.1)), bH⟩
             ·replace aZ := Bool.eq_false_iff.mpr aZ
              subst aZ; replace H := iF H; have H' := mk0 H; clear H; have ah : 0 ≤ (aa : Int) := dY; have ai : aa < (ae.length : Int) := dY; obtain ⟨bf, aw, ax, aA, aC, bg, aq, ar⟩ := at_T59 (Kd.N_reads' ak.out).2.2 aa ah ai
              cases aA
              obtain ⟨bh, aD, aE, au⟩ := Kd.N_get ak.out z59 aa ah (by first | exact ai | exact dY | (have e_ := (Kd.N_reads' ak.out).1; omega)); obtain ⟨bi, bj, rfl, ao, ap⟩ := k59_openF aE; have aj := au 0 _ rfl; rw [Nat.add_zero] at aj; replace aj := Option.some.inj (aj.symm.trans aC); injection aj with hva_ hvn_ hvc_; rw [hva_] at ap; rw [hvc_] at ao; have av := mk0 (show Kd.V (Kd.int .i64) 2 _ w.heap.size _ _ ((rd_T59 ae aa).f0) from Kd.V_mk ao ap); clear hva_ hvn_ hvc_ ap ao; clear au aD; have bk := mk0 ar; have aN := mk0 aq; clear ar aq; replace ah := eq_true ah; replace ai := eq_true ai
              go_wp2_with (first | ((with_reducible refine gate_dst (N := 4) rfl ?_); refine bxE 4 #[.slice none 0 0, .int .i64 0] 59 ?_; intro af hg du hbox hb; replace ak := nD ak af hg hb; replace al := vD al af hg hb; replace am := vD am af hg hb; replace av := vD av af hg hb; have aG := mk0 (hbox); have bl := gE bH hg; have bm := gE bH hg; replace HB := hbB bH hb; have aH := nL ac hg; have aI := nG ac hg; replace ac := bB ac hb; clear hb hbox hg; have dv := aI.out; have dw := aH.out; obtain ⟨dx, dy, dz, dA⟩ := cL2 aG; obtain ⟨dB, dC, dD, dE, dF, dG⟩ := cL3 ac) | ((with_reducible refine gate_dst (N := 47) rfl ?_); refine gsM (some 47) Tryd.func29 #[.int .i64 ((rd_T59 ae aa).f1)] ?_; (with_reducible refine (sys_large.calls ((rd_T59 ae aa).f1) false _ bd.out).mono ?_); rintro e w' ⟨rfl, ⟨nd, rfl⟩⟩; refine ⟨_, rfl, ?_⟩) | (go_at_call 30; (with_reducible refine (slices_ContainsFunc_int64_int64.calls k2 _ _ ((rd_T59 ae aa).f0) false _ ?side1 ?side2 bw.out).mono ?_); (case side1 => exact ((Kd.V_reads' (uV (Kd.V_mono (Kd.V_far (p := ⟨af, 1, none⟩) (Kd.V_far (p := ⟨af, 0, none⟩) (Kd.V_mono av.out (fun k_ hk => (⟨hk, hk.2⟩ : _ ∧ k_ ≠ af))) (fun _ hk => hk.2) (.slice aw ((rd_T59 ae aa).f0).length ax)) (fun _ hk => hk.2) (.int .i64 ((rd_T59 ae aa).f1))) (fun _ h_ => h_.1)))).2.2)); (case side2 => exact aN.out); rintro e dH ⟨rfl, hb⟩; replace ak := mk0 (Kd.N_below (uN (Kd.N_mono (Kd.N_far (p := ⟨af, 1, none⟩) (Kd.N_far (p := ⟨af, 0, none⟩) (Kd.N_mono ak.out (fun k_ hk => (⟨hk, hk.2⟩ : _ ∧ k_ ≠ af))) (fun _ hk => hk.2) (.slice aw ((rd_T59 ae aa).f0).length ax)) (fun _ hk => hk.2) (.int .i64 ((rd_T59 ae aa).f1))) (fun _ h_ => h_.1))) hb); replace al := mk0 (Kd.V_below (uV (Kd.V_mono (Kd.V_far (p := ⟨af, 1, none⟩) (Kd.V_far (p := ⟨af, 0, none⟩) (Kd.V_mono al.out (fun k_ hk => (⟨hk, hk.2⟩ : _ ∧ k_ ≠ af))) (fun _ hk => hk.2) (.slice aw ((rd_T59 ae aa).f0).length ax)) (fun _ hk => hk.2) (.int .i64 ((rd_T59 ae aa).f1))) (fun _ h_ => h_.1))) hb); replace am := mk0 (Kd.V_below (uV (Kd.V_mono (Kd.V_far (p := ⟨af, 1, none⟩) (Kd.V_far (p := ⟨af, 0, none⟩) (Kd.V_mono am.out (fun k_ hk => (⟨hk, hk.2⟩ : _ ∧ k_ ≠ af))) (fun _ hk => hk.2) (.slice aw ((rd_T59 ae aa).f0).length ax)) (fun _ hk => hk.2) (.int .i64 ((rd_T59 ae aa).f1))) (fun _ h_ => h_.1))) hb); replace ac := mk0 (blk_below (g := ag) (o := .cells #[.int .i64 a0_0, .slice A0_1 l0_1.length c0_1, .slice A0_2 l0_2.length c0_2] 24 (0, 0)) (kB) hb); replace HB := hbB bH hb; (try clear hb hk); ))
              go_roundg k2
              case measure => have := bq.out; have := bv.out; omega
              case rel => exact ⟨(wrap64 (aa + 1)), eK, H', ⟨by have := bq.out; have := bv.out; omega⟩, ⟨uN (nP ak)⟩, ⟨uV (vP al)⟩, ⟨uV (vP am)⟩, ⟨uB ac.out⟩, ⟨bH⟩⟩
           ·rw [if_neg az] at H
            have bX : ((((rd_T59 ae aa).f0).length : Int) == a0_0) = false := beq_eq_false_iff_ne.mpr az; have bY : ((((rd_T59 ae aa).f0).length : Int) != a0_0) = true := bne_iff_ne.mpr az; obtain ⟨ce, cf, H⟩ := oB H; obtain rfl := Option.some.inj H; have ah : 0 ≤ (aa : Int) := dY; have ai : aa < (ae.length : Int) := dY; obtain ⟨bf, aw, ax, aA, aC, bg, aq, ar⟩ := at_T59 (Kd.N_reads' ak.out).2.2 aa ah ai
            cases aA
            obtain ⟨bh, aD, aE, au⟩ := Kd.N_get ak.out z59 aa ah (by first | exact ai | exact dY | (have e_ := (Kd.N_reads' ak.out).1; omega)); obtain ⟨bi, bj, rfl, ao, ap⟩ := k59_openF aE; have aj := au 0 _ rfl; rw [Nat.add_zero] at aj; replace aj := Option.some.inj (aj.symm.trans aC); injection aj with hva_ hvn_ hvc_; rw [hva_] at ap; rw [hvc_] at ao; have av := mk0 (show Kd.V (Kd.int .i64) 2 _ w.heap.size _ _ ((rd_T59 ae aa).f0) from Kd.V_mk ao ap); clear hva_ hvn_ hvc_ ap ao; clear au aD; have bk := mk0 ar; have aN := mk0 aq; clear ar aq; replace ah := eq_true ah; replace ai := eq_true ai
            go_wp2_with (first | ((with_reducible refine gate_dst (N := 4) rfl ?_); refine bxE 4 #[.slice none 0 0, .int .i64 0] 59 ?_; intro af hg dI hbox hb; have aG := mk0 (hbox); have bl := gE bH hg; have bm := gE bH hg; replace HB := hbB bH hb; have aH := nL ac hg; have aI := nG ac hg; replace ac := bB ac hb; clear hb hbox hg; have dJ := aI.out; have dK := aH.out; obtain ⟨dL, dM, dN, dO⟩ := cL2 aG; obtain ⟨dP, dQ, dR, dS, dT, dU⟩ := cL3 ac) | ((with_reducible refine gate_dst (N := 43) rfl ?_); refine gsM (some 43) Tryd.func27 #[.int .i64 aa, .int .i64 1] ?_; (with_reducible refine (sys_fault.calls aa 1 ce _ cf.out).mono ?_); rintro e dV ⟨cg, rfl, ho0, hb⟩; refine ⟨_, rfl, ?_⟩; have bp := mk0 (Kd.R_lower (Kd.R_newM (M := fun k_ => (w.heap.size ≤ k_)) ho0 (below_size bH) (fun k_ h_ => h_)) (below_size bH)); replace HB := hbB bH hb; (try clear hb hk ho0); (first | (have ch := cmpV_no bp.out (by with_reducible assumption)) | (have ch := cmpV_yes bp.out (by with_reducible assumption)) | skip)))
            go_ret; exact ⟨(cg), rE, uR (Kd.R_mono bp.out (fun _ hk => hk.1)), bH⟩
          ·exact nO H aX
         ·exact nO H aW
        ·rw [if_neg aJ] at H
         have bW := decide_eq_false aJ; clear aJ; obtain rfl := Option.some.inj H; go_wp2; go_ret; exact ⟨(.slice none 0 0), rE, nK, bH⟩
     ·exact nO H aM

end Go.Proofs.YtkkpgjkjkcmcbaaDoor.X
