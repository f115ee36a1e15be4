-- PRINTED by print.py (a twelfth state) out of the translation. Not trusted: Lean checks it.
import Derived.Test.YtmhkijidnpihmaaDoorXx0
namespace Go.Proofs.YtmhkijidnpihmaaDoor.X
open Go.Proofs.YtmhkijidnpihmaaDoor.Flt Go.Proofs.YtmhkijidnpihmaaDoor.H Go.RowKit Go.Proofs.YtmhkijidnpihmaaDoorW.PrintWords Go.Proofs.YtmhkijidnpihmaaDoorW.PrintLast Go.Proofs.YtmhkijidnpihmaaDoorW.PrintMore
attribute [local go_sem] max2_int min2_int max_two min_two max_three min_three max_four min_four   -- for this text's walks alone
set_option linter.unusedVariables false
set_option linter.unusedSimpArgs false

/-! ### furrowref10_Table_Find: function 25 -/
def furrowref10_Table_Find.l0 : Nat → ByteArray → Int → List (S71) → Int → Option (ByteArray × List Int × Int × Int × Bool)
 | 0, _, _, _, _ => none
 | k + 1, x1, x6, x299000, x299001 => if x6 < (x299000.length : Int) then (if 0 ≤ x6 then (if ((rd_T71 x299000 x6).f0).toList = x1.toList then (some ((rd_T71 x299000 x6).f0, (rd_T71 x299000 x6).f1, (rd_T71 x299000 x6).f2, (rd_T71 x299000 x6).f3, true)) else (furrowref10_Table_Find.l0 k x1 (wrap64 (x6 + 1)) x299000 x299001)) else (none)) else (some ((⟨#[]⟩ : ByteArray), ([] : List Int), 0, 0, false))
def furrowref10_Table_Find.f (k : Nat) (l0_0 : List (S71)) (a0_1 : Int) (a1 : ByteArray) : Option (ByteArray × List Int × Int × Int × Bool) := furrowref10_Table_Find.l0 k a1 0 l0_0 a0_1
theorem furrowref10_Table_Find.mono_l : ∀ k, (∀ y0 y1 y2 y3, LeO (furrowref10_Table_Find.l0 k y0 y1 y2 y3) (furrowref10_Table_Find.l0 (k + 1) y0 y1 y2 y3))
 | 0 => fun _ _ _ _ r h => by simp [furrowref10_Table_Find.l0] at h
 | k + 1 => by
  have ih0 := furrowref10_Table_Find.mono_l k
  ·intro y0 y1 y2 y3
   unfold furrowref10_Table_Find.l0
   repeat' first
   | (with_reducible exact ih0 _ _ _ _)
   | (with_reducible exact LeO.refl _)
   | (with_reducible exact LeO.none _)
   | (with_reducible refine LeO.ite ?_ ?_)
   | (with_reducible refine LeO.bind ?_ (fun _ => ?_))
   | exact ih0 _ _ _ _
   | exact LeO.none _
   | refine LeO.ite ?_ ?_
   | refine LeO.bind ?_ (fun _ => ?_)
theorem furrowref10_Table_Find.mono : ∀ a0 a1 a2 k, LeO (furrowref10_Table_Find.f k a0 a1 a2) (furrowref10_Table_Find.f (k + 1) a0 a1 a2) := by
 intro a0 a1 a2 k
 have ih0 := furrowref10_Table_Find.mono_l k
 unfold furrowref10_Table_Find.f
 repeat' first
   | (with_reducible exact ih0 _ _ _ _)
   | (with_reducible exact LeO.refl _)
   | (with_reducible exact LeO.none _)
   | (with_reducible refine LeO.ite ?_ ?_)
   | (with_reducible refine LeO.bind ?_ (fun _ => ?_))
   | exact ih0 _ _ _ _
   | exact LeO.none _
   | refine LeO.ite ?_ ?_
   | refine LeO.bind ?_ (fun _ => ?_)
set_option maxHeartbeats 8000000 in
set_option maxRecDepth 100000 in
theorem furrowref10_Table_Find.calls (k : Nat) (P0_0_ : Nat → Prop) (A0_0 : Option Addr) (c0_0 : Nat) (l0_0 : List (S71)) (a0_1 : Int) (a1 : ByteArray) (r1 : ByteArray) (r2 : List Int) (r3 : Int) (r4 : Int) (r5 : Bool) (w : World) (hs0_0 : Kd.V k71 71 w w.heap.size (fun k_ => P0_0_ k_) (.slice A0_0 l0_0.length c0_0) l0_0) (h : furrowref10_Table_Find.f k l0_0 a0_1 a1 = some (r1, r2, r3, r4, r5)) :
  Calls Tryd.prog 25 #[.agg #[.slice A0_0 l0_0.length c0_0, .int .i64 a0_1], .string a1] w fun e w' => ∃ v1_ : Value, e = .returned (.tuple #[.agg #[.string r1, v1_, .int .i64 r3, .int .i64 r4], .bool r5]) ∧ Kd.V (Kd.int .i64) 2 w' w.heap.size (fun k_ => (P0_0_ k_ ∨ w.heap.size ≤ k_)) v1_ r2 ∧ Below w.heap.size w w' := by
 have hu29 := Tryd.underlying29
 have hu71 := Tryd.underlying71
 have aj := mk0 (show Kd.V k71 71 w w.heap.size (fun k_ => (P0_0_ k_ ∨ w.heap.size ≤ k_)) (.slice A0_0 l0_0.length c0_0) l0_0 from Kd.V_mono hs0_0 (fun k_ hk => .inl hk))
 have HB := mk0 (Below.refl w.heap.size w)
 have H : (furrowref10_Table_Find.l0 k a1 0 l0_0 a0_1) = some (r1, r2, r3, r4, r5) := h
 clear h
 have H' := mk0 H
 clear H
 go_enter Tryd.func25, Tryd.ntmps25
 go_wp2_with (first | ((with_reducible refine gate_dst (N := 2) rfl ?_); refine bxE 2 #[.slice A0_0 l0_0.length c0_0, .int .i64 a0_1] 29 ?_; intro av hg w3 hbox hb; replace aj := vD aj av hg hb; have aa := mk0 (hbox); have bm := gE (uL HB.out) hg; have bn := gE (uL HB.out) hg; replace HB := hbB (uL HB.out) hb; clear hb hbox hg) | ((with_reducible refine gate_dst (N := 4) rfl ?_); refine bxE 4 #[.string (⟨#[]⟩ : ByteArray), .slice none 0 0, .int .i64 0, .int .i64 0] 71 ?_; intro ab hg w4 hbox hb; replace aj := vD aj ab hg hb; have ak := mk0 (hbox); have bo := gE bH hg; have bp := gE bH hg; replace HB := hbB bH hb; have aw := nL aa hg; have ax := nG aa hg; replace aa := bB aa hb; clear hb hbox hg))
 go_loopg [6] k (fun kq v6 w' => ∃ (x6_1 : Int) (ay : ByteArray) (az : Int) (aA : Int), v6 = .int .i64 x6_1 ∧ Aside0 (furrowref10_Table_Find.l0 kq a1 x6_1 l0_0 a0_1 = some (r1, r2, r3, r4, r5)) ∧ Aside0 (kq ≤ k) ∧ Aside0 (Kd.V k71 71 w' w.heap.size (fun k_ => (P0_0_ k_ ∨ w.heap.size ≤ k_) ∧ k_ ≠ av ∧ k_ ≠ ab) (.slice A0_0 l0_0.length c0_0) l0_0) ∧ Aside0 (w'.heap[av]? = some (.cells #[(.slice A0_0 l0_0.length c0_0), .int .i64 a0_1] 29 (0, 0))) ∧ Aside0 (w'.heap[ab]? = some (.cells #[.string ay, (.slice none 0 0), .int .i64 az, .int .i64 aA] 71 (0, 0))) ∧ Aside0 (Below w.heap.size w w'))
 case atStart => exact ⟨(0), ((⟨#[]⟩ : ByteArray)), (0), (0), eK, H', ⟨Nat.le_refl _⟩, ⟨uV (vP aj)⟩, ⟨uB aa.out⟩, ⟨uB ak.out⟩, ⟨bH⟩⟩
 case round =>
  clear H'; obtain ⟨x6_1, ay, az, aA, rfl, HA, aK, ac, aa, ak, HB⟩ := hrel
  cases gk with
  | zero => exact absurd HA.out (by simp [furrowref10_Table_Find.l0])
  | succ k1 =>
   have H := HA.out; clear HA; simp only [furrowref10_Table_Find.l0] at H
   by_cases c5 : x6_1 < (l0_0.length : Int)
   ·rw [if_pos c5] at H
    have aV := decide_eq_true c5; clear c5
    by_cases c6 : 0 ≤ x6_1
    ·rw [if_pos c6] at H
     have bq := decide_eq_true c6; clear c6
     by_cases c7 : ((rd_T71 l0_0 x6_1).f0).toList = a1.toList
     ·rw [if_pos c7] at H
      have aW : (((rd_T71 l0_0 x6_1).f0).toList == a1.toList) = true := beq_iff_eq.mpr c7; have aX : (((rd_T71 l0_0 x6_1).f0).toList != a1.toList) = false := bne_eq_false_iff_eq.mpr c7; clear c7; simp only [Option.some.injEq, Prod.mk.injEq] at H; obtain ⟨rfl, rfl, rfl, rfl, rfl⟩ := H; have br := aw.out; have bs := ax.out; obtain ⟨bu, bv, bw, bx⟩ := cL2 aa; have ae : 0 ≤ (x6_1 : Int) := dY; have af : x6_1 < (l0_0.length : Int) := dY; obtain ⟨aM, aC, aD, aE, aY, ap, aZ, a_, al, am⟩ := at_T71 (Kd.V_reads' ac.out).2.2 x6_1 ae af
      cases aE
      obtain ⟨ba, aG, aH, ao⟩ := Kd.V_get ac.out z71 x6_1 ae (by first | exact af | exact dY | (have e_ := (Kd.V_reads' ac.out).1; omega)); obtain ⟨bb, bc, rfl, ah, ai⟩ := k71_openF aH; have ag := ao 1 _ rfl; rw [add_field _ _ 1 (by omega)] at ag; replace ag := Option.some.inj (ag.symm.trans ap); injection ag with hva_ hvn_ hvc_; rw [hva_] at ai; rw [hvc_] at ah; have bd := mk0 (show Kd.V (Kd.int .i64) 2 _ w.heap.size _ _ ((rd_T71 l0_0 x6_1).f1) from Kd.V_mk ah ai); clear hva_ hvn_ hvc_ ai ah; clear ao aG; have bf := mk0 am; have bg := mk0 al; clear am al; replace ae := eq_true ae; replace af := eq_true af; have aq : 0 ≤ (x6_1 : Int) := dY; have ar : x6_1 < (l0_0.length : Int) := dY; obtain ⟨bh, bz, bC, bi, bE, aN, bF, bG, aQ, aT⟩ := at_T71 (Kd.V_reads' ac.out).2.2 x6_1 aq ar; obtain rfl : aM = bh := (by injection bi); obtain ⟨bI, bj, bk, aU⟩ := Kd.V_get ac.out z71 x6_1 aq (by first | exact ar | exact dY | (have e_ := (Kd.V_reads' ac.out).1; omega)); obtain ⟨bJ, bK, rfl, aI, aJ⟩ := k71_openF bk; have au := aU 1 _ rfl; rw [add_field _ _ 1 (by omega)] at au; replace au := Option.some.inj (au.symm.trans aN); injection au with hva_ hvn_ hvc_; rw [hva_] at aJ; rw [hvc_] at aI; have bl := mk0 (show Kd.V (Kd.int .i64) 2 _ w.heap.size _ _ ((rd_T71 l0_0 x6_1).f1) from Kd.V_mk aI aJ); clear hva_ hvn_ hvc_ aJ aI; clear aU bj; have bL := mk0 aT; have bM := mk0 aQ; clear aT aQ; replace aq := eq_true aq; replace ar := eq_true ar; have ea_ := Option.some.inj (ap.symm.trans aN); injection ea_ with ea_ en_ ec_; subst ea_; subst ec_; clear en_; obtain ⟨bO, bP, bQ, bR, bT, bU, bV, bW⟩ := cL4 ak; go_wp2; refine bodyPost_ret (results_ct rfl _ _ ab 71 #[.string ((rd_T71 l0_0 x6_1).f0), .slice aC ((rd_T71 l0_0 x6_1).f1).length aD, .int .i64 ((rd_T71 l0_0 x6_1).f2), .int .i64 ((rd_T71 l0_0 x6_1).f3)] (0, 0) _ rfl (kB) Tryd.underlying71 rfl (by kernel_rfl)) rfl ?_; exact ⟨_, rE, uV (Kd.V_mono (Kd.V_far (p := ⟨ab, 3, none⟩) (Kd.V_far (p := ⟨ab, 2, none⟩) (Kd.V_far (p := ⟨ab, 1, none⟩) (Kd.V_far (p := ⟨ab, 0, none⟩) (Kd.V_mono bl.out (fun k_ hk => (⟨hk, hk.2.2⟩ : _ ∧ k_ ≠ ab))) (fun _ hk => hk.2) (.string ((rd_T71 l0_0 x6_1).f0))) (fun _ hk => hk.2) (.slice aC ((rd_T71 l0_0 x6_1).f1).length aD)) (fun _ hk => hk.2) (.int .i64 ((rd_T71 l0_0 x6_1).f2))) (fun _ hk => hk.2) (.int .i64 ((rd_T71 l0_0 x6_1).f3))) (fun _ hk => hk.1.1)), bH⟩
     ·rw [if_neg c7] at H
      have aW : (((rd_T71 l0_0 x6_1).f0).toList == a1.toList) = false := beq_eq_false_iff_ne.mpr c7; have aX : (((rd_T71 l0_0 x6_1).f0).toList != a1.toList) = true := bne_iff_ne.mpr c7; have H' := mk0 H; clear H; have bX := aw.out; have bY := ax.out; obtain ⟨bZ, b3, b4, b5⟩ := cL2 aa; have ae : 0 ≤ (x6_1 : Int) := dY; have af : x6_1 < (l0_0.length : Int) := dY; obtain ⟨aM, aC, aD, aE, aY, ap, aZ, a_, al, am⟩ := at_T71 (Kd.V_reads' ac.out).2.2 x6_1 ae af
      cases aE
      obtain ⟨ba, aG, aH, ao⟩ := Kd.V_get ac.out z71 x6_1 ae (by first | exact af | exact dY | (have e_ := (Kd.V_reads' ac.out).1; omega)); obtain ⟨bb, bc, rfl, ah, ai⟩ := k71_openF aH; have ag := ao 1 _ rfl; rw [add_field _ _ 1 (by omega)] at ag; replace ag := Option.some.inj (ag.symm.trans ap); injection ag with hva_ hvn_ hvc_; rw [hva_] at ai; rw [hvc_] at ah; have bd := mk0 (show Kd.V (Kd.int .i64) 2 _ w.heap.size _ _ ((rd_T71 l0_0 x6_1).f1) from Kd.V_mk ah ai); clear hva_ hvn_ hvc_ ai ah; clear ao aG; have bf := mk0 am; have bg := mk0 al; clear am al; replace ae := eq_true ae; replace af := eq_true af; go_wp2
      go_roundg k1
      case measure => have := aK.out; omega
      case rel => exact ⟨(wrap64 (x6_1 + 1)), (ay), (az), (aA), eK, H', ⟨by have := aK.out; omega⟩, ⟨uV ac.out⟩, ⟨uB aa.out⟩, ⟨uB ak.out⟩, ⟨bH⟩⟩
    ·exact nO H c6
   ·rw [if_neg c5] at H
    have aV := decide_eq_false c5; clear c5; simp only [Option.some.injEq, Prod.mk.injEq] at H; obtain ⟨rfl, rfl, rfl, rfl, rfl⟩ := H; have b6 := aw.out; have b7 := ax.out; obtain ⟨b8, b9, ca, cb⟩ := cL2 aa; obtain ⟨cd, ce, cf, cg, ch, ci, cj, ck⟩ := cL4 ak; go_wp2; refine bodyPost_ret (results_ct rfl _ _ ab 71 #[.string (⟨#[]⟩ : ByteArray), .slice none 0 0, .int .i64 0, .int .i64 0] (0, 0) _ rfl (kB) Tryd.underlying71 rfl (by kernel_rfl)) rfl ?_; exact ⟨_, rE, (Kd.V_nil _ _ _ _ _), bH⟩

end Go.Proofs.YtmhkijidnpihmaaDoor.X
