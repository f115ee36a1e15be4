-- PRINTED by print.py (a twelfth state) out of the translation. Not trusted: Lean checks it.
import Derived.Test.YtnkckdbjeemjeaaGreatDoorXx0
namespace Go.Proofs.YtnkckdbjeemjeaaGreatDoor.X
open Go.Proofs.YtnkckdbjeemjeaaGreatDoor.Flt Go.Proofs.YtnkckdbjeemjeaaGreatDoor.H Go.RowKit Go.Proofs.YtnkckdbjeemjeaaGreatDoorW.PrintWords Go.Proofs.YtnkckdbjeemjeaaGreatDoorW.PrintLast Go.Proofs.YtnkckdbjeemjeaaGreatDoorW.PrintMore
attribute [local go_sem] max2_int min2_int max_two min_two max_three min_three max_four min_four   -- for this text's walks alone
set_option linter.unusedVariables false
set_option linter.unusedSimpArgs false

/-! ### furrowref10_Table_Find: function 59 -/
def furrowref10_Table_Find.l0 : Nat → ByteArray → Int → List (S52) → Int → Option (ByteArray × List Int × Int × Int × Bool)
 | 0, _, _, _, _ => none
 | k + 1, x1, x6, x806000, x806001 => if x6 < (x806000.length : Int) then (if 0 ≤ x6 then (if ((rd_T52 x806000 x6).f0).toList = x1.toList then (some ((rd_T52 x806000 x6).f0, (rd_T52 x806000 x6).f1, (rd_T52 x806000 x6).f2, (rd_T52 x806000 x6).f3, true)) else (furrowref10_Table_Find.l0 k x1 (wrap64 (x6 + 1)) x806000 x806001)) else (none)) else (some ((⟨#[]⟩ : ByteArray), ([] : List Int), 0, 0, false))
def furrowref10_Table_Find.f (k : Nat) (l0_0 : List (S52)) (a0_1 : Int) (a1 : ByteArray) : Option (ByteArray × List Int × Int × Int × Bool) := furrowref10_Table_Find.l0 k a1 0 l0_0 a0_1
theorem furrowref10_Table_Find.mono_l : ∀ k, (∀ y0 y1 y2 y3, LeO (furrowref10_Table_Find.l0 k y0 y1 y2 y3) (furrowref10_Table_Find.l0 (k + 1) y0 y1 y2 y3))
 | 0 => fun _ _ _ _ r h => by simp [furrowref10_Table_Find.l0] at h
 | k + 1 => by
  have ih0 := furrowref10_Table_Find.mono_l k
  ·intro y0 y1 y2 y3
   unfold furrowref10_Table_Find.l0
   repeat' first
   | (with_reducible exact ih0 _ _ _ _)
   | (with_reducible exact LeO.refl _)
   | (with_reducible exact LeO.none _)
   | (with_reducible refine LeO.ite ?_ ?_)
   | (with_reducible refine LeO.bind ?_ (fun _ => ?_))
   | exact ih0 _ _ _ _
   | exact LeO.none _
   | refine LeO.ite ?_ ?_
   | refine LeO.bind ?_ (fun _ => ?_)
theorem furrowref10_Table_Find.mono : ∀ a0 a1 a2 k, LeO (furrowref10_Table_Find.f k a0 a1 a2) (furrowref10_Table_Find.f (k + 1) a0 a1 a2) := by
 intro a0 a1 a2 k
 have ih0 := furrowref10_Table_Find.mono_l k
 unfold furrowref10_Table_Find.f
 repeat' first
   | (with_reducible exact ih0 _ _ _ _)
   | (with_reducible exact LeO.refl _)
   | (with_reducible exact LeO.none _)
   | (with_reducible refine LeO.ite ?_ ?_)
   | (with_reducible refine LeO.bind ?_ (fun _ => ?_))
   | exact ih0 _ _ _ _
   | exact LeO.none _
   | refine LeO.ite ?_ ?_
   | refine LeO.bind ?_ (fun _ => ?_)
set_option maxHeartbeats 8000000 in
set_option maxRecDepth 100000 in
theorem furrowref10_Table_Find.calls (k : Nat) (P0_0_ : Nat → Prop) (A0_0 : Option Addr) (c0_0 : Nat) (l0_0 : List (S52)) (a0_1 : Int) (a1 : ByteArray) (r1 : ByteArray) (r2 : List Int) (r3 : Int) (r4 : Int) (r5 : Bool) (w : World) (hs0_0 : Kd.V k52 52 w w.heap.size (fun k_ => P0_0_ k_) (.slice A0_0 l0_0.length c0_0) l0_0) (h : furrowref10_Table_Find.f k l0_0 a0_1 a1 = some (r1, r2, r3, r4, r5)) :
  Calls Tryz.prog 59 #[.agg #[.slice A0_0 l0_0.length c0_0, .int .i64 a0_1], .string a1] w fun e w' => ∃ v1_ : Value, e = .returned (.tuple #[.agg #[.string r1, v1_, .int .i64 r3, .int .i64 r4], .bool r5]) ∧ Kd.V (Kd.int .i64) 2 w' w.heap.size (fun k_ => (P0_0_ k_ ∨ w.heap.size ≤ k_)) v1_ r2 ∧ Below w.heap.size w w' := by
 have hu55 := Tryz.underlying55
 have hu52 := Tryz.underlying52
 have aj := mk0 (show Kd.V k52 52 w w.heap.size (fun k_ => (P0_0_ k_ ∨ w.heap.size ≤ k_)) (.slice A0_0 l0_0.length c0_0) l0_0 from Kd.V_mono hs0_0 (fun k_ hk => .inl hk))
 have HB := mk0 (Below.refl w.heap.size w)
 have H : (furrowref10_Table_Find.l0 k a1 0 l0_0 a0_1) = some (r1, r2, r3, r4, r5) := h
 clear h
 have H' := mk0 H
 clear H
 go_enter Tryz.func59, Tryz.ntmps59
 go_wp2_with (first | ((with_reducible refine gate_dst (N := 2) rfl ?_); refine bxE 2 #[.slice A0_0 l0_0.length c0_0, .int .i64 a0_1] 55 ?_; intro av hg w3 hbox hb; replace aj := vD aj av hg hb; have aa := mk0 (hbox); have bq := gE (uL HB.out) hg; replace HB := hbB (uL HB.out) hb; clear hb hbox hg) | ((with_reducible refine gate_dst (N := 4) rfl ?_); refine bxE 4 #[.string (⟨#[]⟩ : ByteArray), .slice none 0 0, .int .i64 0, .int .i64 0] 52 ?_; intro ab hg w4 hbox hb; replace aj := vD aj ab hg hb; have ak := mk0 (hbox); have br := gE bH hg; replace HB := hbB bH hb; have aw := nL aa hg; have ax := nG aa hg; replace aa := bB aa hb; clear hb hbox hg))
 go_loopg [6] k (fun kq v6 w' => ∃ (x6_1 : Int) (ay : ByteArray) (az : Int) (aA : Int), v6 = .int .i64 x6_1 ∧ Aside0 (furrowref10_Table_Find.l0 kq a1 x6_1 l0_0 a0_1 = some (r1, r2, r3, r4, r5)) ∧ Aside0 (kq ≤ k) ∧ Aside0 (Kd.V k52 52 w' w.heap.size (fun k_ => (P0_0_ k_ ∨ w.heap.size ≤ k_) ∧ k_ ≠ av ∧ k_ ≠ ab) (.slice A0_0 l0_0.length c0_0) l0_0) ∧ Aside0 (w'.heap[av]? = some (.cells #[(.slice A0_0 l0_0.length c0_0), .int .i64 a0_1] 55 (0, 0))) ∧ Aside0 (w'.heap[ab]? = some (.cells #[.string ay, (.slice none 0 0), .int .i64 az, .int .i64 aA] 52 (0, 0))) ∧ Aside0 (Below w.heap.size w w'))
 case atStart => exact ⟨(0), ((⟨#[]⟩ : ByteArray)), (0), (0), eK, H', ⟨Nat.le_refl _⟩, ⟨uV (vP aj)⟩, ⟨uB aa.out⟩, ⟨uB ak.out⟩, ⟨bH⟩⟩
 case round =>
  clear H'; obtain ⟨x6_1, ay, az, aA, rfl, HA, aK, ac, aa, ak, HB⟩ := hrel
  cases gk with
  | zero => exact absurd HA.out (by simp [furrowref10_Table_Find.l0])
  | succ k1 =>
   have H := HA.out; clear HA; simp only [furrowref10_Table_Find.l0] at H
   by_cases c5 : x6_1 < (l0_0.length : Int)
   ·rw [if_pos c5] at H
    have aV := decide_eq_true c5; clear c5
    by_cases c6 : 0 ≤ x6_1
    ·rw [if_pos c6] at H
     have bs := decide_eq_true c6; clear c6
     by_cases c7 : ((rd_T52 l0_0 x6_1).f0).toList = a1.toList
     ·rw [if_pos c7] at H
      obtain ⟨aW, aX⟩ := yQ c7; clear c7; simp only [Option.some.injEq, Prod.mk.injEq] at H; obtain ⟨rfl, rfl, rfl, rfl, rfl⟩ := H; have bu := aw.out; have bv := ax.out; obtain ⟨bw, bz, bC, bE⟩ := cL2 aa; have ae : 0 ≤ (x6_1 : Int) := dY; have af : x6_1 < (l0_0.length : Int) := dY; obtain ⟨aM, aC, aD, aE, aY, ap, aZ, a_, al, am⟩ := at_T52 (Kd.V_reads' ac.out).2.2 x6_1 ae af
      cases aE
      obtain ⟨bf, aG, aH, ao⟩ := Kd.V_get ac.out z52 x6_1 ae (by first | exact af | exact dY | (have e_ := (Kd.V_reads' ac.out).1; omega)); obtain ⟨bg, bh, rfl, ah, ai⟩ := k52_openF aH; have ag := ao 1 _ rfl; rw [add_field _ _ 1 (by omega)] at ag; replace ag := Option.some.inj (ag.symm.trans ap); injection ag with hva_ hvn_ hvc_; rw [hva_] at ai; rw [hvc_] at ah; have bi := mk0 (show Kd.V (Kd.int .i64) 2 _ w.heap.size _ _ ((rd_T52 l0_0 x6_1).f1) from Kd.V_mk ah ai); clear hva_ hvn_ hvc_ ai ah; clear ao aG; have bj := mk0 am; have bk := mk0 al; clear am al; replace ae := eq_true ae; replace af := eq_true af; have aq : 0 ≤ (x6_1 : Int) := dY; have ar : x6_1 < (l0_0.length : Int) := dY; obtain ⟨bl, bF, bG, bm, bI, aN, bJ, bK, aQ, aT⟩ := at_T52 (Kd.V_reads' ac.out).2.2 x6_1 aq ar; obtain rfl : aM = bl := (by injection bm); obtain ⟨bL, bn, bo, aU⟩ := Kd.V_get ac.out z52 x6_1 aq (by first | exact ar | exact dY | (have e_ := (Kd.V_reads' ac.out).1; omega)); obtain ⟨bM, bO, rfl, aI, aJ⟩ := k52_openF bo; have au := aU 1 _ rfl; rw [add_field _ _ 1 (by omega)] at au; replace au := Option.some.inj (au.symm.trans aN); injection au with hva_ hvn_ hvc_; rw [hva_] at aJ; rw [hvc_] at aI; have bp := mk0 (show Kd.V (Kd.int .i64) 2 _ w.heap.size _ _ ((rd_T52 l0_0 x6_1).f1) from Kd.V_mk aI aJ); clear hva_ hvn_ hvc_ aJ aI; clear aU bn; have bP := mk0 aT; have bQ := mk0 aQ; clear aT aQ; replace aq := eq_true aq; replace ar := eq_true ar; have ea_ := Option.some.inj (ap.symm.trans aN); injection ea_ with ea_ en_ ec_; subst ea_; subst ec_; clear en_; obtain ⟨bR, bT, bU, bV, bW, bX, bY, bZ⟩ := cL4 ak; go_wp2; refine bodyPost_ret (results_ct rfl _ _ ab 52 #[.string ((rd_T52 l0_0 x6_1).f0), .slice aC ((rd_T52 l0_0 x6_1).f1).length aD, .int .i64 ((rd_T52 l0_0 x6_1).f2), .int .i64 ((rd_T52 l0_0 x6_1).f3)] (0, 0) _ rfl (kB) Tryz.underlying52 rfl (by kernel_rfl)) rfl ?_; exact ⟨_, rE, uV (Kd.V_mono (Kd.V_far (p := ⟨ab, 3, none⟩) (Kd.V_far (p := ⟨ab, 2, none⟩) (Kd.V_far (p := ⟨ab, 1, none⟩) (Kd.V_far (p := ⟨ab, 0, none⟩) (Kd.V_mono bp.out (fun k_ hk => (⟨hk, hk.2.2⟩ : _ ∧ k_ ≠ ab))) (fun _ hk => hk.2) (.string ((rd_T52 l0_0 x6_1).f0))) (fun _ hk => hk.2) (.slice aC ((rd_T52 l0_0 x6_1).f1).length aD)) (fun _ hk => hk.2) (.int .i64 ((rd_T52 l0_0 x6_1).f2))) (fun _ hk => hk.2) (.int .i64 ((rd_T52 l0_0 x6_1).f3))) (fun _ hk => hk.1.1)), bH⟩
     ·rw [if_neg c7] at H
      obtain ⟨aW, aX⟩ := nQ c7; have H' := mk0 H; clear H; have b4 := aw.out; have b5 := ax.out; obtain ⟨b6, b7, b8, b9⟩ := cL2 aa; have ae : 0 ≤ (x6_1 : Int) := dY; have af : x6_1 < (l0_0.length : Int) := dY; obtain ⟨aM, aC, aD, aE, aY, ap, aZ, a_, al, am⟩ := at_T52 (Kd.V_reads' ac.out).2.2 x6_1 ae af
      cases aE
      obtain ⟨bf, aG, aH, ao⟩ := Kd.V_get ac.out z52 x6_1 ae (by first | exact af | exact dY | (have e_ := (Kd.V_reads' ac.out).1; omega)); obtain ⟨bg, bh, rfl, ah, ai⟩ := k52_openF aH; have ag := ao 1 _ rfl; rw [add_field _ _ 1 (by omega)] at ag; replace ag := Option.some.inj (ag.symm.trans ap); injection ag with hva_ hvn_ hvc_; rw [hva_] at ai; rw [hvc_] at ah; have bi := mk0 (show Kd.V (Kd.int .i64) 2 _ w.heap.size _ _ ((rd_T52 l0_0 x6_1).f1) from Kd.V_mk ah ai); clear hva_ hvn_ hvc_ ai ah; clear ao aG; have bj := mk0 am; have bk := mk0 al; clear am al; replace ae := eq_true ae; replace af := eq_true af; go_wp2
      go_roundg k1
      case measure => have := aK.out; omega
      case rel => exact ⟨(wrap64 (x6_1 + 1)), (ay), (az), (aA), eK, H', ⟨by have := aK.out; omega⟩, ⟨uV ac.out⟩, ⟨uB aa.out⟩, ⟨uB ak.out⟩, ⟨bH⟩⟩
    ·exact nO H c6
   ·rw [if_neg c5] at H
    have aV := decide_eq_false c5; clear c5; simp only [Option.some.injEq, Prod.mk.injEq] at H; obtain ⟨rfl, rfl, rfl, rfl, rfl⟩ := H; have cd := aw.out; have ce := ax.out; obtain ⟨cf, cg, ch, ci⟩ := cL2 aa; obtain ⟨cj, ck, cl, cm, cn, cp, cq, cr⟩ := cL4 ak; go_wp2; refine bodyPost_ret (results_ct rfl _ _ ab 52 #[.string (⟨#[]⟩ : ByteArray), .slice none 0 0, .int .i64 0, .int .i64 0] (0, 0) _ rfl (kB) Tryz.underlying52 rfl (by kernel_rfl)) rfl ?_; exact ⟨_, rE, (Kd.V_nil _ _ _ _ _), bH⟩

/-! ### furrowref10_Place: function 37 -/
mutual
def furrowref10_Place.l0 : Nat → Int → Int → Int → ByteArray → List (S30) → ByteArray → List Int → Int → Int → Option (Int × (List (S90)) × Int)
 | 0, _, _, _, _, _, _, _, _, _ => none
 | k + 1, x11, x811000, x811001, x811002, x811003, x820000, x820001, x820002, x820003 => if x11 < (x811003.length : Int) then (none) else (furrowref10_Place.l1 k 0 0 x820000 x820001 x820002 x820003)
def furrowref10_Place.l1 : Nat → Int → Int → ByteArray → List Int → Int → Int → Option (Int × (List (S90)) × Int)
 | 0, _, _, _, _, _, _ => none
 | k + 1, x14, x16, x820000, x820001, x820002, x820003 => if x16 < (([] : List Int).length : Int) then (none) else (some (wrap64 (x820002 + x14), ([] : List (S90)), 0))
end
def furrowref10_Place.f (k : Nat) (l0_0 : List (S52)) (a0_1 : Int) (l1 : List Int) (a2_0 : Int) (a2_1 : Int) (a2_2 : ByteArray) (l2_3 : List (S30)) : Option (Int × (List (S90)) × Int) := (furrowref10_Table_Find.f k l0_0 a0_1 a2_2).bind fun bt812 => (furrowref10_Place.l0 k 0 a2_0 a2_1 a2_2 l2_3 bt812.1 bt812.2.1 bt812.2.2.1 bt812.2.2.2.1)
theorem furrowref10_Place.mono_l : ∀ k, (∀ y0 y1 y2 y3 y4 y5 y6 y7 y8, LeO (furrowref10_Place.l0 k y0 y1 y2 y3 y4 y5 y6 y7 y8) (furrowref10_Place.l0 (k + 1) y0 y1 y2 y3 y4 y5 y6 y7 y8)) ∧ (∀ y0 y1 y2 y3 y4 y5, LeO (furrowref10_Place.l1 k y0 y1 y2 y3 y4 y5) (furrowref10_Place.l1 (k + 1) y0 y1 y2 y3 y4 y5))
 | 0 => by refine ⟨?_, ?_⟩ <;> intros <;> exact fun r h => by simp [furrowref10_Place.l0, furrowref10_Place.l1] at h
 | k + 1 => by
  obtain ⟨i0_, i1_⟩ := furrowref10_Place.mono_l k; have m0_ := @furrowref10_Table_Find.mono; refine ⟨?_, ?_⟩ <;> intros
  ·unfold furrowref10_Place.l0; exact lO_
  ·unfold furrowref10_Place.l1; exact lO_
theorem furrowref10_Place.mono : ∀ a0 a1 a2 a3 a4 a5 a6 k, LeO (furrowref10_Place.f k a0 a1 a2 a3 a4 a5 a6) (furrowref10_Place.f (k + 1) a0 a1 a2 a3 a4 a5 a6) := by
 intro a0 a1 a2 a3 a4 a5 a6 k
 obtain ⟨i0_, i1_⟩ := furrowref10_Place.mono_l k; have m0_ := @furrowref10_Table_Find.mono; unfold furrowref10_Place.f; exact lO_
set_option maxHeartbeats 8000000 in
set_option maxRecDepth 100000 in
theorem furrowref10_Place.calls (k : Nat) (A0_0 : Option Addr) (c0_0 : Nat) (l0_0 : List (S52)) (a0_1 : Int) (A1 : Option Addr) (c1 : Nat) (l1 : List Int) (a2_0 : Int) (a2_1 : Int) (a2_2 : ByteArray) (A2_3 : Option Addr) (c2_3 : Nat) (l2_3 : List (S30)) (r1 : Int) (r2 : List (S90)) (r3 : Int) (w : World) (hr0_0 : Kd.C k52 w A0_0 l0_0.length l0_0) (hc0_0 : l0_0.length ≤ c0_0) (hr1 : Kd.C (Kd.int .i64) w A1 l1.length l1) (hc1 : l1.length ≤ c1) (hr2_3 : Kd.C k30 w A2_3 l2_3.length l2_3) (hc2_3 : l2_3.length ≤ c2_3) (h : furrowref10_Place.f k l0_0 a0_1 l1 a2_0 a2_1 a2_2 l2_3 = some (r1, r2, r3)) :
  Calls Tryz.prog 37 #[.agg #[.slice A0_0 l0_0.length c0_0, .int .i64 a0_1], .slice A1 l1.length c1, .agg #[.int .i64 a2_0, .int .i64 a2_1, .string a2_2, .slice A2_3 l2_3.length c2_3]] w fun e w' => ∃ v1_ : Value, e = .returned (.tuple #[.int .i64 r1, .agg #[v1_, .int .i64 r3]]) ∧ Kd.R k90 90 w' w.heap.size (fun _ => True) v1_ r2 ∧ Below w.heap.size w w' := by
 have hu55 := Tryz.underlying55
 have hu30 := Tryz.underlying30
 have hu42 := Tryz.underlying42
 have hu52 := Tryz.underlying52
 have br := mk0 hr0_0
 have bs := mk0 hc0_0
 clear hr0_0 hc0_0
 have bP := mk0 hr1
 have bQ := mk0 hc1
 clear hr1 hc1
 have bR := mk0 hr2_3
 have bT := mk0 hc2_3
 clear hr2_3 hc2_3
 have HB := mk0 (Below.refl w.heap.size w)
 have H : ((furrowref10_Table_Find.f k l0_0 a0_1 a2_2).bind fun au => (furrowref10_Place.l0 k 0 a2_0 a2_1 a2_2 l2_3 au.1 au.2.1 au.2.2.1 au.2.2.2.1)) = some (r1, r2, r3) := h
 clear h
 replace H := Option.bind_eq_some_iff.mp H
 obtain ⟨⟨ag, ae, ah, ai, bu⟩, aD, H⟩ := H
 dsimp only at H
 have A4 := mk0 aD
 clear aD
 have H' := mk0 H
 clear H
 go_enter Tryz.func37, Tryz.ntmps37
 go_wp2_with (first | ((with_reducible refine gate_dst (N := 3) rfl ?_); refine bxE 3 #[.slice A0_0 l0_0.length c0_0, .int .i64 a0_1] 55 ?_; intro ak hg w5 hbox hb; have aa := mk0 (hbox); have bv := gE (uL HB.out) hg; replace HB := hbB (uL HB.out) hb; clear hb hbox hg) | ((with_reducible refine gate_dst (N := 5) rfl ?_); refine bxE 5 #[.int .i64 a2_0, .int .i64 a2_1, .string a2_2, .slice A2_3 l2_3.length c2_3] 30 ?_; intro al hg w6 hbox hb; have ab := mk0 (hbox); have bw := gE bH hg; replace HB := hbB bH hb; have aE := nL aa hg; have aG := nG aa hg; replace aa := bB aa hb; clear hb hbox hg) | ((with_reducible refine gate_dst (N := 7) rfl ?_); refine bxE 7 #[.slice none 0 0, .int .i64 0] 42 ?_; intro aj hg w7 hbox hb; have ac := mk0 (hbox); have bz := gE bH hg; replace HB := hbB bH hb; have aH := nL aa hg; have aI := nG aa hg; replace aa := bB aa hb; have ay := nL ab hg; have az := nG ab hg; replace ab := bB ab hb; clear hb hbox hg; have bU := aE.out; have bV := aG.out; have bW := aH.out; have bX := aI.out; obtain ⟨aJ, aK, aM, aN⟩ := cL2 aa; have bY := ay.out; have bZ := az.out; obtain ⟨aQ, aT, aU, aV, aW, aX, aY, aZ⟩ := cL4 ab) | ((with_reducible refine gate_dst (N := 21) rfl ?_); refine gsM (some 21) Tryz.func59 #[.agg #[.slice A0_0 l0_0.length c0_0, .int .i64 a0_1], .string a2_2] ?_; (with_reducible refine (furrowref10_Table_Find.calls k (fun k_ => k_ < w.heap.size) _ _ l0_0 a0_1 a2_2 ag ae ah ai bu _ ?side1 A4.out).mono ?_); (case side1 => exact Kd.V_mk bs.out (Kd.F_below (Kd.C_F k52_heap br.out) bH)); rintro e b4 ⟨b5, rfl, ho0, hb⟩; refine ⟨_, rfl, ?_⟩; have av := mk0 (Kd.V_lower (Kd.V_mono (ok' := fun k_ => k_ ≠ ak ∧ k_ ≠ al ∧ k_ ≠ aj) ho0 (fun k_ hk_ => ⟨e1B hk_ bv aa, e1B hk_ bw ab, e1B hk_ bz ac⟩)) (below_size bH)); replace aa := bB aa hb; replace ab := bB ab hb; replace ac := bB ac hb; replace HB := hbB bH hb; (try clear hb ho0)) | ((with_reducible refine gate_dst (N := 8) rfl ?_); refine bxE 8 #[.string (⟨#[]⟩ : ByteArray), .slice none 0 0, .int .i64 0, .int .i64 0] 52 ?_; intro af hg b6 hbox hb; replace av := vD av af hg hb; have am := mk0 (hbox); have b7 := gE bH hg; replace HB := hbB bH hb; have a_ := nL aa hg; have bf := nG aa hg; replace aa := bB aa hb; have aA := nL ab hg; have aC := nG ab hg; replace ab := bB ab hb; have bg := nL ac hg; have bh := nG ac hg; replace ac := bB ac hb; clear hb hbox hg; have b8 := bf.out; have b9 := a_.out; have cd := aC.out; have ce := aA.out; have cf := bh.out; have cg := bg.out; obtain ⟨bi, bj, bk, bl, bm, bn, bo, bp⟩ := cL4 am; obtain ⟨ao, ap, bC⟩ := Kd.V_slice av.out; subst bC))
 go_loopg [10, 11] k (fun kq v10 v11 w' => ∃ (aw : Int), v10 = .slice none 0 0 ∧ v11 = .int .i64 aw ∧ Aside0 (furrowref10_Place.l0 kq aw a2_0 a2_1 a2_2 l2_3 ag ae ah ai = some (r1, r2, r3)) ∧ Aside0 (kq ≤ k) ∧ Aside0 (Kd.V (Kd.int .i64) 2 w' w.heap.size (fun k_ => k_ ≠ ak ∧ k_ ≠ al ∧ k_ ≠ aj ∧ k_ ≠ af) (.slice ao ae.length ap) ae) ∧ Aside0 (w'.heap[ak]? = some (.cells #[(.slice A0_0 l0_0.length c0_0), .int .i64 a0_1] 55 (0, 0))) ∧ Aside0 (w'.heap[al]? = some (.cells #[.int .i64 a2_0, .int .i64 a2_1, .string a2_2, (.slice A2_3 l2_3.length c2_3)] 30 (0, 0))) ∧ Aside0 (w'.heap[aj]? = some (.cells #[(.slice none 0 0), .int .i64 0] 42 (0, 0))) ∧ Aside0 (w'.heap[af]? = some (.cells #[.string ag, (.slice ao ae.length ap), .int .i64 ah, .int .i64 ai] 52 (0, 0))) ∧ Aside0 (Below w.heap.size w w'))
 case atStart => exact ⟨(0), rfl, eK, H', ⟨Nat.le_refl _⟩, ⟨uV (Kd.V_mono (Kd.V_far (p := ⟨af, 3, none⟩) (Kd.V_far (p := ⟨af, 2, none⟩) (Kd.V_far (p := ⟨af, 1, none⟩) (Kd.V_far (p := ⟨af, 0, none⟩) (Kd.V_mono av.out (fun k_ hk => (⟨hk, hk.2⟩ : _ ∧ k_ ≠ af))) (fun _ hk => hk.2) (.string ag)) (fun _ hk => hk.2) (.slice ao ae.length ap)) (fun _ hk => hk.2) (.int .i64 ah)) (fun _ hk => hk.2) (.int .i64 ai)) (fun _ hk => ⟨hk.1.1.1, ⟨hk.1.1.2.1, ⟨hk.1.1.2.2, hk.1.2⟩⟩⟩))⟩, ⟨kB⟩, ⟨kB⟩, ⟨kB⟩, ⟨kB⟩, ⟨bH⟩⟩
 case round =>
  clear H'; (try clear c1 aJ aK aQ aT aU aV bi bj bk bl aM aN aW aX aY aZ bm bn bo bp); obtain ⟨aw, rfl, rfl, HA, ch, bq, aa, ab, ac, am, HB⟩ := hrel
  cases gk with
  | zero => exact absurd HA.out (by simp [furrowref10_Place.l0])
  | succ k1 =>
   have H := HA.out; clear HA; simp only [furrowref10_Place.l0] at H
   by_cases aq : aw < (l2_3.length : Int)
   ·exact nI H aq
   ·rw [if_neg aq] at H
    have bE := decide_eq_false aq; clear aq; have H' := mk0 H; clear H; have ci := aG.out; have cj := aE.out; have ck := ay.out; have cl := az.out; have cm := aA.out; have cn := aC.out; obtain ⟨bF, bG, bI, bJ, bK, bL, bM, bO⟩ := cL4 ab; go_wp2
    go_loopg [14, 16] k1 (fun kq v14 v16 w' => ∃ (ar : Int), v14 = .int .i64 0 ∧ v16 = .int .i64 ar ∧ Aside0 (furrowref10_Place.l1 kq 0 ar ag ae ah ai = some (r1, r2, r3)) ∧ Aside0 (kq ≤ k1) ∧ Aside0 (Kd.V (Kd.int .i64) 2 w' w.heap.size (fun k_ => k_ ≠ ak ∧ k_ ≠ al ∧ k_ ≠ aj ∧ k_ ≠ af) (.slice ao ae.length ap) ae) ∧ Aside0 (w'.heap[ak]? = some (.cells #[(.slice A0_0 l0_0.length c0_0), .int .i64 a0_1] 55 (0, 0))) ∧ Aside0 (w'.heap[al]? = some (.cells #[.int .i64 a2_0, .int .i64 a2_1, .string a2_2, (.slice A2_3 l2_3.length c2_3)] 30 (0, 0))) ∧ Aside0 (w'.heap[aj]? = some (.cells #[(.slice none 0 0), .int .i64 0] 42 (0, 0))) ∧ Aside0 (w'.heap[af]? = some (.cells #[.string ag, (.slice ao ae.length ap), .int .i64 ah, .int .i64 ai] 52 (0, 0))) ∧ Aside0 (Below w.heap.size w w'))
    case atStart => exact ⟨(0), rfl, eK, H', ⟨Nat.le_refl _⟩, ⟨uV bq.out⟩, ⟨uB aa.out⟩, ⟨uB ab.out⟩, ⟨uB ac.out⟩, ⟨uB am.out⟩, ⟨bH⟩⟩
    case round =>
     clear H'; (try clear c1 aq bE aJ aK aQ aT aU aV bi bj bk bl bF bG bI bJ aM aN aW aX aY aZ bm bn bo bp bK bL bM bO); obtain ⟨ar, rfl, rfl, HA, cp, bq, aa, ab, ac, am, HB⟩ := hrel
     cases gk with
     | zero => exact absurd HA.out (by simp [furrowref10_Place.l1])
     | succ k2 =>
      have H := HA.out; clear HA; simp only [furrowref10_Place.l1] at H
      by_cases ax : ar < (([] : List Int).length : Int)
      ·exact nI H ax
      ·rw [if_neg ax] at H
       have cq : decide (ar < 0) = false := decide_eq_false ax; clear ax; simp only [Option.some.injEq, Prod.mk.injEq] at H; obtain ⟨rfl, rfl, rfl⟩ := H; have cr := bf.out; have ct := a_.out; have cu := aC.out; have cv := aA.out; have cw := bh.out; have cx := bg.out; obtain ⟨cy, cz, cA, cD, cE, cF, cG, cH⟩ := cL4 am; have cI := aI.out; have cJ := aH.out; have cK := az.out; have cL := ay.out; obtain ⟨cM, cN, cO, cP⟩ := cL2 ac; go_wp2; refine bodyPost_ret (results_tc rfl _ _ aj 42 #[.slice none 0 0, .int .i64 0] (0, 0) _ rfl (kB) Tryz.underlying42 rfl (by kernel_rfl)) rfl ?_; exact ⟨_, rE, nK, bH⟩


/-! ### furrowref10_Eval: function 14 -/
mutual
def furrowref10_Eval.j0 : Nat → List Int → Bool → List (S52) → Int → Int → Int → ByteArray → List (S30) → Option (Int × (List (S90)) × Int)
 | 0, _, _, _, _, _, _, _, _ => none
 | k + 1, x1, x21, x821000, x821001, x822000, x822001, x822002, x822003 => if x21 = true then ((furrowref10_Place.f k x821000 x821001 x1 x822000 x822001 x822002 x822003).bind fun bt823 => (if bt823.2.2 = 0 then (if 0 ≤ bt823.1 then (if bt823.1 < (x1.length : Int) then (some (rd x1 bt823.1, ([] : List (S90)), 0)) else (none)) else (none)) else (none))) else (if 0 < (x822003.length : Int) then ((furrowref10_Eval.f k x821000 x821001 x1 ((rd_T30 x822003 0).f0) ((rd_T30 x822003 0).f1) ((rd_T30 x822003 0).f2) ((rd_T30 x822003 0).f3)).bind fun bt831 => (if bt831.2.2 = 0 then (furrowref10_Eval.j1 k x1 bt831.1 x821000 x821001 x822000 x822001 x822002 x822003) else (none))) else (none))
def furrowref10_Eval.j1 : Nat → List Int → Int → List (S52) → Int → Int → Int → ByteArray → List (S30) → Option (Int × (List (S90)) × Int)
 | 0, _, _, _, _, _, _, _, _ => none
 | k + 1, x1, x10, x821000, x821001, x822000, x822001, x822002, x822003 => if x822000 = 4 then (some (wrap64 (-x10), ([] : List (S90)), 0)) else (if 1 < (x822003.length : Int) then ((furrowref10_Eval.f k x821000 x821001 x1 ((rd_T30 x822003 1).f0) ((rd_T30 x822003 1).f1) ((rd_T30 x822003 1).f2) ((rd_T30 x822003 1).f3)).bind fun bt838 => (if bt838.2.2 = 0 then (furrowref10_Eval.j2 k x10 bt838.1 x822000 x822001 x822002 x822003) else (none))) else (none))
def furrowref10_Eval.j2 : Nat → Int → Int → Int → Int → ByteArray → List (S30) → Option (Int × (List (S90)) × Int)
 | 0, _, _, _, _, _, _ => none
 | k + 1, x10, x12, x822000, x822001, x822002, x822003 => if x822000 = 5 then (some (wrap64 (x10 + x12), ([] : List (S90)), 0)) else (if x822000 = 6 then (some (wrap64 (x10 - x12), ([] : List (S90)), 0)) else (if x822000 = 7 then (some (wrap64 (x10 * x12), ([] : List (S90)), 0)) else (none)))
def furrowref10_Eval.f : Nat → List (S52) → Int → List Int → Int → Int → ByteArray → List (S30) → Option (Int × (List (S90)) × Int)
 | 0, _, _, _, _, _, _, _ => none
 | k + 1, l0_0, a0_1, l1, a2_0, a2_1, a2_2, l2_3 => if a2_0 = 1 then (some (a2_1, ([] : List (S90)), 0)) else (if a2_0 = 2 then (furrowref10_Eval.j0 k l1 (a2_0 == 2) l0_0 a0_1 a2_0 a2_1 a2_2 l2_3) else (furrowref10_Eval.j0 k l1 (a2_0 == 3) l0_0 a0_1 a2_0 a2_1 a2_2 l2_3))
end
theorem furrowref10_Eval.mono_l : ∀ k, (∀ y0 y1 y2 y3 y4 y5 y6, LeO (furrowref10_Eval.f k y0 y1 y2 y3 y4 y5 y6) (furrowref10_Eval.f (k + 1) y0 y1 y2 y3 y4 y5 y6)) ∧ (∀ y0 y1 y2 y3 y4 y5 y6 y7, LeO (furrowref10_Eval.j0 k y0 y1 y2 y3 y4 y5 y6 y7) (furrowref10_Eval.j0 (k + 1) y0 y1 y2 y3 y4 y5 y6 y7)) ∧ (∀ y0 y1 y2 y3 y4 y5 y6 y7, LeO (furrowref10_Eval.j1 k y0 y1 y2 y3 y4 y5 y6 y7) (furrowref10_Eval.j1 (k + 1) y0 y1 y2 y3 y4 y5 y6 y7)) ∧ (∀ y0 y1 y2 y3 y4 y5, LeO (furrowref10_Eval.j2 k y0 y1 y2 y3 y4 y5) (furrowref10_Eval.j2 (k + 1) y0 y1 y2 y3 y4 y5))
 | 0 => by refine ⟨?_, ?_, ?_, ?_⟩ <;> intros <;> exact fun r h => by simp [furrowref10_Eval.f, furrowref10_Eval.j0, furrowref10_Eval.j1, furrowref10_Eval.j2] at h
 | k + 1 => by
  obtain ⟨i0_, i1_, i2_, i3_⟩ := furrowref10_Eval.mono_l k; have m0_ := @furrowref10_Place.mono; refine ⟨?_, ?_, ?_, ?_⟩ <;> intros
  ·unfold furrowref10_Eval.f; exact lO_
  ·unfold furrowref10_Eval.j0; exact lO_
  ·unfold furrowref10_Eval.j1; exact lO_
  ·unfold furrowref10_Eval.j2; exact lO_
theorem furrowref10_Eval.mono : ∀ a0 a1 a2 a3 a4 a5 a6 k, LeO (furrowref10_Eval.f k a0 a1 a2 a3 a4 a5 a6) (furrowref10_Eval.f (k + 1) a0 a1 a2 a3 a4 a5 a6) := by
 intro a0 a1 a2 a3 a4 a5 a6 k
 obtain ⟨ih0, ih1, ih2, ih3⟩ := furrowref10_Eval.mono_l k
 exact ih0 a0 a1 a2 a3 a4 a5 a6
def furrowref10_Eval.T10 : Bool × List (List Nat × List Nat) := (true, [([], []), ([], []), ([], []), ([2], [2]), ([3], [3]), ([4], [4]), ([0, 1, 5], [0, 1, 5]), ([6], [6]), ([7], [7]), ([7], [7]), ([], []), ([8, 6, 0, 1, 2, 3, 4, 5, 6, 7, 8, 10], [8]), ([10, 9, 11, 0, 1, 2, 3, 4, 5, 6, 7, 8, 9, 10, 11], [9, 10])])
def furrowref10_Eval.B10 : List Nat := [0, 0, 0, 4, 12, 28, 63, 127, 255, 255, 0, 1535, 4095]
theorem furrowref10_Eval.tab10 : rtab .any (opsOf Tryz.f14 10) = furrowref10_Eval.T10 := by kernel_rfl
theorem furrowref10_Eval.bits10 : waitsOk furrowref10_Eval.T10.2 furrowref10_Eval.B10 = true := by kernel_rfl
def furrowref10_Eval.T15 : Bool × List (List Nat × List Nat) := (true, [([], []), ([], []), ([], []), ([2], [2]), ([3], [3]), ([4], [4]), ([0, 1, 5], [0, 1, 5]), ([6], [6]), ([7], [7]), ([7], [7]), ([], []), ([8, 6, 0, 1, 2, 3, 4, 5, 6, 7, 8, 10], [8]), ([10, 9, 11, 0, 1, 2, 3, 4, 5, 6, 7, 8, 9, 10, 11], [9, 10])])
def furrowref10_Eval.B15 : List Nat := [0, 0, 0, 4, 12, 28, 63, 127, 255, 255, 0, 1535, 4095]
theorem furrowref10_Eval.tab15 : rtab .any (opsOf Tryz.f14 15) = furrowref10_Eval.T15 := by kernel_rfl
theorem furrowref10_Eval.bits15 : waitsOk furrowref10_Eval.T15.2 furrowref10_Eval.B15 = true := by kernel_rfl
set_option maxHeartbeats 8000000 in
set_option maxRecDepth 100000 in
theorem furrowref10_Eval.calls (k : Nat) : ∀ (A0_0 : Option Addr) (c0_0 : Nat) (l0_0 : List (S52)) (a0_1 : Int) (A1 : Option Addr) (c1 : Nat) (l1 : List Int) (a2_0 : Int) (a2_1 : Int) (a2_2 : ByteArray) (A2_3 : Option Addr) (c2_3 : Nat) (l2_3 : List (S30)) (r1 : Int) (r2 : List (S90)) (r3 : Int) (w : World) (hr0_0 : Kd.C k52 w A0_0 l0_0.length l0_0) (hc0_0 : l0_0.length ≤ c0_0) (hr1 : Kd.C (Kd.int .i64) w A1 l1.length l1) (hc1 : l1.length ≤ c1) (hr2_3 : Kd.C k30 w A2_3 l2_3.length l2_3) (hc2_3 : l2_3.length ≤ c2_3) (h : furrowref10_Eval.f k l0_0 a0_1 l1 a2_0 a2_1 a2_2 l2_3 = some (r1, r2, r3)),
  Calls Tryz.prog 14 #[.agg #[.slice A0_0 l0_0.length c0_0, .int .i64 a0_1], .slice A1 l1.length c1, .agg #[.int .i64 a2_0, .int .i64 a2_1, .string a2_2, .slice A2_3 l2_3.length c2_3]] w fun e w' => ∃ v1_ : Value, e = .returned (.tuple #[.int .i64 r1, .agg #[v1_, .int .i64 r3]]) ∧ Kd.R k90 90 w' w.heap.size (fun _ => True) v1_ r2 ∧ Below w.heap.size w w' := by
 induction k using Nat.strongRecOn with
 | _ k ih =>
 intro A0_0 c0_0 l0_0 a0_1 A1 c1 l1 a2_0 a2_1 a2_2 A2_3 c2_3 l2_3 r1 r2 r3 w hr0_0 hc0_0 hr1 hc1 hr2_3 hc2_3 h
 cases k with
 | zero => exact absurd h (by simp [furrowref10_Eval.f])
 | succ k =>
 simp only [furrowref10_Eval.f] at h
 have hu55 := Tryz.underlying55
 have hu30 := Tryz.underlying30
 have hu42 := Tryz.underlying42
 have bE := mk0 hr0_0
 have bF := mk0 hc0_0
 clear hr0_0 hc0_0
 have br := mk0 hr1
 have bG := mk0 hc1
 clear hr1 hc1
 have ck := mk0 hr2_3
 have di := mk0 hc2_3
 clear hr2_3 hc2_3
 have HB := mk0 (Below.refl w.heap.size w)
 have H : (if a2_0 = 1 then (some (a2_1, ([] : List (S90)), 0)) else (if a2_0 = 2 then (furrowref10_Eval.j0 k l1 (a2_0 == 2) l0_0 a0_1 a2_0 a2_1 a2_2 l2_3) else (furrowref10_Eval.j0 k l1 (a2_0 == 3) l0_0 a0_1 a2_0 a2_1 a2_2 l2_3))) = some (r1, r2, r3) := h
 clear h
 by_cases c4 : a2_0 = 1
 ·rw [if_pos c4] at H
  obtain ⟨bX, bY⟩ := yQ c4; clear c4; simp only [Option.some.injEq, Prod.mk.injEq] at H; obtain ⟨rfl, rfl, rfl⟩ := H; go_enter Tryz.func14, Tryz.ntmps14
  go_wp2_with (first | ((with_reducible refine gate_dst (N := 3) rfl ?_); refine bxE 3 #[.slice A0_0 l0_0.length c0_0, .int .i64 a0_1] 55 ?_; intro aj hg w5 hbox hb; have ab := mk0 (hbox); have dj := gE (uL HB.out) hg; replace HB := hbB (uL HB.out) hb; clear hb hbox hg) | ((with_reducible refine gate_dst (N := 5) rfl ?_); refine bxE 5 #[.int .i64 a2_0, .int .i64 a2_1, .string a2_2, .slice A2_3 l2_3.length c2_3] 30 ?_; intro af hg w6 hbox hb; have aa := mk0 (hbox); have dl := gE bH hg; replace HB := hbB bH hb; have aI := nL ab hg; have aJ := nG ab hg; replace ab := bB ab hb; clear hb hbox hg) | ((with_reducible refine gate_dst (N := 7) rfl ?_); refine bxE 7 #[.slice none 0 0, .int .i64 0] 42 ?_; intro ao hg w7 hbox hb; have ac := mk0 (hbox); have dn := gE bH hg; replace HB := hbB bH hb; have bk := nL ab hg; have bl := nG ab hg; have aK := nL aa hg; have aM := nG aa hg; replace aa := bB aa hb; clear hb hbox hg; have ea := aJ.out; have eb := aI.out; have ec := aK.out; have ed := aM.out; obtain ⟨ee, ef, eh, ei, ej, em, eo, ep⟩ := cL4 aa; have eu := bl.out; have ew := bk.out; obtain ⟨ez, eA, eB, eC⟩ := cL2 ac))
  refine bodyPost_ret (results_tc rfl _ _ ao 42 #[.slice none 0 0, .int .i64 0] (0, 0) _ rfl (kB) Tryz.underlying42 rfl (by kernel_rfl)) rfl ?_; exact ⟨_, rE, nK, bH⟩
 ·rw [if_neg c4] at H
  obtain ⟨bX, bY⟩ := nQ c4; have cl := mk0 H; clear H; go_enter Tryz.func14, Tryz.ntmps14
  go_upto_if 21 with (first | ((with_reducible refine gate_dst (N := 3) rfl ?_); refine bxE 3 #[.slice A0_0 l0_0.length c0_0, .int .i64 a0_1] 55 ?_; intro aj hg eD hbox hb; have ab := mk0 (hbox); have dj := gE (uL HB.out) hg; replace HB := hbB (uL HB.out) hb; clear hb hbox hg) | ((with_reducible refine gate_dst (N := 5) rfl ?_); refine bxE 5 #[.int .i64 a2_0, .int .i64 a2_1, .string a2_2, .slice A2_3 l2_3.length c2_3] 30 ?_; intro af hg eE hbox hb; have aa := mk0 (hbox); have dl := gE bH hg; replace HB := hbB bH hb; have aI := nL ab hg; have aJ := nG ab hg; replace ab := bB ab hb; clear hb hbox hg) | ((with_reducible refine gate_dst (N := 7) rfl ?_); refine bxE 7 #[.slice none 0 0, .int .i64 0] 42 ?_; intro ao hg eF hbox hb; have ac := mk0 (hbox); have dn := gE bH hg; replace HB := hbB bH hb; have bk := nL ab hg; have bl := nG ab hg; replace ab := bB ab hb; have aK := nL aa hg; have aM := nG aa hg; replace aa := bB aa hb; clear hb hbox hg; have eG := aJ.out; have eH := aI.out; have eI := aK.out; have eJ := aM.out; obtain ⟨cm, cn, cp, cq, cr, ct, cu, cv⟩ := cL4 aa))
  (try simp only [AP])
  go_cut [21] (fun v21 wc => ∃ (kq : Nat) (bZ : Bool), v21 = .bool bZ ∧ Aside0 (furrowref10_Eval.j0 kq l1 bZ l0_0 a0_1 a2_0 a2_1 a2_2 l2_3 = some (r1, r2, r3)) ∧ Aside0 (kq ≤ k) ∧ Aside0 (wc.heap[aj]? = some (.cells #[(.slice A0_0 l0_0.length c0_0), .int .i64 a0_1] 55 (0, 0))) ∧ Aside0 (wc.heap[af]? = some (.cells #[.int .i64 a2_0, .int .i64 a2_1, .string a2_2, (.slice A2_3 l2_3.length c2_3)] 30 (0, 0))) ∧ Aside0 (wc.heap[ao]? = some (.cells #[(.slice none 0 0), .int .i64 0] 42 (0, 0))) ∧ Aside0 (Below w.heap.size w wc))
  case first =>
   have H := cl.out; clear cl
   by_cases bI : a2_0 = 2
   ·rw [if_pos bI] at H
    obtain ⟨bJ, dp⟩ := yQ bI; clear bI; (first | rw [bJ] | (simp only [i64_w, i32_w]; rw [bJ]) | skip); have H' := mk0 H; clear H; go_wp2
    go_meet
    case rel => exact ⟨_, ((a2_0 == 2)), eK, H', ⟨by first | omega | exact Nat.le_refl _⟩, ⟨uB ab.out⟩, ⟨uB aa.out⟩, ⟨uB ac.out⟩, ⟨bH⟩⟩
   ·rw [if_neg bI] at H
    obtain ⟨bJ, dp⟩ := nQ bI; (first | rw [bJ] | (simp only [i64_w, i32_w]; rw [bJ]) | skip); have H' := mk0 H; clear H; go_wp2
    go_meet
    case rel => exact ⟨_, ((a2_0 == 3)), eK, H', ⟨by first | omega | exact Nat.le_refl _⟩, ⟨uB ab.out⟩, ⟨uB aa.out⟩, ⟨uB ac.out⟩, ⟨bH⟩⟩
  case rest =>
   clear cl; (try clear c1 c4 bX bY cm cn cp cq cr ct cu cv); obtain ⟨kq, bZ, rfl, HA, bs, ab, aa, ac, HB⟩ := hcut
   cases kq with
   | zero => exact absurd HA.out (by simp [furrowref10_Eval.j0])
   | succ kj12 =>
    have H := HA.out; clear HA; simp only [furrowref10_Eval.j0] at H
    by_cases bu : bZ = true
    ·subst bu
     replace H := iT H; replace H := Option.bind_eq_some_iff.mp H; obtain ⟨⟨bv, cH, cw⟩, cI, H⟩ := H; dsimp only at H; have dq := mk0 cI; clear cI
     by_cases b4 : cw = 0
     ·rw [if_pos b4] at H
      obtain ⟨eL, eM⟩ := yQ b4; clear b4
      by_cases b5 : 0 ≤ bv
      ·rw [if_pos b5] at H
       have eN := decide_eq_true b5; clear b5
       by_cases b6 : bv < (l1.length : Int)
       ·rw [if_pos b6] at H
        have eO := decide_eq_true b6; clear b6; simp only [Option.some.injEq, Prod.mk.injEq] at H; obtain ⟨rfl, rfl, rfl⟩ := H; have eP := aI.out; have eQ := aJ.out; have eR := bk.out; have eS := bl.out; obtain ⟨eT, eU, eV, eW⟩ := cL2 ab; have eX := aK.out; have eY := aM.out; obtain ⟨eZ, e6, e7, e8, e9, fa, fb, fc⟩ := cL4 aa
        go_wp2_with (first | ((with_reducible refine gate_dst (N := 28) rfl ?_); refine gsM (some 28) Tryz.func37 #[.agg #[.slice A0_0 l0_0.length c0_0, .int .i64 a0_1], .slice A1 l1.length c1, .agg #[.int .i64 a2_0, .int .i64 a2_1, .string a2_2, .slice A2_3 l2_3.length c2_3]] ?_; (with_reducible refine (furrowref10_Place.calls kj12 _ _ l0_0 a0_1 _ _ l1 a2_0 a2_1 a2_2 _ _ l2_3 bv cH cw _ ?side1 ?side2 ?side3 ?side4 ?side5 ?side6 dq.out).mono ?_); (case side1 => exact uC (Kd.C_below bE.out HB.out)); (case side2 => exact bF.out); (case side3 => exact uC (Kd.C_below br.out HB.out)); (case side4 => exact bG.out); (case side5 => exact uC (Kd.C_below ck.out HB.out)); (case side6 => exact di.out); rintro e fd ⟨fe, rfl, ho0, hb⟩; refine ⟨_, rfl, ?_⟩; have cx := mk0 (Kd.R_lower ho0 (below_size bH)); replace ab := bB ab hb; replace aa := bB aa hb; replace ac := bB ac hb; replace HB := hbB bH hb; (try clear hb ho0)) | ((with_reducible refine gate_dst (N := 9) rfl ?_); refine bxE 9 #[.slice none 0 0, .int .i64 0] 42 ?_; intro b7 hg ff hbox hb; replace cx := rB cx hb; have dr := mk0 (hbox); have cJ := gE bH hg; replace HB := hbB bH hb; have dt := nL ab hg; have du := nG ab hg; have dv := nL aa hg; have dw := nG aa hg; have dz := nL ac hg; have dA := nG ac hg; replace ac := bB ac hb; clear hb hbox hg; obtain ⟨dB, dC, dD⟩ := Kd.R_slice cx.out; subst dD; have fh := du.out; have fi := dt.out; have fj := dw.out; have fk := dv.out; have fm := dA.out; have fo := dz.out; obtain ⟨fp, fq, ft, fu⟩ := cL2 dr; have cy : 0 ≤ (bv : Int) := dY; have cz : bv < (l1.length : Int) := dY; obtain ⟨cK, dE, aZ⟩ := Kd.at_int br.out bv cy cz; cases dE; have hn829_0 : cK.block ≠ b7 := Nat.ne_of_lt (Nat.lt_of_lt_of_le (by have := World.block_lt_of_cell? _ _ aZ; first | rwa [add_block] at this | exact this) cJ.out); have hn829_1 : cK.block ≠ b7 := Nat.ne_of_lt (Nat.lt_of_lt_of_le (by have := World.block_lt_of_cell? _ _ aZ; first | rwa [add_block] at this | exact this) cJ.out); replace aZ := oC HB aZ; replace aZ := (cell_far (p := ⟨b7, 0, none⟩) (by first | (rw [add_block]; exact hn829_0) | (show (Addr.add _ _).block ≠ _; rw [add_block]; exact hn829_0) | exact hn829_0) (.slice dB cH.length dC)).trans aZ; replace aZ := (cell_far (p := ⟨b7, 1, none⟩) (by first | (rw [add_block]; exact hn829_1) | (show (Addr.add _ _).block ≠ _; rw [add_block]; exact hn829_1) | exact hn829_1) (.int .i64 cw)).trans aZ; clear hn829_0 hn829_1; replace cy := eq_true cy; replace cz := eq_true cz; obtain ⟨fv, fw, fx, fy⟩ := cL2 ac))
        refine bodyPost_ret (results_tc rfl _ _ ao 42 #[.slice none 0 0, .int .i64 0] (0, 0) _ rfl (kB) Tryz.underlying42 rfl (by kernel_rfl)) rfl ?_; exact ⟨_, rE, nK, bH⟩
       ·exact nO H b6
      ·exact nO H b5
     ·exact nO H b4
    ·replace bu := Bool.eq_false_iff.mpr bu
     subst bu; replace H := iF H
     by_cases bw : 0 < (l2_3.length : Int)
     ·rw [if_pos bw] at H
      have cL := decide_eq_true bw; have cM : decide (0 < l2_3.length) = true := decide_eq_true (by omega); clear bw; replace H := Option.bind_eq_some_iff.mp H; obtain ⟨⟨bm, ap, aD⟩, cN, H⟩ := H; dsimp only at H; have cO := mk0 cN; clear cN; have cA := mk0 H; clear H; (try go_wp2); replace ab := mk0 (blk_drew ab.out); replace aa := mk0 (blk_drew aa.out); replace ac := mk0 (blk_drew ac.out); replace HB := mk0 (below_drew1 HB.out); have bK : 0 ≤ (0 : Int) := (by omega); have bL : 0 < (l2_3.length : Int) := dY; obtain ⟨ae, bM, bO, dF, aN, aQ, aT, aU, cP, cR⟩ := at_T30 ck.out 0 bK bL; have hw830_3 := aU; (try rw [show ((0 : Int)).toNat = 0 from rfl] at hw830_3); (try rw [show 0 * 4 = 0 from rfl] at hw830_3); (try rw [Addr.add_zero'] at hw830_3); have hw830_2 := aT; (try rw [show ((0 : Int)).toNat = 0 from rfl] at hw830_2); (try rw [show 0 * 4 = 0 from rfl] at hw830_2); (try rw [Addr.add_zero'] at hw830_2); have hw830_1 := aQ; (try rw [show ((0 : Int)).toNat = 0 from rfl] at hw830_1); (try rw [show 0 * 4 = 0 from rfl] at hw830_1); (try rw [Addr.add_zero'] at hw830_1); have hw830_0 := aN; (try rw [show ((0 : Int)).toNat = 0 from rfl] at hw830_0); (try rw [show 0 * 4 = 0 from rfl] at hw830_0); (try rw [Addr.add_zero'] at hw830_0)
      cases dF
      have qi830 : (0 < l2_3.length) = True := eq_true (by omega); (try rw [show ((0 : Int)).toNat = 0 from rfl] at aN); (try rw [show 0 * 4 = 0 from rfl] at aN); (try rw [Addr.add_zero'] at aN); (try rw [show ((0 : Int)).toNat = 0 from rfl] at aQ); (try rw [show 0 * 4 = 0 from rfl] at aQ); (try rw [Addr.add_zero'] at aQ); (try rw [show ((0 : Int)).toNat = 0 from rfl] at aT); (try rw [show 0 * 4 = 0 from rfl] at aT); (try rw [Addr.add_zero'] at aT); (try rw [show ((0 : Int)).toNat = 0 from rfl] at aU); (try rw [show 0 * 4 = 0 from rfl] at aU); (try rw [Addr.add_zero'] at aU); replace aN := oC HB aN; replace aQ := oC HB aQ; replace aT := oC HB aT; replace aU := oC HB aU; have cD := mk0 cR; have cS := mk0 cP; clear cR cP; replace bK := eq_true bK; replace bL := eq_true bL; refine start_ (n := 13) (S := fun w' => w'.cell? ⟨aj, 0, none⟩ = some (.slice A0_0 l0_0.length c0_0) ∧ w'.cell? ⟨aj, 1, none⟩ = some (.int .i64 a0_1) ∧ w'.cell? ⟨af, 0, none⟩ = some (.int .i64 a2_0) ∧ w'.cell? ⟨af, 1, none⟩ = some (.int .i64 a2_1) ∧ w'.cell? ⟨af, 2, none⟩ = some (.string a2_2) ∧ w'.cell? ⟨af, 3, none⟩ = some (.slice (some ae) l2_3.length c2_3) ∧ w'.cell? ae = some (.int .i64 ((rd_T30 l2_3 0).f0)) ∧ w'.cell? ⟨ae.block, ae.off + 1, none⟩ = some (.int .i64 ((rd_T30 l2_3 0).f1)) ∧ w'.cell? ⟨ae.block, ae.off + 2, none⟩ = some (.string ((rd_T30 l2_3 0).f2)) ∧ w'.cell? ⟨ae.block, ae.off + 3, none⟩ = some (.slice bM ((rd_T30 l2_3 0).f3).length bO)) (ds := []) (bts 13 0) (by kernel_rfl) rfl rfl ⟨(blk_cell ab.out 0).trans rfl, (blk_cell ab.out 1).trans rfl, (blk_cell aa.out 0).trans rfl, (blk_cell aa.out 1).trans rfl, (blk_cell aa.out 2).trans rfl, (blk_cell aa.out 3).trans rfl, ((HB.out.cell (World.block_lt_of_cell? w _ hw830_0)).trans hw830_0), ((HB.out.cell (World.block_lt_of_cell? w _ hw830_1)).trans hw830_1), ((HB.out.cell (World.block_lt_of_cell? w _ hw830_2)).trans hw830_2), ((HB.out.cell (World.block_lt_of_cell? w _ hw830_3)).trans hw830_3)⟩ (fun hHeld => ?_); refine with_tabW furrowref10_Eval.tab10 furrowref10_Eval.bits10 (fun HT_ HW_ => ?_); generalize wc.drew = fz at ab aa ac HB cD aN aQ aT aU hHeld ⊢; refine qA 1 2 ?_; refine qA 2 6 ?_; refine take_ (i := 0) (N := some 41) (v := ?_) (a' := ?_) (bts 13 7) rfl rfl (take_ofW HT_.out HW_.out (by kernel_rfl)) (fun _ _ _ h => h) (Or.inl ⟨by rfl, ?_⟩) hHeld ?_ ?_; rotate_left
      ·rintro w' ⟨s0, s1, s2, s3, s4, s5, s6, s7, s8, s9⟩
       go_simp; (with_reducible rfl)
      rotate_left
      ·simp only [AP, i64_w, i32_w]
       rfl
      refine take_ (i := 3) (N := some 44) (v := ?_) (a' := ?_) (bts 13 15) rfl rfl (take_ofW HT_.out HW_.out (by kernel_rfl)) (fun _ _ _ h => h) (Or.inl ⟨by rfl, ?_⟩) hHeld ?_ ?_; rotate_left
      ·rintro w' ⟨s0, s1, s2, s3, s4, s5, s6, s7, s8, s9⟩
       go_simp; (with_reducible rfl)
      rotate_left
      ·simp only [AP, i64_w, i32_w]
       rfl
      refine qA 4 31 ?_; refine take_ (i := 5) (N := some 46) (v := ?_) (a' := ?_) (bts 13 63) rfl rfl (take_ofW HT_.out HW_.out (by kernel_rfl)) (fun _ _ _ h => h) (Or.inl ⟨by rfl, ?_⟩) hHeld ?_ ?_; rotate_left
      ·rintro w' ⟨s0, s1, s2, s3, s4, s5, s6, s7, s8, s9⟩
       go_simp; (with_reducible rfl)
      rotate_left
      ·simp only [AP, i64_w, i32_w]
       rfl
      refine join_ (σ := Value × Nat) 2 (bts 13 2047) (fun s_ => [(47, .tuple #[.int .i64 bm, .agg #[s_.1, .int .i64 aD]]), (11, .pointer (some ⟨s_.2, 0, none⟩)), (40, .tuple #[.int .i64 bm, .agg #[s_.1, .int .i64 aD]]), (48, .int .i64 bm), (49, .agg #[s_.1, .int .i64 aD])]) (fun s_ w' => (w'.cell? ⟨aj, 0, none⟩ = some (.slice A0_0 l0_0.length c0_0) ∧ w'.cell? ⟨aj, 1, none⟩ = some (.int .i64 a0_1) ∧ w'.cell? ⟨af, 0, none⟩ = some (.int .i64 a2_0) ∧ w'.cell? ⟨af, 1, none⟩ = some (.int .i64 a2_1) ∧ w'.cell? ⟨af, 2, none⟩ = some (.string a2_2) ∧ w'.cell? ⟨af, 3, none⟩ = some (.slice (some ae) l2_3.length c2_3) ∧ w'.cell? ae = some (.int .i64 ((rd_T30 l2_3 0).f0)) ∧ w'.cell? ⟨ae.block, ae.off + 1, none⟩ = some (.int .i64 ((rd_T30 l2_3 0).f1)) ∧ w'.cell? ⟨ae.block, ae.off + 2, none⟩ = some (.string ((rd_T30 l2_3 0).f2)) ∧ w'.cell? ⟨ae.block, ae.off + 3, none⟩ = some (.slice bM ((rd_T30 l2_3 0).f3).length bO)) ∧ (Kd.R k90 90 w' w.heap.size (fun _ => True) s_.1 ap) ∧ (w'.heap[aj]? = some (.cells #[.slice A0_0 l0_0.length c0_0, .int .i64 a0_1] 55 (0, 0))) ∧ (w'.heap[af]? = some (.cells #[.int .i64 a2_0, .int .i64 a2_1, .string a2_2, .slice (some ae) l2_3.length c2_3] 30 (0, 0))) ∧ (w'.heap[ao]? = some (.cells #[.slice none 0 0, .int .i64 0] 42 (0, 0))) ∧ (w'.heap[s_.2]? = some (.cells #[.slice none 0 0, .int .i64 0] 42 (0, 0))) ∧ (w.heap.size ≤ s_.2) ∧ (w.heap.size ≤ s_.2) ∧ (aj ≠ s_.2) ∧ (s_.2 ≠ aj) ∧ (af ≠ s_.2) ∧ (s_.2 ≠ af) ∧ (ao ≠ s_.2) ∧ (s_.2 ≠ ao) ∧ (Below w.heap.size w w')) ?_ ?_; rotate_left
      ·intro hCont
       refine two_ (i := 6) (j := 10) (Ni := some 47) (Nj := some 11) (bts 13 127) (bts 13 1087) rfl rfl rfl rfl (two_of HT_.out (by kernel_rfl)) (by decide) (by decide) (fun K hK => ?_) (fun K hK => ?_)
       ·skip
        refine goes_ Tryz.func14 (by kernel_rfl) rfl #[.agg #[.slice A0_0 l0_0.length c0_0, .int .i64 a0_1], .slice A1 l1.length c1, .agg #[.int .i64 ((rd_T30 l2_3 0).f0), .int .i64 ((rd_T30 l2_3 0).f1), .string ((rd_T30 l2_3 0).f2), .slice bM ((rd_T30 l2_3 0).f3).length bO]] (by rfl) rfl rfl (by (try simp only [List.map_toArray, List.map_cons, List.map_nil]); first | done | rfl | (simp only [List.length_drop, List.length_take]; rfl)) ?_; (with_reducible refine (ih kj12 (by have := bs.out; omega) _ _ l0_0 a0_1 _ _ l1 ((rd_T30 l2_3 0).f0) ((rd_T30 l2_3 0).f1) ((rd_T30 l2_3 0).f2) _ _ ((rd_T30 l2_3 0).f3) bm ap aD _ ?side1 ?side2 ?side3 ?side4 ?side5 ?side6 cO.out).mono ?_); (case side1 => exact uC (Kd.C_below bE.out HB.out)); (case side2 => exact bF.out); (case side3 => exact uC (Kd.C_below br.out HB.out)); (case side4 => exact bG.out); (case side5 => exact uC (Kd.C_below cD.out HB.out)); (case side6 => exact cS.out); rintro e dG ⟨b8, rfl, ho0, hb⟩; refine ⟨_, rfl, ?_⟩; have a_ := mk0 (Kd.R_lower ho0 (below_size bH)); replace ab := bB ab hb; replace aa := bB aa hb; replace ac := bB ac hb; replace HB := hbB bH hb; (try clear hb ho0); refine hK.out _ _ ⟨(blk_cell ab.out 0).trans rfl, (blk_cell ab.out 1).trans rfl, (blk_cell aa.out 0).trans rfl, (blk_cell aa.out 1).trans rfl, (blk_cell aa.out 2).trans rfl, (blk_cell aa.out 3).trans rfl, ((HB.out.cell (World.block_lt_of_cell? w _ hw830_0)).trans hw830_0), ((HB.out.cell (World.block_lt_of_cell? w _ hw830_1)).trans hw830_1), ((HB.out.cell (World.block_lt_of_cell? w _ hw830_2)).trans hw830_2), ((HB.out.cell (World.block_lt_of_cell? w _ hw830_3)).trans hw830_3)⟩ (fun hHeld => ?_); clear hK K; refine norm_ (a' := ?_) ?_ ?_; rotate_left
        ·show Act.put _ (some 47) _ = _
         simp only [AP, i64_w, i32_w]; rfl
        refine qA 7 255 ?_; refine qA 8 511 ?_; refine qA 9 1023 ?_; refine one_ (i := 10) (N := some 11) (bts 13 2047) rfl rfl (one_of HT_.out (by kernel_rfl)) (by decide) (fun K hK => ?_); refine box_step ?hg (N := 11) ?hd (cs := #[.slice none 0 0, .int .i64 0]) (t := 42) ?hr ?_; (case hd => rfl); (case hg => rfl); (case hr => first | (go_simp; done) | (go_simp; rfl)); intro ag hg dH hbox hb; replace a_ := rB a_ hb; have ah := mk0 (hbox); have ar := gE bH hg; have b9 := gE bH hg; replace HB := hbB bH hb; have ay := nL ab hg; have bn := nG ab hg; replace ab := bB ab hb; have ak := nL aa hg; have au := nG aa hg; replace aa := bB aa hb; have az := nL ac hg; have aA := nG ac hg; replace ac := bB ac hb; clear hb hbox hg; refine hK.out _ _ ⟨(blk_cell ab.out 0).trans rfl, (blk_cell ab.out 1).trans rfl, (blk_cell aa.out 0).trans rfl, (blk_cell aa.out 1).trans rfl, (blk_cell aa.out 2).trans rfl, (blk_cell aa.out 3).trans rfl, ((HB.out.cell (World.block_lt_of_cell? w _ hw830_0)).trans hw830_0), ((HB.out.cell (World.block_lt_of_cell? w _ hw830_1)).trans hw830_1), ((HB.out.cell (World.block_lt_of_cell? w _ hw830_2)).trans hw830_2), ((HB.out.cell (World.block_lt_of_cell? w _ hw830_3)).trans hw830_3)⟩ (fun hHeld => ?_); clear hK K; refine norm_ (a' := ?_) ?_ ?_; rotate_left
        ·show Act.put _ (some 11) _ = _
         simp only [AP, i64_w, i32_w]; rfl
        exact nmX (hCont (b8, ag) _ ⟨hHeld, (uR a_.out), (uB ab.out), (uB aa.out), (uB ac.out), (uB ah.out), ar.out, b9.out, ay.out, bn.out, ak.out, au.out, az.out, aA.out, bH⟩)
       ·skip
        refine box_step ?hg (N := 11) ?hd (cs := #[.slice none 0 0, .int .i64 0]) (t := 42) ?hr ?_; (case hd => rfl); (case hg => rfl); (case hr => first | (go_simp; done) | (go_simp; rfl)); intro ag hg dG hbox hb; have ah := mk0 (hbox); have ar := gE bH hg; have b9 := gE bH hg; replace HB := hbB bH hb; have ay := nL ab hg; have bn := nG ab hg; replace ab := bB ab hb; have ak := nL aa hg; have au := nG aa hg; replace aa := bB aa hb; have az := nL ac hg; have aA := nG ac hg; replace ac := bB ac hb; clear hb hbox hg; refine hK.out _ _ ⟨(blk_cell ab.out 0).trans rfl, (blk_cell ab.out 1).trans rfl, (blk_cell aa.out 0).trans rfl, (blk_cell aa.out 1).trans rfl, (blk_cell aa.out 2).trans rfl, (blk_cell aa.out 3).trans rfl, ((HB.out.cell (World.block_lt_of_cell? w _ hw830_0)).trans hw830_0), ((HB.out.cell (World.block_lt_of_cell? w _ hw830_1)).trans hw830_1), ((HB.out.cell (World.block_lt_of_cell? w _ hw830_2)).trans hw830_2), ((HB.out.cell (World.block_lt_of_cell? w _ hw830_3)).trans hw830_3)⟩ (fun hHeld => ?_); clear hK K; refine norm_ (a' := ?_) ?_ ?_; rotate_left
        ·show Act.put _ (some 11) _ = _
         simp only [AP, i64_w, i32_w]; rfl
        refine one_ (i := 6) (N := some 47) (bts 13 1151) rfl rfl (one_of HT_.out (by kernel_rfl)) (by decide) (fun K hK => ?_); refine goes_ Tryz.func14 (by kernel_rfl) rfl #[.agg #[.slice A0_0 l0_0.length c0_0, .int .i64 a0_1], .slice A1 l1.length c1, .agg #[.int .i64 ((rd_T30 l2_3 0).f0), .int .i64 ((rd_T30 l2_3 0).f1), .string ((rd_T30 l2_3 0).f2), .slice bM ((rd_T30 l2_3 0).f3).length bO]] (by rfl) rfl rfl (by (try simp only [List.map_toArray, List.map_cons, List.map_nil]); first | done | rfl | (simp only [List.length_drop, List.length_take]; rfl)) ?_; (with_reducible refine (ih kj12 (by have := bs.out; omega) _ _ l0_0 a0_1 _ _ l1 ((rd_T30 l2_3 0).f0) ((rd_T30 l2_3 0).f1) ((rd_T30 l2_3 0).f2) _ _ ((rd_T30 l2_3 0).f3) bm ap aD _ ?side1 ?side2 ?side3 ?side4 ?side5 ?side6 cO.out).mono ?_); (case side1 => exact uC (Kd.C_below bE.out HB.out)); (case side2 => exact bF.out); (case side3 => exact uC (Kd.C_below br.out HB.out)); (case side4 => exact bG.out); (case side5 => exact uC (Kd.C_below cD.out HB.out)); (case side6 => exact cS.out); rintro e dH ⟨b8, rfl, ho0, hb⟩; refine ⟨_, rfl, ?_⟩; have a_ := mk0 (Kd.R_lower ho0 (below_size bH)); replace ab := bB ab hb; replace aa := bB aa hb; replace ac := bB ac hb; replace ah := bB ah hb; replace HB := hbB bH hb; (try clear hb ho0); refine hK.out _ _ ⟨(blk_cell ab.out 0).trans rfl, (blk_cell ab.out 1).trans rfl, (blk_cell aa.out 0).trans rfl, (blk_cell aa.out 1).trans rfl, (blk_cell aa.out 2).trans rfl, (blk_cell aa.out 3).trans rfl, ((HB.out.cell (World.block_lt_of_cell? w _ hw830_0)).trans hw830_0), ((HB.out.cell (World.block_lt_of_cell? w _ hw830_1)).trans hw830_1), ((HB.out.cell (World.block_lt_of_cell? w _ hw830_2)).trans hw830_2), ((HB.out.cell (World.block_lt_of_cell? w _ hw830_3)).trans hw830_3)⟩ (fun hHeld => ?_); clear hK K; refine norm_ (a' := ?_) ?_ ?_; rotate_left
        ·show Act.put _ (some 47) _ = _
         simp only [AP, i64_w, i32_w]; rfl
        refine qA 7 1279 ?_; refine qA 8 1535 ?_; refine qA 9 2047 ?_; exact nmX (hCont (b8, ag) _ ⟨hHeld, (uR a_.out), (uB ab.out), (uB aa.out), (uB ac.out), (uB ah.out), ar.out, b9.out, ay.out, bn.out, ak.out, au.out, az.out, aA.out, bH⟩)
      rintro ⟨b8, ag⟩ av ⟨hS_, h0_, h1_, h2_, h3_, h4_, h5_, h6_, h7_, h8_, h9_, h10_, h11_, h12_, h13_⟩; (try dsimp only at h0_ h1_ h2_ h3_ h4_ h5_ h6_ h7_ h8_ h9_ h10_ h11_ h12_ h13_); have n0_ := mk0 h0_; have n1_ := mk0 h1_; have n2_ := mk0 h2_; have n3_ := mk0 h3_; have n4_ := mk0 h4_; have n5_ := mk0 h5_; have n6_ := mk0 h6_; have n7_ := mk0 h7_; have n8_ := mk0 h8_; have n9_ := mk0 h9_; have n10_ := mk0 h10_; have n11_ := mk0 h11_; have n12_ := mk0 h12_; have n13_ := mk0 h13_; clear ab aa ac HB; clear h0_ h1_ h2_ h3_ h4_ h5_ h6_ h7_ h8_ h9_ h10_ h11_ h12_ h13_; have a_ := n0_; have ab := n1_; have aa := n2_; have ac := n3_; have ah := n4_; have ar := n5_; have b9 := n6_; have ay := n7_; have bn := n8_; have ak := n9_; have au := n10_; have az := n11_; have aA := n12_; have HB := n13_; clear n0_ n1_ n2_ n3_ n4_ n5_ n6_ n7_ n8_ n9_ n10_ n11_ n12_ n13_; have hHeld : av.cell? ⟨aj, 0, none⟩ = some (.slice A0_0 l0_0.length c0_0) ∧ av.cell? ⟨aj, 1, none⟩ = some (.int .i64 a0_1) ∧ av.cell? ⟨af, 0, none⟩ = some (.int .i64 a2_0) ∧ av.cell? ⟨af, 1, none⟩ = some (.int .i64 a2_1) ∧ av.cell? ⟨af, 2, none⟩ = some (.string a2_2) ∧ av.cell? ⟨af, 3, none⟩ = some (.slice (some ae) l2_3.length c2_3) ∧ av.cell? ae = some (.int .i64 ((rd_T30 l2_3 0).f0)) ∧ av.cell? ⟨ae.block, ae.off + 1, none⟩ = some (.int .i64 ((rd_T30 l2_3 0).f1)) ∧ av.cell? ⟨ae.block, ae.off + 2, none⟩ = some (.string ((rd_T30 l2_3 0).f2)) ∧ av.cell? ⟨ae.block, ae.off + 3, none⟩ = some (.slice bM ((rd_T30 l2_3 0).f3).length bO) := hS_; obtain ⟨aV, aW, cT⟩ := Kd.R_slice a_.out; (first | subst cT | (injection cT with f1_ f2_ f3_; have f4_ := f1_.symm; have f5_ := f3_.symm; clear f1_ f2_ f3_; subst f4_; subst f5_)); refine norm_ (a' := ?_) ?_ ?_; rotate_left
      ·simp only [putAll, AP]
       rfl
      refine qA 11 4095 ?_; refine one_ (i := 12) (N := none) (bts 13 8191) rfl rfl (one_of HT_.out (by kernel_rfl)) (by decide) (fun K hK => ?_); have hs47 : av.cell? ⟨ag, 0, none⟩ = some (.slice none 0 0) := (blk_cell ah.out 0).trans rfl; have hfs47 := blk_frozen ah.out 0; have fA := ay.out; have fC := ak.out; have fD := az.out; have fE := bn.out; have fF := au.out; have fG := aA.out; have hs48 : av.cell? ⟨ag, 1, none⟩ = some (.int .i64 0) := (blk_cell ah.out 1).trans rfl; have hfs48 := blk_frozen ah.out 1; have fH := ay.out; have fI := ak.out; have fJ := az.out; have fK := bn.out; have fL := au.out; have fM := aA.out; refine skip_ (w1 := ?_) (by rfl) rfl ?_ ?_; rotate_left
      ·go_simp
       rfl
      refine hK.out _ _ ⟨((cell_far (p := ⟨ag, _, none⟩) ay.out _).trans (((cell_far (p := ⟨ag, _, none⟩) ay.out _).trans (hHeld.1)))), ((cell_far (p := ⟨ag, _, none⟩) ay.out _).trans (((cell_far (p := ⟨ag, _, none⟩) ay.out _).trans (hHeld.2.1)))), ((cell_far (p := ⟨ag, _, none⟩) ak.out _).trans (((cell_far (p := ⟨ag, _, none⟩) ak.out _).trans (hHeld.2.2.1)))), ((cell_far (p := ⟨ag, _, none⟩) ak.out _).trans (((cell_far (p := ⟨ag, _, none⟩) ak.out _).trans (hHeld.2.2.2.1)))), ((cell_far (p := ⟨ag, _, none⟩) ak.out _).trans (((cell_far (p := ⟨ag, _, none⟩) ak.out _).trans (hHeld.2.2.2.2.1)))), ((cell_far (p := ⟨ag, _, none⟩) ak.out _).trans (((cell_far (p := ⟨ag, _, none⟩) ak.out _).trans (hHeld.2.2.2.2.2.1)))), ((cell_far (p := ⟨ag, _, none⟩) (lF hw830_0 ar) _).trans (((cell_far (p := ⟨ag, _, none⟩) (lF hw830_0 ar) _).trans (hHeld.2.2.2.2.2.2.1)))), ((cell_far (p := ⟨ag, _, none⟩) (lF hw830_1 ar) _).trans (((cell_far (p := ⟨ag, _, none⟩) (lF hw830_1 ar) _).trans (hHeld.2.2.2.2.2.2.2.1)))), ((cell_far (p := ⟨ag, _, none⟩) (lF hw830_2 ar) _).trans (((cell_far (p := ⟨ag, _, none⟩) (lF hw830_2 ar) _).trans (hHeld.2.2.2.2.2.2.2.2.1)))), ((cell_far (p := ⟨ag, _, none⟩) (lF hw830_3 ar) _).trans (((cell_far (p := ⟨ag, _, none⟩) (lF hw830_3 ar) _).trans (hHeld.2.2.2.2.2.2.2.2.2))))⟩ (fun hHeld => ?_)
      clear hK K; refine done_ (done_of HT_.out (by kernel_rfl)) ?_; have fN := bn.out; have fO := ay.out; have fP := au.out; have fQ := ak.out; have fR := aA.out; have fS := az.out; obtain ⟨cU, cV, cW, cX⟩ := cL2 ah
      go_upto_if 52 with (fail)
      go_cut [] (fun wc => ∃ (kq : Nat), Aside0 (furrowref10_Eval.j1 kq l1 bm l0_0 a0_1 a2_0 a2_1 a2_2 l2_3 = some (r1, r2, r3)) ∧ Aside0 (kq ≤ kj12) ∧ Aside0 (Kd.R k90 90 wc w.heap.size (fun _ => True) (.slice aV ap.length aW) ap) ∧ Aside0 (wc.heap[aj]? = some (.cells #[(.slice A0_0 l0_0.length c0_0), .int .i64 a0_1] 55 (0, 0))) ∧ Aside0 (wc.heap[af]? = some (.cells #[.int .i64 a2_0, .int .i64 a2_1, .string a2_2, (.slice (some ae) l2_3.length c2_3)] 30 (0, 0))) ∧ Aside0 (wc.heap[ao]? = some (.cells #[(.slice none 0 0), .int .i64 0] 42 (0, 0))) ∧ Aside0 (wc.heap[ag]? = some (.cells #[(.slice aV ap.length aW), .int .i64 aD] 42 (0, 0))) ∧ Aside0 (Below w.heap.size w wc))
      case first =>
       have H := cA.out; clear cA
       by_cases cd : aD = 0
       ·rw [if_pos cd] at H
        obtain ⟨cY, fT⟩ := yQ cd; clear cd; (first | rw [cY] | (simp only [i64_w, i32_w]; rw [cY]) | skip); have H' := mk0 H; clear H; go_wp2
        go_meet
        case rel => exact ⟨_, H', ⟨by have := bs.out; first | omega | exact Nat.le_refl _⟩, ⟨uR (Kd.R_mono (Kd.R_far (p := ⟨ag, 1, none⟩) (Kd.R_far (p := ⟨ag, 0, none⟩) (Kd.R_types a_.out ah.out (by decide)) (fun _ hk => hk.2) (.slice aV ap.length aW)) (fun _ hk => hk.2) (.int .i64 aD)) (fun _ hk => trivial))⟩, ⟨kB⟩, ⟨kB⟩, ⟨kB⟩, ⟨kB⟩, ⟨bH⟩⟩
       ·exact nO H cd
      case rest =>
       clear cA; (try clear c1 c4 bX bY bu bw cL cM cm cn cp cq cU cV cr ct cu cv cW cX aN aQ aT aU bK bL); obtain ⟨kq, HA, cE, al, ab, aa, ac, ah, HB⟩ := hcut
       cases kq with
       | zero => exact absurd HA.out (by simp [furrowref10_Eval.j1])
       | succ kj40 =>
        have H := HA.out; clear HA; simp only [furrowref10_Eval.j1] at H
        by_cases bz : a2_0 = 4
        ·rw [if_pos bz] at H
         obtain ⟨cZ, c_⟩ := yQ bz; clear bz; simp only [Option.some.injEq, Prod.mk.injEq] at H; obtain ⟨rfl, rfl, rfl⟩ := H; have fU := aJ.out; have fV := aI.out; have fW := aK.out; have fX := aM.out; have fY := ak.out; have fZ := au.out; obtain ⟨f5, f_, gc, ge, gf, gg, gh, gi⟩ := cL4 aa; have gj := bl.out; have gl := bk.out; have gn := az.out; have gp := aA.out; obtain ⟨gq, gr, gt, gu⟩ := cL2 ac; go_wp2; refine bodyPost_ret (results_tc rfl _ _ ao 42 #[.slice none 0 0, .int .i64 0] (0, 0) _ rfl (kB) Tryz.underlying42 rfl (by kernel_rfl)) rfl ?_; exact ⟨_, rE, nK, bH⟩
        ·rw [if_neg bz] at H
         obtain ⟨cZ, c_⟩ := nQ bz
         by_cases bP : 1 < (l2_3.length : Int)
         ·rw [if_pos bP] at H
          have dI := decide_eq_true bP; have dJ : decide (1 < l2_3.length) = true := decide_eq_true (by omega); clear bP; replace H := Option.bind_eq_some_iff.mp H; obtain ⟨⟨bC, aX, aY⟩, da, H⟩ := H; dsimp only at H; have db := mk0 da; clear da; have cF := mk0 H; clear H; have gv := aJ.out; have gw := aI.out; have gx := aK.out; have gy := aM.out; have gz := ak.out; have gA := au.out; obtain ⟨dK, dL, dM, dN, dO, dP, dQ, dR⟩ := cL4 aa; (try go_wp2); replace al := mk0 (Kd.R_drew al.out); replace ab := mk0 (blk_drew ab.out); replace aa := mk0 (blk_drew aa.out); replace ac := mk0 (blk_drew ac.out); replace ah := mk0 (blk_drew ah.out); replace HB := mk0 (below_drew1 HB.out); have ce : 0 ≤ (1 : Int) := (by omega); have cf : 1 < (l2_3.length : Int) := dY; obtain ⟨dS, bQ, bR, dT, bf, bg, bh, bi, dc, dd⟩ := at_T30 ck.out 1 ce cf; have hw837_3 := bi; (try rw [show ((1 : Int)).toNat = 1 from rfl] at hw837_3); (try rw [show 1 * 4 = 4 from rfl] at hw837_3); (try simp only [Nat.reduceMul, Nat.reduceEqDiff, Go.Addr.add, ↓reduceIte] at hw837_3); have hw837_2 := bh; (try rw [show ((1 : Int)).toNat = 1 from rfl] at hw837_2); (try rw [show 1 * 4 = 4 from rfl] at hw837_2); (try simp only [Nat.reduceMul, Nat.reduceEqDiff, Go.Addr.add, ↓reduceIte] at hw837_2); have hw837_1 := bg; (try rw [show ((1 : Int)).toNat = 1 from rfl] at hw837_1); (try rw [show 1 * 4 = 4 from rfl] at hw837_1); (try simp only [Nat.reduceMul, Nat.reduceEqDiff, Go.Addr.add, ↓reduceIte] at hw837_1); have hw837_0 := bf; (try rw [show ((1 : Int)).toNat = 1 from rfl] at hw837_0); (try rw [show 1 * 4 = 4 from rfl] at hw837_0); (try simp only [Nat.reduceMul, Nat.reduceEqDiff, Go.Addr.add, ↓reduceIte] at hw837_0); obtain rfl : ae = dS := (by injection dT); (try simp only [show (1 : Int).toNat = 1 from rfl, Nat.reduceMul, Nat.reduceEqDiff, Go.Addr.add, ↓reduceIte] at bf); (try simp only [show (1 : Int).toNat = 1 from rfl, Nat.reduceMul, Nat.reduceEqDiff, Go.Addr.add, ↓reduceIte] at bg); (try simp only [show (1 : Int).toNat = 1 from rfl, Nat.reduceMul, Nat.reduceEqDiff, Go.Addr.add, ↓reduceIte] at bh); (try simp only [show (1 : Int).toNat = 1 from rfl, Nat.reduceMul, Nat.reduceEqDiff, Go.Addr.add, ↓reduceIte] at bi); have qi837 : (1 < l2_3.length) = True := eq_true (by omega); (try rw [show ((1 : Int)).toNat = 1 from rfl] at bf); (try rw [show 1 * 4 = 4 from rfl] at bf); (try rw [show ((1 : Int)).toNat = 1 from rfl] at bg); (try rw [show 1 * 4 = 4 from rfl] at bg); (try rw [show ((1 : Int)).toNat = 1 from rfl] at bh); (try rw [show 1 * 4 = 4 from rfl] at bh); (try rw [show ((1 : Int)).toNat = 1 from rfl] at bi); (try rw [show 1 * 4 = 4 from rfl] at bi); replace bf := oC HB bf; replace bg := oC HB bg; replace bh := oC HB bh; replace bi := oC HB bi; have cG := mk0 dd; have de := mk0 dc; clear dd dc; replace ce := eq_true ce; replace cf := eq_true cf; refine start_ (n := 13) (S := fun w' => w'.cell? ⟨aj, 0, none⟩ = some (.slice A0_0 l0_0.length c0_0) ∧ w'.cell? ⟨aj, 1, none⟩ = some (.int .i64 a0_1) ∧ w'.cell? ⟨af, 0, none⟩ = some (.int .i64 a2_0) ∧ w'.cell? ⟨af, 1, none⟩ = some (.int .i64 a2_1) ∧ w'.cell? ⟨af, 2, none⟩ = some (.string a2_2) ∧ w'.cell? ⟨af, 3, none⟩ = some (.slice (some ae) l2_3.length c2_3) ∧ w'.cell? ⟨ae.block, ae.off + 4, none⟩ = some (.int .i64 ((rd_T30 l2_3 1).f0)) ∧ w'.cell? ⟨ae.block, ae.off + 4 + 1, none⟩ = some (.int .i64 ((rd_T30 l2_3 1).f1)) ∧ w'.cell? ⟨ae.block, ae.off + 4 + 2, none⟩ = some (.string ((rd_T30 l2_3 1).f2)) ∧ w'.cell? ⟨ae.block, ae.off + 4 + 3, none⟩ = some (.slice bQ ((rd_T30 l2_3 1).f3).length bR)) (ds := []) (bts 13 0) (by kernel_rfl) rfl rfl ⟨(blk_cell ab.out 0).trans rfl, (blk_cell ab.out 1).trans rfl, (blk_cell aa.out 0).trans rfl, (blk_cell aa.out 1).trans rfl, (blk_cell aa.out 2).trans rfl, (blk_cell aa.out 3).trans rfl, ((HB.out.cell (World.block_lt_of_cell? w _ hw837_0)).trans hw837_0), ((HB.out.cell (World.block_lt_of_cell? w _ hw837_1)).trans hw837_1), ((HB.out.cell (World.block_lt_of_cell? w _ hw837_2)).trans hw837_2), ((HB.out.cell (World.block_lt_of_cell? w _ hw837_3)).trans hw837_3)⟩ (fun hHeld => ?_); refine with_tabW furrowref10_Eval.tab15 furrowref10_Eval.bits15 (fun HT_ HW_ => ?_); generalize wc.drew = gC at al ab aa ac ah HB cG bf bg bh bi hHeld ⊢; refine qA 1 2 ?_; refine qA 2 6 ?_; refine take_ (i := 0) (N := some 61) (v := ?_) (a' := ?_) (bts 13 7) rfl rfl (take_ofW HT_.out HW_.out (by kernel_rfl)) (fun _ _ _ h => h) (Or.inl ⟨by rfl, ?_⟩) hHeld ?_ ?_; rotate_left
          ·rintro w' ⟨s0, s1, s2, s3, s4, s5, s6, s7, s8, s9⟩
           go_simp; (with_reducible rfl)
          rotate_left
          ·simp only [AP, i64_w, i32_w]
           rfl
          refine take_ (i := 3) (N := some 64) (v := ?_) (a' := ?_) (bts 13 15) rfl rfl (take_ofW HT_.out HW_.out (by kernel_rfl)) (fun _ _ _ h => h) (Or.inl ⟨by rfl, ?_⟩) hHeld ?_ ?_; rotate_left
          ·rintro w' ⟨s0, s1, s2, s3, s4, s5, s6, s7, s8, s9⟩
           go_simp; (with_reducible rfl)
          rotate_left
          ·simp only [AP, i64_w, i32_w]
           rfl
          refine qA 4 31 ?_; refine take_ (i := 5) (N := some 66) (v := ?_) (a' := ?_) (bts 13 63) rfl rfl (take_ofW HT_.out HW_.out (by kernel_rfl)) (fun _ _ _ h => h) (Or.inl ⟨by rfl, ?_⟩) hHeld ?_ ?_; rotate_left
          ·rintro w' ⟨s0, s1, s2, s3, s4, s5, s6, s7, s8, s9⟩
           go_simp; (with_reducible rfl)
          rotate_left
          ·simp only [AP, i64_w, i32_w]
           rfl
          refine join_ (σ := Value × Nat) 2 (bts 13 2047) (fun s_ => [(67, .tuple #[.int .i64 bC, .agg #[s_.1, .int .i64 aY]]), (13, .pointer (some ⟨s_.2, 0, none⟩)), (60, .tuple #[.int .i64 bC, .agg #[s_.1, .int .i64 aY]]), (68, .int .i64 bC), (69, .agg #[s_.1, .int .i64 aY])]) (fun s_ w' => (w'.cell? ⟨aj, 0, none⟩ = some (.slice A0_0 l0_0.length c0_0) ∧ w'.cell? ⟨aj, 1, none⟩ = some (.int .i64 a0_1) ∧ w'.cell? ⟨af, 0, none⟩ = some (.int .i64 a2_0) ∧ w'.cell? ⟨af, 1, none⟩ = some (.int .i64 a2_1) ∧ w'.cell? ⟨af, 2, none⟩ = some (.string a2_2) ∧ w'.cell? ⟨af, 3, none⟩ = some (.slice (some ae) l2_3.length c2_3) ∧ w'.cell? ⟨ae.block, ae.off + 4, none⟩ = some (.int .i64 ((rd_T30 l2_3 1).f0)) ∧ w'.cell? ⟨ae.block, ae.off + 4 + 1, none⟩ = some (.int .i64 ((rd_T30 l2_3 1).f1)) ∧ w'.cell? ⟨ae.block, ae.off + 4 + 2, none⟩ = some (.string ((rd_T30 l2_3 1).f2)) ∧ w'.cell? ⟨ae.block, ae.off + 4 + 3, none⟩ = some (.slice bQ ((rd_T30 l2_3 1).f3).length bR)) ∧ (Kd.R k90 90 w' w.heap.size (fun k_ => some k_ ≠ (.slice aV ap.length aW : Value).ownBlock) s_.1 aX) ∧ (Kd.R k90 90 w' w.heap.size (fun k_ => some k_ ≠ (s_.1 : Value).ownBlock) (.slice aV ap.length aW) ap) ∧ (w'.heap[aj]? = some (.cells #[.slice A0_0 l0_0.length c0_0, .int .i64 a0_1] 55 (0, 0))) ∧ (w'.heap[af]? = some (.cells #[.int .i64 a2_0, .int .i64 a2_1, .string a2_2, .slice (some ae) l2_3.length c2_3] 30 (0, 0))) ∧ (w'.heap[ao]? = some (.cells #[.slice none 0 0, .int .i64 0] 42 (0, 0))) ∧ (w'.heap[ag]? = some (.cells #[.slice aV ap.length aW, .int .i64 aD] 42 (0, 0))) ∧ (w'.heap[s_.2]? = some (.cells #[.slice none 0 0, .int .i64 0] 42 (0, 0))) ∧ (w.heap.size ≤ s_.2) ∧ (w.heap.size ≤ s_.2) ∧ (aj ≠ s_.2) ∧ (s_.2 ≠ aj) ∧ (af ≠ s_.2) ∧ (s_.2 ≠ af) ∧ (ao ≠ s_.2) ∧ (s_.2 ≠ ao) ∧ (ag ≠ s_.2) ∧ (s_.2 ≠ ag) ∧ (Below w.heap.size w w')) ?_ ?_; rotate_left
          ·intro hCont
           refine two_ (i := 6) (j := 10) (Ni := some 67) (Nj := some 13) (bts 13 127) (bts 13 1087) rfl rfl rfl rfl (two_of HT_.out (by kernel_rfl)) (by decide) (by decide) (fun K hK => ?_) (fun K hK => ?_)
           ·skip
            refine goes_ Tryz.func14 (by kernel_rfl) rfl #[.agg #[.slice A0_0 l0_0.length c0_0, .int .i64 a0_1], .slice A1 l1.length c1, .agg #[.int .i64 ((rd_T30 l2_3 1).f0), .int .i64 ((rd_T30 l2_3 1).f1), .string ((rd_T30 l2_3 1).f2), .slice bQ ((rd_T30 l2_3 1).f3).length bR]] (by rfl) rfl rfl (by (try simp only [List.map_toArray, List.map_cons, List.map_nil]); first | done | rfl | (simp only [List.length_drop, List.length_take]; rfl)) ?_; (with_reducible refine (ih kj40 (by have := bs.out; have := cE.out; omega) _ _ l0_0 a0_1 _ _ l1 ((rd_T30 l2_3 1).f0) ((rd_T30 l2_3 1).f1) ((rd_T30 l2_3 1).f2) _ _ ((rd_T30 l2_3 1).f3) bC aX aY _ ?side1 ?side2 ?side3 ?side4 ?side5 ?side6 db.out).mono ?_); (case side1 => exact uC (Kd.C_below bE.out HB.out)); (case side2 => exact bF.out); (case side3 => exact uC (Kd.C_below br.out HB.out)); (case side4 => exact bG.out); (case side5 => exact uC (Kd.C_below cG.out HB.out)); (case side6 => exact de.out); rintro e dU ⟨cg, rfl, ho0, hb⟩; refine ⟨_, rfl, ?_⟩; have bj := mk0 (Kd.R_lower (Kd.R_new' ho0 (Kd.R_lt (uR al.out))) (below_size bH)); replace al := mk0 (Kd.R_elder' (uR al.out) (Kd.R_base ho0) hb); replace ab := bB ab hb; replace aa := bB aa hb; replace ac := bB ac hb; replace ah := bB ah hb; replace HB := hbB bH hb; (try clear hb ho0); refine hK.out _ _ ⟨(blk_cell ab.out 0).trans rfl, (blk_cell ab.out 1).trans rfl, (blk_cell aa.out 0).trans rfl, (blk_cell aa.out 1).trans rfl, (blk_cell aa.out 2).trans rfl, (blk_cell aa.out 3).trans rfl, ((HB.out.cell (World.block_lt_of_cell? w _ hw837_0)).trans hw837_0), ((HB.out.cell (World.block_lt_of_cell? w _ hw837_1)).trans hw837_1), ((HB.out.cell (World.block_lt_of_cell? w _ hw837_2)).trans hw837_2), ((HB.out.cell (World.block_lt_of_cell? w _ hw837_3)).trans hw837_3)⟩ (fun hHeld => ?_); clear hK K; refine norm_ (a' := ?_) ?_ ?_; rotate_left
            ·show Act.put _ (some 67) _ = _
             simp only [AP, i64_w, i32_w]; rfl
            refine qA 7 255 ?_; refine qA 8 511 ?_; refine qA 9 1023 ?_; refine one_ (i := 10) (N := some 13) (bts 13 2047) rfl rfl (one_of HT_.out (by kernel_rfl)) (by decide) (fun K hK => ?_); refine box_step ?hg (N := 13) ?hd (cs := #[.slice none 0 0, .int .i64 0]) (t := 42) ?hr ?_; (case hd => rfl); (case hg => rfl); (case hr => first | (go_simp; done) | (go_simp; rfl)); intro ai hg dV hbox hb; replace al := rB al hb; replace bj := rB bj hb; have aq := mk0 (hbox); have aw := gE bH hg; have ch := gE bH hg; replace HB := hbB bH hb; have aC := nL ab hg; have bo := nG ab hg; replace ab := bB ab hb; have am := nL aa hg; have aE := nG aa hg; replace aa := bB aa hb; have aG := nL ac hg; have aH := nG ac hg; replace ac := bB ac hb; have bp := nL ah hg; have bq := nG ah hg; replace ah := bB ah hb; clear hb hbox hg; refine hK.out _ _ ⟨(blk_cell ab.out 0).trans rfl, (blk_cell ab.out 1).trans rfl, (blk_cell aa.out 0).trans rfl, (blk_cell aa.out 1).trans rfl, (blk_cell aa.out 2).trans rfl, (blk_cell aa.out 3).trans rfl, ((HB.out.cell (World.block_lt_of_cell? w _ hw837_0)).trans hw837_0), ((HB.out.cell (World.block_lt_of_cell? w _ hw837_1)).trans hw837_1), ((HB.out.cell (World.block_lt_of_cell? w _ hw837_2)).trans hw837_2), ((HB.out.cell (World.block_lt_of_cell? w _ hw837_3)).trans hw837_3)⟩ (fun hHeld => ?_); clear hK K; refine norm_ (a' := ?_) ?_ ?_; rotate_left
            ·show Act.put _ (some 13) _ = _
             simp only [AP, i64_w, i32_w]; rfl
            exact nmX (hCont (cg, ai) _ ⟨hHeld, (uR (Kd.R_mono bj.out (fun _ hk => hk.2))), (uR (Kd.R_mono al.out (fun _ hk => hk.2))), (uB ab.out), (uB aa.out), (uB ac.out), (uB ah.out), (uB aq.out), aw.out, ch.out, aC.out, bo.out, am.out, aE.out, aG.out, aH.out, bp.out, bq.out, bH⟩)
           ·skip
            refine box_step ?hg (N := 13) ?hd (cs := #[.slice none 0 0, .int .i64 0]) (t := 42) ?hr ?_; (case hd => rfl); (case hg => rfl); (case hr => first | (go_simp; done) | (go_simp; rfl)); intro ai hg dU hbox hb; replace al := rB al hb; have aq := mk0 (hbox); have aw := gE bH hg; have ch := gE bH hg; replace HB := hbB bH hb; have aC := nL ab hg; have bo := nG ab hg; replace ab := bB ab hb; have am := nL aa hg; have aE := nG aa hg; replace aa := bB aa hb; have aG := nL ac hg; have aH := nG ac hg; replace ac := bB ac hb; have bp := nL ah hg; have bq := nG ah hg; replace ah := bB ah hb; clear hb hbox hg; refine hK.out _ _ ⟨(blk_cell ab.out 0).trans rfl, (blk_cell ab.out 1).trans rfl, (blk_cell aa.out 0).trans rfl, (blk_cell aa.out 1).trans rfl, (blk_cell aa.out 2).trans rfl, (blk_cell aa.out 3).trans rfl, ((HB.out.cell (World.block_lt_of_cell? w _ hw837_0)).trans hw837_0), ((HB.out.cell (World.block_lt_of_cell? w _ hw837_1)).trans hw837_1), ((HB.out.cell (World.block_lt_of_cell? w _ hw837_2)).trans hw837_2), ((HB.out.cell (World.block_lt_of_cell? w _ hw837_3)).trans hw837_3)⟩ (fun hHeld => ?_); clear hK K; refine norm_ (a' := ?_) ?_ ?_; rotate_left
            ·show Act.put _ (some 13) _ = _
             simp only [AP, i64_w, i32_w]; rfl
            refine one_ (i := 6) (N := some 67) (bts 13 1151) rfl rfl (one_of HT_.out (by kernel_rfl)) (by decide) (fun K hK => ?_); refine goes_ Tryz.func14 (by kernel_rfl) rfl #[.agg #[.slice A0_0 l0_0.length c0_0, .int .i64 a0_1], .slice A1 l1.length c1, .agg #[.int .i64 ((rd_T30 l2_3 1).f0), .int .i64 ((rd_T30 l2_3 1).f1), .string ((rd_T30 l2_3 1).f2), .slice bQ ((rd_T30 l2_3 1).f3).length bR]] (by rfl) rfl rfl (by (try simp only [List.map_toArray, List.map_cons, List.map_nil]); first | done | rfl | (simp only [List.length_drop, List.length_take]; rfl)) ?_; (with_reducible refine (ih kj40 (by have := bs.out; have := cE.out; omega) _ _ l0_0 a0_1 _ _ l1 ((rd_T30 l2_3 1).f0) ((rd_T30 l2_3 1).f1) ((rd_T30 l2_3 1).f2) _ _ ((rd_T30 l2_3 1).f3) bC aX aY _ ?side1 ?side2 ?side3 ?side4 ?side5 ?side6 db.out).mono ?_); (case side1 => exact uC (Kd.C_below bE.out HB.out)); (case side2 => exact bF.out); (case side3 => exact uC (Kd.C_below br.out HB.out)); (case side4 => exact bG.out); (case side5 => exact uC (Kd.C_below cG.out HB.out)); (case side6 => exact de.out); rintro e dV ⟨cg, rfl, ho0, hb⟩; refine ⟨_, rfl, ?_⟩; have bj := mk0 (Kd.R_lower (Kd.R_new' ho0 (Kd.R_lt (uR al.out))) (below_size bH)); replace al := mk0 (Kd.R_elder' (uR al.out) (Kd.R_base ho0) hb); replace ab := bB ab hb; replace aa := bB aa hb; replace ac := bB ac hb; replace ah := bB ah hb; replace aq := bB aq hb; replace HB := hbB bH hb; (try clear hb ho0); refine hK.out _ _ ⟨(blk_cell ab.out 0).trans rfl, (blk_cell ab.out 1).trans rfl, (blk_cell aa.out 0).trans rfl, (blk_cell aa.out 1).trans rfl, (blk_cell aa.out 2).trans rfl, (blk_cell aa.out 3).trans rfl, ((HB.out.cell (World.block_lt_of_cell? w _ hw837_0)).trans hw837_0), ((HB.out.cell (World.block_lt_of_cell? w _ hw837_1)).trans hw837_1), ((HB.out.cell (World.block_lt_of_cell? w _ hw837_2)).trans hw837_2), ((HB.out.cell (World.block_lt_of_cell? w _ hw837_3)).trans hw837_3)⟩ (fun hHeld => ?_); clear hK K; refine norm_ (a' := ?_) ?_ ?_; rotate_left
            ·show Act.put _ (some 67) _ = _
             simp only [AP, i64_w, i32_w]; rfl
            refine qA 7 1279 ?_; refine qA 8 1535 ?_; refine qA 9 2047 ?_; exact nmX (hCont (cg, ai) _ ⟨hHeld, (uR (Kd.R_mono bj.out (fun _ hk => hk.2))), (uR (Kd.R_mono al.out (fun _ hk => hk.2))), (uB ab.out), (uB aa.out), (uB ac.out), (uB ah.out), (uB aq.out), aw.out, ch.out, aC.out, bo.out, am.out, aE.out, aG.out, aH.out, bp.out, bq.out, bH⟩)
          rintro ⟨cg, ai⟩ ax ⟨hS_, h0_, h1_, h2_, h3_, h4_, h5_, h6_, h7_, h8_, h9_, h10_, h11_, h12_, h13_, h14_, h15_, h16_, h17_⟩; (try dsimp only at h0_ h1_ h2_ h3_ h4_ h5_ h6_ h7_ h8_ h9_ h10_ h11_ h12_ h13_ h14_ h15_ h16_ h17_); have n0_ := mk0 h0_; have n1_ := mk0 h1_; have n2_ := mk0 h2_; have n3_ := mk0 h3_; have n4_ := mk0 h4_; have n5_ := mk0 h5_; have n6_ := mk0 h6_; have n7_ := mk0 h7_; have n8_ := mk0 h8_; have n9_ := mk0 h9_; have n10_ := mk0 h10_; have n11_ := mk0 h11_; have n12_ := mk0 h12_; have n13_ := mk0 h13_; have n14_ := mk0 h14_; have n15_ := mk0 h15_; have n16_ := mk0 h16_; have n17_ := mk0 h17_; clear al ab aa ac ah HB; clear h0_ h1_ h2_ h3_ h4_ h5_ h6_ h7_ h8_ h9_ h10_ h11_ h12_ h13_ h14_ h15_ h16_ h17_; have bj := n0_; have al := n1_; have ab := n2_; have aa := n3_; have ac := n4_; have ah := n5_; have aq := n6_; have aw := n7_; have ch := n8_; have aC := n9_; have bo := n10_; have am := n11_; have aE := n12_; have aG := n13_; have aH := n14_; have bp := n15_; have bq := n16_; have HB := n17_; clear n0_ n1_ n2_ n3_ n4_ n5_ n6_ n7_ n8_ n9_ n10_ n11_ n12_ n13_ n14_ n15_ n16_ n17_; have hHeld : ax.cell? ⟨aj, 0, none⟩ = some (.slice A0_0 l0_0.length c0_0) ∧ ax.cell? ⟨aj, 1, none⟩ = some (.int .i64 a0_1) ∧ ax.cell? ⟨af, 0, none⟩ = some (.int .i64 a2_0) ∧ ax.cell? ⟨af, 1, none⟩ = some (.int .i64 a2_1) ∧ ax.cell? ⟨af, 2, none⟩ = some (.string a2_2) ∧ ax.cell? ⟨af, 3, none⟩ = some (.slice (some ae) l2_3.length c2_3) ∧ ax.cell? ⟨ae.block, ae.off + 4, none⟩ = some (.int .i64 ((rd_T30 l2_3 1).f0)) ∧ ax.cell? ⟨ae.block, ae.off + 4 + 1, none⟩ = some (.int .i64 ((rd_T30 l2_3 1).f1)) ∧ ax.cell? ⟨ae.block, ae.off + 4 + 2, none⟩ = some (.string ((rd_T30 l2_3 1).f2)) ∧ ax.cell? ⟨ae.block, ae.off + 4 + 3, none⟩ = some (.slice bQ ((rd_T30 l2_3 1).f3).length bR) := hS_; obtain ⟨bT, bU, df⟩ := Kd.R_slice bj.out; (first | subst df | (injection df with f1_ f2_ f3_; have f4_ := f1_.symm; have f5_ := f3_.symm; clear f1_ f2_ f3_; subst f4_; subst f5_)); refine norm_ (a' := ?_) ?_ ?_; rotate_left
          ·simp only [putAll, AP]
           rfl
          refine qA 11 4095 ?_; refine one_ (i := 12) (N := none) (bts 13 8191) rfl rfl (one_of HT_.out (by kernel_rfl)) (by decide) (fun K hK => ?_); have hs74 : ax.cell? ⟨ai, 0, none⟩ = some (.slice none 0 0) := (blk_cell aq.out 0).trans rfl; have hfs74 := blk_frozen aq.out 0; have gD := aC.out; have gF := am.out; have gG := aG.out; have gH := bp.out; have gI := bo.out; have gJ := aE.out; have gK := aH.out; have gL := bq.out; have hs75 : ax.cell? ⟨ai, 1, none⟩ = some (.int .i64 0) := (blk_cell aq.out 1).trans rfl; have hfs75 := blk_frozen aq.out 1; have gM := aC.out; have gN := am.out; have gO := aG.out; have gP := bp.out; have gQ := bo.out; have gR := aE.out; have gS := aH.out; have gT := bq.out; refine skip_ (w1 := ?_) (by rfl) rfl ?_ ?_; rotate_left
          ·go_simp
           rfl
          refine hK.out _ _ ⟨((cell_far (p := ⟨ai, _, none⟩) aC.out _).trans (((cell_far (p := ⟨ai, _, none⟩) aC.out _).trans (hHeld.1)))), ((cell_far (p := ⟨ai, _, none⟩) aC.out _).trans (((cell_far (p := ⟨ai, _, none⟩) aC.out _).trans (hHeld.2.1)))), ((cell_far (p := ⟨ai, _, none⟩) am.out _).trans (((cell_far (p := ⟨ai, _, none⟩) am.out _).trans (hHeld.2.2.1)))), ((cell_far (p := ⟨ai, _, none⟩) am.out _).trans (((cell_far (p := ⟨ai, _, none⟩) am.out _).trans (hHeld.2.2.2.1)))), ((cell_far (p := ⟨ai, _, none⟩) am.out _).trans (((cell_far (p := ⟨ai, _, none⟩) am.out _).trans (hHeld.2.2.2.2.1)))), ((cell_far (p := ⟨ai, _, none⟩) am.out _).trans (((cell_far (p := ⟨ai, _, none⟩) am.out _).trans (hHeld.2.2.2.2.2.1)))), ((cell_far (p := ⟨ai, _, none⟩) (lF hw837_0 aw) _).trans (((cell_far (p := ⟨ai, _, none⟩) (lF hw837_0 aw) _).trans (hHeld.2.2.2.2.2.2.1)))), ((cell_far (p := ⟨ai, _, none⟩) (lF hw837_1 aw) _).trans (((cell_far (p := ⟨ai, _, none⟩) (lF hw837_1 aw) _).trans (hHeld.2.2.2.2.2.2.2.1)))), ((cell_far (p := ⟨ai, _, none⟩) (lF hw837_2 aw) _).trans (((cell_far (p := ⟨ai, _, none⟩) (lF hw837_2 aw) _).trans (hHeld.2.2.2.2.2.2.2.2.1)))), ((cell_far (p := ⟨ai, _, none⟩) (lF hw837_3 aw) _).trans (((cell_far (p := ⟨ai, _, none⟩) (lF hw837_3 aw) _).trans (hHeld.2.2.2.2.2.2.2.2.2))))⟩ (fun hHeld => ?_)
          clear hK K; refine done_ (done_of HT_.out (by kernel_rfl)) ?_; have gU := bo.out; have gV := aC.out; have gW := aE.out; have gX := am.out; have gY := aH.out; have gZ := aG.out; have g6 := bq.out; have g7 := bp.out; obtain ⟨dW, dX, dZ, d6⟩ := cL2 aq
          go_upto_if 72 with (fail)
          go_cut [] (fun wc => ∃ (kq : Nat), Aside0 (furrowref10_Eval.j2 kq bm bC a2_0 a2_1 a2_2 l2_3 = some (r1, r2, r3)) ∧ Aside0 (kq ≤ kj40) ∧ Aside0 (Kd.R k90 90 wc w.heap.size (fun k_ => some k_ ≠ ((.slice bT aX.length bU) : Value).ownBlock) (.slice aV ap.length aW) ap) ∧ Aside0 (Kd.R k90 90 wc w.heap.size (fun k_ => some k_ ≠ ((.slice aV ap.length aW) : Value).ownBlock) (.slice bT aX.length bU) aX) ∧ Aside0 (wc.heap[aj]? = some (.cells #[(.slice A0_0 l0_0.length c0_0), .int .i64 a0_1] 55 (0, 0))) ∧ Aside0 (wc.heap[af]? = some (.cells #[.int .i64 a2_0, .int .i64 a2_1, .string a2_2, (.slice (some ae) l2_3.length c2_3)] 30 (0, 0))) ∧ Aside0 (wc.heap[ao]? = some (.cells #[(.slice none 0 0), .int .i64 0] 42 (0, 0))) ∧ Aside0 (wc.heap[ag]? = some (.cells #[(.slice aV ap.length aW), .int .i64 aD] 42 (0, 0))) ∧ Aside0 (wc.heap[ai]? = some (.cells #[(.slice bT aX.length bU), .int .i64 aY] 42 (0, 0))) ∧ Aside0 (Below w.heap.size w wc))
          case first =>
           have H := cF.out; clear cF
           by_cases ci : aY = 0
           ·rw [if_pos ci] at H
            obtain ⟨dh, g8⟩ := yQ ci; clear ci; (first | rw [dh] | (simp only [i64_w, i32_w]; rw [dh]) | skip); have H' := mk0 H; clear H; go_wp2
            go_meet
            case rel => exact ⟨_, H', ⟨by have := bs.out; have := cE.out; first | omega | exact Nat.le_refl _⟩, ⟨uR (Kd.R_mono (Kd.R_far (p := ⟨ai, 1, none⟩) (Kd.R_far (p := ⟨ai, 0, none⟩) (Kd.R_types al.out aq.out (by decide)) (fun _ hk => hk.2) (.slice bT aX.length bU)) (fun _ hk => hk.2) (.int .i64 aY)) (fun _ hk => hk.1))⟩, ⟨uR (Kd.R_mono (Kd.R_far (p := ⟨ai, 1, none⟩) (Kd.R_far (p := ⟨ai, 0, none⟩) (Kd.R_types bj.out aq.out (by decide)) (fun _ hk => hk.2) (.slice bT aX.length bU)) (fun _ hk => hk.2) (.int .i64 aY)) (fun _ hk => hk.1))⟩, ⟨kB⟩, ⟨kB⟩, ⟨kB⟩, ⟨kB⟩, ⟨kB⟩, ⟨bH⟩⟩
           ·exact nO H ci
          case rest =>
           clear cF; (try clear c1 c4 bX bY bu bw cL cM bz cZ c_ bP dI dJ cm cn cp cq cU cV dK dL dM dN dW dX cr ct cu cv cW cX dO dP dQ dR dZ d6 aN aQ aT aU bf bg bh bi bK ce bL cf); obtain ⟨kq, HA, g9, al, g_, ab, aa, ac, ah, aq, HB⟩ := hcut
           cases kq with
           | zero => exact absurd HA.out (by simp [furrowref10_Eval.j2])
           | succ kj63 =>
            have H := HA.out; clear HA; simp only [furrowref10_Eval.j2] at H
            by_cases bV : a2_0 = 5
            ·rw [if_pos bV] at H
             obtain ⟨d7, d8⟩ := yQ bV; clear bV; simp only [Option.some.injEq, Prod.mk.injEq] at H; obtain ⟨rfl, rfl, rfl⟩ := H; have hD := aJ.out; have hJ := aI.out; have hU := aK.out; have hX := aM.out; have hY := ak.out; have hZ := au.out; have ia := am.out; have ib := aE.out; obtain ⟨ic, ie, ig, ii, ij, ik, il, im⟩ := cL4 aa; have io := bl.out; have ip := bk.out; have iq := az.out; have ir := aA.out; have iu := aG.out; have iv := aH.out; obtain ⟨iw, ix, iy, iz⟩ := cL2 ac; go_wp2; refine bodyPost_ret (results_tc rfl _ _ ao 42 #[.slice none 0 0, .int .i64 0] (0, 0) _ rfl (kB) Tryz.underlying42 rfl (by kernel_rfl)) rfl ?_; exact ⟨_, rE, nK, bH⟩
            ·rw [if_neg bV] at H
             obtain ⟨d7, d8⟩ := nQ bV
             by_cases bW : a2_0 = 6
             ·rw [if_pos bW] at H
              obtain ⟨d9, d_⟩ := yQ bW; clear bW; simp only [Option.some.injEq, Prod.mk.injEq] at H; obtain ⟨rfl, rfl, rfl⟩ := H; have iA := aJ.out; have iB := aI.out; have iC := aK.out; have iD := aM.out; have iE := ak.out; have iG := au.out; have iH := am.out; have iI := aE.out; obtain ⟨iJ, iK, iL, iM, iN, iO, iP, iQ⟩ := cL4 aa; have iR := bl.out; have iS := bk.out; have iU := az.out; have iV := aA.out; have iW := aG.out; have iX := aH.out; obtain ⟨iY, iZ, i1, i6⟩ := cL2 ac; go_wp2; refine bodyPost_ret (results_tc rfl _ _ ao 42 #[.slice none 0 0, .int .i64 0] (0, 0) _ rfl (kB) Tryz.underlying42 rfl (by kernel_rfl)) rfl ?_; exact ⟨_, rE, nK, bH⟩
             ·rw [if_neg bW] at H
              obtain ⟨d9, d_⟩ := nQ bW
              by_cases cj : a2_0 = 7
              ·rw [if_pos cj] at H
               obtain ⟨i7, i8⟩ := yQ cj; clear cj; simp only [Option.some.injEq, Prod.mk.injEq] at H; obtain ⟨rfl, rfl, rfl⟩ := H; have i_ := aJ.out; have ja := aI.out; have jb := aK.out; have jc := aM.out; have jd := ak.out; have je := au.out; have jf := am.out; have jg := aE.out; obtain ⟨jh, ji, jj, jk, jl, jm, jn, jo⟩ := cL4 aa; have jp := bl.out; have jq := bk.out; have jr := az.out; have js := aA.out; have jt := aG.out; have ju := aH.out; obtain ⟨jv, jw, jx, jy⟩ := cL2 ac; go_wp2; refine bodyPost_ret (results_tc rfl _ _ ao 42 #[.slice none 0 0, .int .i64 0] (0, 0) _ rfl (kB) Tryz.underlying42 rfl (by kernel_rfl)) rfl ?_; exact ⟨_, rE, nK, bH⟩
              ·exact nO H cj
         ·exact nO H bP
     ·exact nO H bw


/-! ### furrowref14_coef: function 38 -/
def furrowref14_coef.f (l0_0 : List Int) (a0_1 : Int) (a1 : Int) : Option (Int) := if a1 ≥ (l0_0.length : Int) then (some 0) else (if 0 ≤ a1 then (if a1 < (l0_0.length : Int) then (some (rd l0_0 a1)) else (none)) else (none))
set_option maxHeartbeats 8000000 in
set_option maxRecDepth 100000 in
theorem furrowref14_coef.calls (A0_0 : Option Addr) (c0_0 : Nat) (l0_0 : List Int) (a0_1 : Int) (a1 : Int) (r : Int) (w : World) (hr0_0 : Kd.C (Kd.int .i64) w A0_0 l0_0.length l0_0) (hc0_0 : l0_0.length ≤ c0_0) (h : furrowref14_coef.f l0_0 a0_1 a1 = some r) :
  Calls Tryz.prog 38 #[.agg #[.slice A0_0 l0_0.length c0_0, .int .i64 a0_1], .int .i64 a1] w fun e w' => e = .returned (.int .i64 r) ∧ Below w.heap.size w w' := by
 have hu39 := Tryz.underlying39
 have HR0_0 := mk0 hr0_0
 have HC0_0 := mk0 hc0_0
 clear hr0_0 hc0_0
 have HB := mk0 (Below.refl w.heap.size w)
 have H : (if a1 ≥ (l0_0.length : Int) then (some 0) else (if 0 ≤ a1 then (if a1 < (l0_0.length : Int) then (some (rd l0_0 a1)) else (none)) else (none))) = some r := h
 clear h
 by_cases c3 : a1 ≥ (l0_0.length : Int)
 ·rw [if_pos c3] at H
  have c3b0 := decide_eq_true c3; clear c3; obtain rfl := Option.some.inj H; go_enter Tryz.func38, Tryz.ntmps38
  go_wp2_with (first | ((with_reducible refine gate_dst (N := 2) rfl ?_); refine bxE 2 #[.slice A0_0 l0_0.length c0_0, .int .i64 a0_1] 39 ?_; intro gb844 hg w4 hbox hb; have BK844 := mk0 (hbox); have GW844 := gE (uL HB.out) hg; replace HB := hbB (uL HB.out) hb; clear hb hbox hg; obtain ⟨hcz5_0, hcz5_1, hfz5_0, hfz5_1⟩ := cL2 BK844))
  go_ret; exact ⟨rE, bH⟩
 ·rw [if_neg c3] at H
  have c3b0 := decide_eq_false c3; clear c3
  by_cases c6 : 0 ≤ a1
  ·rw [if_pos c6] at H
   have c6b0 := decide_eq_true c6; clear c6
   by_cases c7 : a1 < (l0_0.length : Int)
   ·rw [if_pos c7] at H
    have c7b0 := decide_eq_true c7; clear c7; obtain rfl := Option.some.inj H; go_enter Tryz.func38, Tryz.ntmps38
    go_wp2_with (first | ((with_reducible refine gate_dst (N := 2) rfl ?_); refine bxE 2 #[.slice A0_0 l0_0.length c0_0, .int .i64 a0_1] 39 ?_; intro gb844 hg w8 hbox hb; have BK844 := mk0 (hbox); have GW844 := gE (uL HB.out) hg; replace HB := hbB (uL HB.out) hb; clear hb hbox hg; obtain ⟨hcz9_0, hcz9_1, hfz9_0, hfz9_1⟩ := cL2 BK844; have p845 : 0 ≤ (a1 : Int) := dY; have q845 : a1 < (l0_0.length : Int) := dY; obtain ⟨ad845, e845, hx845_0⟩ := Kd.at_int HR0_0.out a1 p845 q845; cases e845; replace hx845_0 := oC HB hx845_0; replace p845 := eq_true p845; replace q845 := eq_true q845))
    go_ret; exact ⟨rE, bH⟩
   ·exact nO H c7
  ·exact nO H c6

/-! ### furrowref14_Same: function 15 -/
mutual
def furrowref14_Same.l0 : Nat → Int → List Int → Int → List Int → Int → Option (Bool)
 | 0, _, _, _, _, _ => none
 | k + 1, x5, x847000, x847001, x848000, x848001 => if x5 < (x847000.length : Int) then (furrowref14_Same.j1 k x5 true x847000 x847001 x848000 x848001) else (furrowref14_Same.j1 k x5 (decide (x5 < (x848000.length : Int))) x847000 x847001 x848000 x848001)
def furrowref14_Same.j1 : Nat → Int → Bool → List Int → Int → List Int → Int → Option (Bool)
 | 0, _, _, _, _, _, _ => none
 | k + 1, x5, x17, x847000, x847001, x848000, x848001 => if x17 = true then ((furrowref14_coef.f x847000 x847001 x5).bind fun t848 => ((furrowref14_coef.f x848000 x848001 x5).bind fun t849 => (if t848 = t849 then (furrowref14_Same.l0 k (wrap64 (x5 + 1)) x847000 x847001 x848000 x848001) else (some false)))) else (some (x847001 == x848001))
end
def furrowref14_Same.f (k : Nat) (l0_0 : List Int) (a0_1 : Int) (l1_0 : List Int) (a1_1 : Int) : Option (Bool) := furrowref14_Same.l0 k 0 l0_0 a0_1 l1_0 a1_1
theorem furrowref14_Same.mono_l : ∀ k, (∀ y0 y1 y2 y3 y4, LeO (furrowref14_Same.l0 k y0 y1 y2 y3 y4) (furrowref14_Same.l0 (k + 1) y0 y1 y2 y3 y4)) ∧ (∀ y0 y1 y2 y3 y4 y5, LeO (furrowref14_Same.j1 k y0 y1 y2 y3 y4 y5) (furrowref14_Same.j1 (k + 1) y0 y1 y2 y3 y4 y5))
 | 0 => by refine ⟨?_, ?_⟩ <;> intros <;> exact fun r h => by simp [furrowref14_Same.l0, furrowref14_Same.j1] at h
 | k + 1 => by
  obtain ⟨i0_, i1_⟩ := furrowref14_Same.mono_l k; refine ⟨?_, ?_⟩ <;> intros
  ·unfold furrowref14_Same.l0; exact lO_
  ·unfold furrowref14_Same.j1; exact lO_
theorem furrowref14_Same.mono : ∀ a0 a1 a2 a3 k, LeO (furrowref14_Same.f k a0 a1 a2 a3) (furrowref14_Same.f (k + 1) a0 a1 a2 a3) := by
 intro a0 a1 a2 a3 k
 obtain ⟨i0_, i1_⟩ := furrowref14_Same.mono_l k; unfold furrowref14_Same.f; exact lO_
set_option maxHeartbeats 8000000 in
set_option maxRecDepth 100000 in
theorem furrowref14_Same.calls (k : Nat) (A0_0 : Option Addr) (c0_0 : Nat) (l0_0 : List Int) (a0_1 : Int) (A1_0 : Option Addr) (c1_0 : Nat) (l1_0 : List Int) (a1_1 : Int) (r : Bool) (w : World) (hr0_0 : Kd.C (Kd.int .i64) w A0_0 l0_0.length l0_0) (hc0_0 : l0_0.length ≤ c0_0) (hr1_0 : Kd.C (Kd.int .i64) w A1_0 l1_0.length l1_0) (hc1_0 : l1_0.length ≤ c1_0) (h : furrowref14_Same.f k l0_0 a0_1 l1_0 a1_1 = some r) :
  Calls Tryz.prog 15 #[.agg #[.slice A0_0 l0_0.length c0_0, .int .i64 a0_1], .agg #[.slice A1_0 l1_0.length c1_0, .int .i64 a1_1]] w fun e w' => e = .returned (.bool r) ∧ Below w.heap.size w w' := by
 have hu39 := Tryz.underlying39
 have aq := mk0 hr0_0
 have ar := mk0 hc0_0
 clear hr0_0 hc0_0
 have au := mk0 hr1_0
 have av := mk0 hc1_0
 clear hr1_0 hc1_0
 have HB := mk0 (Below.refl w.heap.size w)
 have H : (furrowref14_Same.l0 k 0 l0_0 a0_1 l1_0 a1_1) = some r := h
 clear h
 have H' := mk0 H
 clear H
 go_enter Tryz.func15, Tryz.ntmps15
 go_wp2_with (first | ((with_reducible refine gate_dst (N := 2) rfl ?_); (try (refine gate_guard (by rfl) ?_; dsimp only)); refine bxE 2 #[.slice A0_0 l0_0.length c0_0, .int .i64 a0_1] 39 ?_; intro ac hg w3 hbox hb; have aa := mk0 (hbox); have aC := gE (uL HB.out) hg; replace HB := hbB (uL HB.out) hb; clear hb hbox hg) | ((with_reducible refine gate_dst (N := 3) rfl ?_); (try (refine gate_guard (by rfl) ?_; dsimp only)); refine bxE 3 #[.slice A1_0 l1_0.length c1_0, .int .i64 a1_1] 39 ?_; intro ae hg w4 hbox hb; have ab := mk0 (hbox); have aD := gE bH hg; replace HB := hbB bH hb; have ak := nL aa hg; have al := nG aa hg; replace aa := bB aa hb; clear hb hbox hg))
 go_loopg [5] k (fun kq v5 w' => ∃ (x5_1 : Int), v5 = .int .i64 x5_1 ∧ Aside0 (furrowref14_Same.l0 kq x5_1 l0_0 a0_1 l1_0 a1_1 = some r) ∧ Aside0 (kq ≤ k) ∧ Aside0 (w'.heap[ac]? = some (.cells #[(.slice A0_0 l0_0.length c0_0), .int .i64 a0_1] 39 (0, 0))) ∧ Aside0 (w'.heap[ae]? = some (.cells #[(.slice A1_0 l1_0.length c1_0), .int .i64 a1_1] 39 (0, 0))) ∧ Aside0 (Below w.heap.size w w'))
 case atStart => exact ⟨(0), eK, H', ⟨Nat.le_refl _⟩, ⟨uB aa.out⟩, ⟨uB ab.out⟩, ⟨bH⟩⟩
 case round =>
  clear H'; obtain ⟨x5_1, rfl, HA, ah, aa, ab, HB⟩ := hrel
  cases gk with
  | zero => exact absurd HA.out (by simp [furrowref14_Same.l0])
  | succ k1 =>
   have H := HA.out; clear HA; simp only [furrowref14_Same.l0] at H; have am := mk0 H; clear H
   go_upto_region 2 with (fail)
   go_cut [17] (fun v17 wc => ∃ (kq : Nat) (ai : Bool), v17 = .bool ai ∧ Aside0 (furrowref14_Same.j1 kq x5_1 ai l0_0 a0_1 l1_0 a1_1 = some r) ∧ Aside0 (kq ≤ k1) ∧ Aside0 (wc.heap[ac]? = some (.cells #[(.slice A0_0 l0_0.length c0_0), .int .i64 a0_1] 39 (0, 0))) ∧ Aside0 (wc.heap[ae]? = some (.cells #[(.slice A1_0 l1_0.length c1_0), .int .i64 a1_1] 39 (0, 0))) ∧ Aside0 (Below w.heap.size w wc))
   case first =>
    have H := am.out; clear am
    by_cases c6 : x5_1 < (l0_0.length : Int)
    ·rw [if_pos c6] at H
     have af := decide_eq_true c6; clear c6; (first | rw [af] | (simp only [i64_w, i32_w]; rw [af]) | skip); have H' := mk0 H; clear H; have aE := ak.out; have aG := al.out; obtain ⟨aH, aI, aJ, aK⟩ := cL2 aa; go_wp2
     go_meet
     case rel => exact ⟨_, (true), eK, H', ⟨by have := ah.out; first | omega | exact Nat.le_refl _⟩, ⟨uB aa.out⟩, ⟨uB ab.out⟩, ⟨bH⟩⟩
    ·rw [if_neg c6] at H
     have af := decide_eq_false c6; clear c6; (first | rw [af] | (simp only [i64_w, i32_w]; rw [af]) | skip); have H' := mk0 H; clear H; have aM := ak.out; have aN := al.out; obtain ⟨aQ, aT, aU, aV⟩ := cL2 aa; obtain ⟨aW, aX, aY, aZ⟩ := cL2 ab; go_wp2
     go_meet
     case rel => exact ⟨_, (decide (x5_1 < (l1_0.length : Int))), eK, H', ⟨by have := ah.out; first | omega | exact Nat.le_refl _⟩, ⟨uB aa.out⟩, ⟨uB ab.out⟩, ⟨bH⟩⟩
   case rest =>
    clear am; obtain ⟨kq, ai, rfl, HA, aw, aa, ab, HB⟩ := hcut
    cases kq with
    | zero => exact absurd HA.out (by simp [furrowref14_Same.j1])
    | succ kj4 =>
     have H := HA.out; clear HA; simp only [furrowref14_Same.j1] at H
     by_cases aj : ai = true
     ·subst aj
      replace H := iT H; obtain ⟨ao, ax, H⟩ := oB H; obtain ⟨ap, ay, H⟩ := oB H
      by_cases ag : ao = ap
      ·rw [if_pos ag] at H
       obtain ⟨az, aA⟩ := yQ ag; clear ag; have H' := mk0 H; clear H; (try go_wp2); replace aa := mk0 (blk_drew aa.out); replace ab := mk0 (blk_drew ab.out); replace HB := mk0 (below_drew1 HB.out); refine start_ (n := 7) (S := fun w' => w'.cell? ⟨ac, 0, none⟩ = some (.slice A0_0 l0_0.length c0_0) ∧ w'.cell? ⟨ac, 1, none⟩ = some (.int .i64 a0_1) ∧ w'.cell? ⟨ae, 0, none⟩ = some (.slice A1_0 l1_0.length c1_0) ∧ w'.cell? ⟨ae, 1, none⟩ = some (.int .i64 a1_1)) (ds := []) (bts 7 0) (by kernel_rfl) rfl rfl ⟨(blk_cell aa.out 0).trans rfl, (blk_cell aa.out 1).trans rfl, (blk_cell ab.out 0).trans rfl, (blk_cell ab.out 1).trans rfl⟩ (fun hHeld => ?_); generalize wc.drew = a_ at aa ab HB hHeld ⊢; refine pure_ (i := 1) (N := some 21) (v := ?_) (a' := ?_) (bts 7 2) rfl rfl (by kernel_rfl) (fun _ _ _ h => h) (Or.inl ⟨by rfl, ?_⟩) ?_ ?_; rotate_left
       ·intro w'
        go_simp; (with_reducible rfl)
       rotate_left
       ·simp only [AP, i64_w, i32_w]
        rfl
       refine pure_ (i := 4) (N := some 24) (v := ?_) (a' := ?_) (bts 7 18) rfl rfl (by kernel_rfl) (fun _ _ _ h => h) (Or.inl ⟨by rfl, ?_⟩) ?_ ?_; rotate_left
       ·intro w'
        go_simp; (with_reducible rfl)
       rotate_left
       ·simp only [AP, i64_w, i32_w]
        rfl
       refine take_ (i := 0) (N := some 20) (v := ?_) (a' := ?_) (bts 7 19) rfl rfl (by kernel_rfl) (fun _ _ _ h => h) (Or.inl ⟨by rfl, ?_⟩) hHeld ?_ ?_; rotate_left
       ·rintro w' ⟨s0, s1, s2, s3⟩
        go_simp; (with_reducible rfl)
       rotate_left
       ·simp only [AP, i64_w, i32_w]
        rfl
       refine take_ (i := 3) (N := some 23) (v := ?_) (a' := ?_) (bts 7 27) rfl rfl (by kernel_rfl) (fun _ _ _ h => h) (Or.inl ⟨by rfl, ?_⟩) hHeld ?_ ?_; rotate_left
       ·rintro w' ⟨s0, s1, s2, s3⟩
        go_simp; (with_reducible rfl)
       rotate_left
       ·simp only [AP, i64_w, i32_w]
        rfl
       refine one_ (i := 2) (N := some 22) (bts 7 31) rfl rfl (by kernel_rfl) (by decide) (fun K hK => ?_); refine goes_ Tryz.func38 (by kernel_rfl) rfl #[.agg #[.slice A0_0 l0_0.length c0_0, .int .i64 a0_1], .int .i64 x5_1] (by rfl) rfl rfl (by (try simp only [List.map_toArray, List.map_cons, List.map_nil]); first | done | rfl | (simp only [List.length_drop, List.length_take]; rfl)) ?_; (with_reducible refine (furrowref14_coef.calls _ _ l0_0 a0_1 x5_1 ao _ ?side1 ?side2 ax.out).mono ?_); (case side1 => exact uC (Kd.C_below aq.out HB.out)); (case side2 => exact ar.out); rintro e bf ⟨rfl, hb⟩; refine ⟨_, rfl, ?_⟩; replace aa := bB aa hb; replace ab := bB ab hb; replace HB := hbB bH hb; (try clear hb); refine hK.out _ _ ⟨(blk_cell aa.out 0).trans rfl, (blk_cell aa.out 1).trans rfl, (blk_cell ab.out 0).trans rfl, (blk_cell ab.out 1).trans rfl⟩ (fun hHeld => ?_); clear hK K; refine norm_ (a' := ?_) ?_ ?_; rotate_left
       ·show Act.put _ (some 22) _ = _
        simp only [AP, i64_w, i32_w]; rfl
       refine one_ (i := 5) (N := some 25) (bts 7 63) rfl rfl (by kernel_rfl) (by decide) (fun K hK => ?_); refine goes_ Tryz.func38 (by kernel_rfl) rfl #[.agg #[.slice A1_0 l1_0.length c1_0, .int .i64 a1_1], .int .i64 x5_1] (by rfl) rfl rfl (by (try simp only [List.map_toArray, List.map_cons, List.map_nil]); first | done | rfl | (simp only [List.length_drop, List.length_take]; rfl)) ?_; (with_reducible refine (furrowref14_coef.calls _ _ l1_0 a1_1 x5_1 ap _ ?side1 ?side2 ay.out).mono ?_); (case side1 => exact uC (Kd.C_below au.out HB.out)); (case side2 => exact av.out); rintro e bg ⟨rfl, hb⟩; refine ⟨_, rfl, ?_⟩; replace aa := bB aa hb; replace ab := bB ab hb; replace HB := hbB bH hb; (try clear hb); refine hK.out _ _ ⟨(blk_cell aa.out 0).trans rfl, (blk_cell aa.out 1).trans rfl, (blk_cell ab.out 0).trans rfl, (blk_cell ab.out 1).trans rfl⟩ (fun hHeld => ?_); clear hK K; refine norm_ (a' := ?_) ?_ ?_; rotate_left
       ·show Act.put _ (some 25) _ = _
        simp only [AP, i64_w, i32_w]; rfl
       refine pure_ (i := 6) (N := some 26) (v := ?_) (a' := ?_) (bts 7 127) rfl rfl (by kernel_rfl) (fun _ _ _ h => h) (Or.inl ⟨by rfl, ?_⟩) ?_ ?_; rotate_left
       ·intro w'
        go_simp; (with_reducible rfl)
       rotate_left
       ·simp only [AP, i64_w, i32_w]
        rfl
       refine done_ (by kernel_rfl) ?_; (try go_wp2)
       go_roundg kj4
       case measure => have := ah.out; have := aw.out; omega
       case rel => exact ⟨(wrap64 (x5_1 + 1)), eK, H', ⟨by have := ah.out; have := aw.out; omega⟩, ⟨uB aa.out⟩, ⟨uB ab.out⟩, ⟨bH⟩⟩
      ·rw [if_neg ag] at H
       obtain ⟨az, aA⟩ := nQ ag; obtain rfl := Option.some.inj H; (try go_wp2); replace aa := mk0 (blk_drew aa.out); replace ab := mk0 (blk_drew ab.out); replace HB := mk0 (below_drew1 HB.out); refine start_ (n := 7) (S := fun w' => w'.cell? ⟨ac, 0, none⟩ = some (.slice A0_0 l0_0.length c0_0) ∧ w'.cell? ⟨ac, 1, none⟩ = some (.int .i64 a0_1) ∧ w'.cell? ⟨ae, 0, none⟩ = some (.slice A1_0 l1_0.length c1_0) ∧ w'.cell? ⟨ae, 1, none⟩ = some (.int .i64 a1_1)) (ds := []) (bts 7 0) (by kernel_rfl) rfl rfl ⟨(blk_cell aa.out 0).trans rfl, (blk_cell aa.out 1).trans rfl, (blk_cell ab.out 0).trans rfl, (blk_cell ab.out 1).trans rfl⟩ (fun hHeld => ?_); generalize wc.drew = bh at aa ab HB hHeld ⊢; refine pure_ (i := 1) (N := some 21) (v := ?_) (a' := ?_) (bts 7 2) rfl rfl (by kernel_rfl) (fun _ _ _ h => h) (Or.inl ⟨by rfl, ?_⟩) ?_ ?_; rotate_left
       ·intro w'
        go_simp; (with_reducible rfl)
       rotate_left
       ·simp only [AP, i64_w, i32_w]
        rfl
       refine pure_ (i := 4) (N := some 24) (v := ?_) (a' := ?_) (bts 7 18) rfl rfl (by kernel_rfl) (fun _ _ _ h => h) (Or.inl ⟨by rfl, ?_⟩) ?_ ?_; rotate_left
       ·intro w'
        go_simp; (with_reducible rfl)
       rotate_left
       ·simp only [AP, i64_w, i32_w]
        rfl
       refine take_ (i := 0) (N := some 20) (v := ?_) (a' := ?_) (bts 7 19) rfl rfl (by kernel_rfl) (fun _ _ _ h => h) (Or.inl ⟨by rfl, ?_⟩) hHeld ?_ ?_; rotate_left
       ·rintro w' ⟨s0, s1, s2, s3⟩
        go_simp; (with_reducible rfl)
       rotate_left
       ·simp only [AP, i64_w, i32_w]
        rfl
       refine take_ (i := 3) (N := some 23) (v := ?_) (a' := ?_) (bts 7 27) rfl rfl (by kernel_rfl) (fun _ _ _ h => h) (Or.inl ⟨by rfl, ?_⟩) hHeld ?_ ?_; rotate_left
       ·rintro w' ⟨s0, s1, s2, s3⟩
        go_simp; (with_reducible rfl)
       rotate_left
       ·simp only [AP, i64_w, i32_w]
        rfl
       refine one_ (i := 2) (N := some 22) (bts 7 31) rfl rfl (by kernel_rfl) (by decide) (fun K hK => ?_); refine goes_ Tryz.func38 (by kernel_rfl) rfl #[.agg #[.slice A0_0 l0_0.length c0_0, .int .i64 a0_1], .int .i64 x5_1] (by rfl) rfl rfl (by (try simp only [List.map_toArray, List.map_cons, List.map_nil]); first | done | rfl | (simp only [List.length_drop, List.length_take]; rfl)) ?_; (with_reducible refine (furrowref14_coef.calls _ _ l0_0 a0_1 x5_1 ao _ ?side1 ?side2 ax.out).mono ?_); (case side1 => exact uC (Kd.C_below aq.out HB.out)); (case side2 => exact ar.out); rintro e bi ⟨rfl, hb⟩; refine ⟨_, rfl, ?_⟩; replace aa := bB aa hb; replace ab := bB ab hb; replace HB := hbB bH hb; (try clear hb); refine hK.out _ _ ⟨(blk_cell aa.out 0).trans rfl, (blk_cell aa.out 1).trans rfl, (blk_cell ab.out 0).trans rfl, (blk_cell ab.out 1).trans rfl⟩ (fun hHeld => ?_); clear hK K; refine norm_ (a' := ?_) ?_ ?_; rotate_left
       ·show Act.put _ (some 22) _ = _
        simp only [AP, i64_w, i32_w]; rfl
       refine one_ (i := 5) (N := some 25) (bts 7 63) rfl rfl (by kernel_rfl) (by decide) (fun K hK => ?_); refine goes_ Tryz.func38 (by kernel_rfl) rfl #[.agg #[.slice A1_0 l1_0.length c1_0, .int .i64 a1_1], .int .i64 x5_1] (by rfl) rfl rfl (by (try simp only [List.map_toArray, List.map_cons, List.map_nil]); first | done | rfl | (simp only [List.length_drop, List.length_take]; rfl)) ?_; (with_reducible refine (furrowref14_coef.calls _ _ l1_0 a1_1 x5_1 ap _ ?side1 ?side2 ay.out).mono ?_); (case side1 => exact uC (Kd.C_below au.out HB.out)); (case side2 => exact av.out); rintro e bj ⟨rfl, hb⟩; refine ⟨_, rfl, ?_⟩; replace aa := bB aa hb; replace ab := bB ab hb; replace HB := hbB bH hb; (try clear hb); refine hK.out _ _ ⟨(blk_cell aa.out 0).trans rfl, (blk_cell aa.out 1).trans rfl, (blk_cell ab.out 0).trans rfl, (blk_cell ab.out 1).trans rfl⟩ (fun hHeld => ?_); clear hK K; refine norm_ (a' := ?_) ?_ ?_; rotate_left
       ·show Act.put _ (some 25) _ = _
        simp only [AP, i64_w, i32_w]; rfl
       refine pure_ (i := 6) (N := some 26) (v := ?_) (a' := ?_) (bts 7 127) rfl rfl (by kernel_rfl) (fun _ _ _ h => h) (Or.inl ⟨by rfl, ?_⟩) ?_ ?_; rotate_left
       ·intro w'
        go_simp; (with_reducible rfl)
       rotate_left
       ·simp only [AP, i64_w, i32_w]
        rfl
       refine done_ (by kernel_rfl) ?_; (try go_wp2); go_ret; exact ⟨rE, bH⟩
     ·replace aj := Bool.eq_false_iff.mpr aj
      subst aj; replace H := iF H; obtain rfl := Option.some.inj H; have bk := ak.out; have bl := al.out; obtain ⟨bm, bn, bo, bp⟩ := cL2 aa; obtain ⟨bq, br, bs, bu⟩ := cL2 ab; go_wp2; go_ret; exact ⟨rE, bH⟩

/-! ### furrowlaw11_Of: function 16 -/
def furrowlaw11_Of.f (l0_0 : List Int) (a0_1 : Int) : Option (List Int × Int) := some (l0_0, a0_1)
set_option maxHeartbeats 8000000 in
set_option maxRecDepth 100000 in
theorem furrowlaw11_Of.calls (P0_0_ : Nat → Prop) (A0_0 : Option Addr) (c0_0 : Nat) (l0_0 : List Int) (a0_1 : Int) (r1 : List Int) (r2 : Int) (w : World) (hs0_0 : Kd.V (Kd.int .i64) 2 w w.heap.size (fun k_ => P0_0_ k_) (.slice A0_0 l0_0.length c0_0) l0_0) (h : furrowlaw11_Of.f l0_0 a0_1 = some (r1, r2)) :
  Calls Tryz.prog 16 #[.agg #[.slice A0_0 l0_0.length c0_0, .int .i64 a0_1]] w fun e w' => ∃ v0_ : Value, e = .returned (.agg #[v0_, .int .i64 r2]) ∧ Kd.V (Kd.int .i64) 2 w' w.heap.size (fun k_ => (P0_0_ k_ ∨ w.heap.size ≤ k_)) v0_ r1 ∧ Below w.heap.size w w' := by
 have hu46 := Tryz.underlying46
 have hu39 := Tryz.underlying39
 have HO0_0 := mk0 (show Kd.V (Kd.int .i64) 2 w w.heap.size (fun k_ => (P0_0_ k_ ∨ w.heap.size ≤ k_)) (.slice A0_0 l0_0.length c0_0) l0_0 from Kd.V_mono hs0_0 (fun k_ hk => .inl hk))
 have HB := mk0 (Below.refl w.heap.size w)
 have H : (some (l0_0, a0_1)) = some (r1, r2) := h
 clear h
 simp only [Option.some.injEq, Prod.mk.injEq] at H
 obtain ⟨rfl, rfl⟩ := H
 go_enter Tryz.func16, Tryz.ntmps16
 go_wp2_with (first | ((with_reducible refine gate_dst (N := 1) rfl ?_); refine bxE 1 #[.slice A0_0 l0_0.length c0_0, .int .i64 a0_1] 46 ?_; intro gb850 hg w2 hbox hb; replace HO0_0 := vD HO0_0 gb850 hg hb; have BK850 := mk0 (hbox); have GW850 := gE (uL HB.out) hg; replace HB := hbB (uL HB.out) hb; clear hb hbox hg) | ((with_reducible refine gate_dst (N := 2) rfl ?_); refine bxE 2 #[.slice none 0 0, .int .i64 0] 39 ?_; intro gb851 hg w3 hbox hb; replace HO0_0 := vD HO0_0 gb851 hg hb; have BK851 := mk0 (hbox); have GW851 := gE bH hg; replace HB := hbB bH hb; have NB850_851 := nL BK850 hg; have NB851_850 := nG BK850 hg; replace BK850 := bB BK850 hb; clear hb hbox hg; have hnb4 := NB850_851.out; have hnc4 := NB851_850.out; obtain ⟨hcz5_0, hcz5_1, hfz5_0, hfz5_1⟩ := cL2 BK850; obtain ⟨hcz6_0, hcz6_1, hfz6_0, hfz6_1⟩ := cL2 BK851))
 refine bodyPost_ret (results_cell_row rfl _ _ gb851 39 #[.slice A0_0 l0_0.length c0_0, .int .i64 a0_1] (0, 0) _ rfl (kB) Tryz.underlying39 rfl (by kernel_rfl)) rfl ?_
 exact ⟨_, rE, uV (Kd.V_mono (Kd.V_far (p := ⟨gb851, 1, none⟩) (Kd.V_far (p := ⟨gb851, 0, none⟩) (Kd.V_mono HO0_0.out (fun k_ hk => (⟨hk, by first | exact hk.2 | exact hk.2.2⟩ : _ ∧ k_ ≠ gb851))) (fun _ hk => hk.2) (.slice A0_0 l0_0.length c0_0)) (fun _ hk => hk.2) (.int .i64 a0_1)) (fun _ hk => by first | exact hk.1.1.1 | exact hk.1.1)), bH⟩

end Go.Proofs.YtnkckdbjeemjeaaGreatDoor.X
