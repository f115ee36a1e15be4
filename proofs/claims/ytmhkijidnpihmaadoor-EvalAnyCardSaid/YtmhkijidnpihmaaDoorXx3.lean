-- PRINTED by print.py (a twelfth state) out of the translation. Not trusted: Lean checks it.
import Derived.Test.YtmhkijidnpihmaaDoorXx0
namespace Go.Proofs.YtmhkijidnpihmaaDoor.X
open Go.Proofs.YtmhkijidnpihmaaDoor.Flt Go.Proofs.YtmhkijidnpihmaaDoor.H Go.RowKit Go.Proofs.YtmhkijidnpihmaaDoorW.PrintWords Go.Proofs.YtmhkijidnpihmaaDoorW.PrintLast Go.Proofs.YtmhkijidnpihmaaDoorW.PrintMore
attribute [local go_sem] max2_int min2_int max_two min_two max_three min_three max_four min_four   -- for this text's walks alone
set_option linter.unusedVariables false
set_option linter.unusedSimpArgs false

/-! ### furrowlaw8_To: function 15 -/
def furrowlaw8_To.l0 : Nat → Int → List (S71) → Int → List (S64) → Int → Option ((List (S64)) × Int)
 | 0, _, _, _, _, _ => none
 | k + 1, x4, x144000, x144001, x146000, x146001 => if x4 < (x144000.length : Int) then (if 0 ≤ x4 then (if x146000.length < 2513169434916 then (furrowlaw8_To.l0 k (wrap64 (x4 + 1)) x144000 x144001 (x146000 ++ [(⟨(rd_T71 x144000 x4).f0, (rd_T71 x144000 x4).f1, (rd_T71 x144000 x4).f2, (rd_T71 x144000 x4).f3⟩ : S64)]) x146001) else (none)) else (none)) else (some (x146000, x146001))
def furrowlaw8_To.f (k : Nat) (l0_0 : List (S71)) (a0_1 : Int) : Option ((List (S64)) × Int) := furrowlaw8_To.l0 k 0 l0_0 a0_1 ([] : List (S64)) a0_1
theorem furrowlaw8_To.mono_l : ∀ k, (∀ y0 y1 y2 y3 y4, LeO (furrowlaw8_To.l0 k y0 y1 y2 y3 y4) (furrowlaw8_To.l0 (k + 1) y0 y1 y2 y3 y4))
 | 0 => fun _ _ _ _ _ r h => by simp [furrowlaw8_To.l0] at h
 | k + 1 => by
  have ih0 := furrowlaw8_To.mono_l k
  ·intro y0 y1 y2 y3 y4
   unfold furrowlaw8_To.l0
   repeat' first
   | (with_reducible exact ih0 _ _ _ _ _)
   | (with_reducible exact LeO.refl _)
   | (with_reducible exact LeO.none _)
   | (with_reducible refine LeO.ite ?_ ?_)
   | (with_reducible refine LeO.bind ?_ (fun _ => ?_))
   | exact ih0 _ _ _ _ _
   | exact LeO.none _
   | refine LeO.ite ?_ ?_
   | refine LeO.bind ?_ (fun _ => ?_)
theorem furrowlaw8_To.mono : ∀ a0 a1 k, LeO (furrowlaw8_To.f k a0 a1) (furrowlaw8_To.f (k + 1) a0 a1) := by
 intro a0 a1 k
 have ih0 := furrowlaw8_To.mono_l k
 unfold furrowlaw8_To.f
 repeat' first
   | (with_reducible exact ih0 _ _ _ _ _)
   | (with_reducible exact LeO.refl _)
   | (with_reducible exact LeO.none _)
   | (with_reducible refine LeO.ite ?_ ?_)
   | (with_reducible refine LeO.bind ?_ (fun _ => ?_))
   | exact ih0 _ _ _ _ _
   | exact LeO.none _
   | refine LeO.ite ?_ ?_
   | refine LeO.bind ?_ (fun _ => ?_)
def furrowlaw8_To.T5 : Bool × List (List Nat × List Nat) := (true, [([], []), ([0], [0]), ([], []), ([2], [2]), ([], []), ([3, 4], [3, 4]), ([5], [5]), ([6], [6]), ([], []), ([8], [8]), ([], []), ([9, 10], [9, 10]), ([11], [11]), ([12], [12]), ([], []), ([14], [14]), ([], []), ([15, 16], [15, 16]), ([17], [17]), ([18], [18]), ([], []), ([20], [20]), ([], []), ([21, 22], [21, 22]), ([23], [23]), ([24], [24]), ([7, 13, 19, 25], [7, 13, 19, 25]), ([26], [26]), ([1, 27], [1, 27]), ([0, 1, 2, 3, 4, 5, 6, 7, 8, 9, 10, 11, 12, 13, 14, 15, 16, 17, 18, 19, 20, 21, 22, 23, 24, 25, 26, 27, 28], []), ([29, 28, 28, 0, 1, 2, 3, 4, 5, 6, 7, 8, 9, 10, 11, 12, 13, 14, 15, 16, 17, 18, 19, 20, 21, 22, 23, 24, 25, 26, 27, 28], [28, 29])])
def furrowlaw8_To.B5 : List Nat := [0, 1, 0, 4, 0, 28, 60, 124, 0, 256, 0, 1792, 3840, 7936, 0, 16384, 0, 114688, 245760, 507904, 0, 1048576, 0, 7340032, 15728640, 32505856, 67108860, 134217724, 268435455, 536870911, 1073741823]
theorem furrowlaw8_To.tab5 : rtab .any (opsOf Tryd.f15 5) = furrowlaw8_To.T5 := by kernel_rfl
theorem furrowlaw8_To.bits5 : waitsOk furrowlaw8_To.T5.2 furrowlaw8_To.B5 = true := by kernel_rfl
set_option maxHeartbeats 8000000 in
set_option maxRecDepth 100000 in
theorem furrowlaw8_To.calls (k : Nat) (P0_0_ : Nat → Prop) (A0_0 : Option Addr) (c0_0 : Nat) (l0_0 : List (S71)) (a0_1 : Int) (r1 : List (S64)) (r2 : Int) (w : World) (hs0_0 : Kd.V k71 71 w w.heap.size (fun k_ => P0_0_ k_) (.slice A0_0 l0_0.length c0_0) l0_0) (h : furrowlaw8_To.f k l0_0 a0_1 = some (r1, r2)) :
  Calls Tryd.prog 15 #[.agg #[.slice A0_0 l0_0.length c0_0, .int .i64 a0_1]] w fun e w' => ∃ v0_ : Value, e = .returned (.agg #[v0_, .int .i64 r2]) ∧ Kd.N k64 64 w' w.heap.size (fun k_ => (P0_0_ k_ ∨ w.heap.size ≤ k_)) v0_ r1 ∧ Below w.heap.size w w' := by
 have hu29 := Tryd.underlying29
 have hu46 := Tryd.underlying46
 have hu64 := Tryd.underlying64
 have am := mk0 (show Kd.V k71 71 w w.heap.size (fun k_ => (P0_0_ k_ ∨ w.heap.size ≤ k_)) (.slice A0_0 l0_0.length c0_0) l0_0 from Kd.V_mono hs0_0 (fun k_ hk => .inl hk))
 have HB := mk0 (Below.refl w.heap.size w)
 have H : (furrowlaw8_To.l0 k 0 l0_0 a0_1 ([] : List (S64)) a0_1) = some (r1, r2) := h
 clear h
 have H' := mk0 H
 clear H
 go_enter Tryd.func15, Tryd.ntmps15
 go_wp2_with (first | ((with_reducible refine gate_dst (N := 1) rfl ?_); refine bxE 1 #[.slice A0_0 l0_0.length c0_0, .int .i64 a0_1] 29 ?_; intro ai hg w2 hbox hb; replace am := vD am ai hg hb; have ab := mk0 (hbox); have cD := gE (uL HB.out) hg; have cE := gE (uL HB.out) hg; replace HB := hbB (uL HB.out) hb; clear hb hbox hg) | ((with_reducible refine gate_dst (N := 2) rfl ?_); refine bxE 2 #[.slice none 0 0, .int .i64 0] 46 ?_; intro ah hg w3 hbox hb; replace am := vD am ah hg hb; have ag := mk0 (hbox); have cF := gE bH hg; have cG := gE bH hg; replace HB := hbB bH hb; have aZ := nL ab hg; have a_ := nG ab hg; replace ab := bB ab hb; clear hb hbox hg; have cH := aZ.out; have cI := a_.out; obtain ⟨bZ, b3, b4, b5⟩ := cL2 ab) | ((with_reducible refine gate_dst (N := 3) rfl ?_); refine bxE 3 #[.slice none 0 0, .int .i64 0] 46 ?_; intro af hg w6 hbox hb; replace am := vD am af hg hb; have ae := mk0 (hbox); have cJ := gE bH hg; have cK := gE bH hg; replace HB := hbB bH hb; have aw := nL ab hg; have ax := nG ab hg; replace ab := bB ab hb; have ba := nL ag hg; have bb := nG ag hg; replace ag := bB ag hb; clear hb hbox hg; have cL := ax.out; have cM := aw.out; have cN := bb.out; have cO := ba.out; obtain ⟨b6, b7, b8, b9⟩ := cL2 ae))
 go_loopg [4] k (fun kq v4 w' => ∃ (x4_1 : Int) (al : List (S64)) (aj : Value), v4 = .int .i64 x4_1 ∧ Aside0 (furrowlaw8_To.l0 kq x4_1 l0_0 a0_1 al a0_1 = some (r1, r2)) ∧ Aside0 (kq ≤ k) ∧ Aside0 (Kd.V k71 71 w' w.heap.size (fun k_ => (P0_0_ k_ ∨ w.heap.size ≤ k_) ∧ some k_ ≠ (aj : Value).ownBlock ∧ k_ ≠ ai ∧ k_ ≠ ah ∧ k_ ≠ af) (.slice A0_0 l0_0.length c0_0) l0_0) ∧ Aside0 (Kd.N k64 64 w' w.heap.size (fun k_ => (P0_0_ k_ ∨ w.heap.size ≤ k_) ∧ k_ ≠ ai ∧ k_ ≠ ah ∧ k_ ≠ af) aj al) ∧ Aside0 (w'.heap[ai]? = some (.cells #[(.slice A0_0 l0_0.length c0_0), .int .i64 a0_1] 29 (0, 0))) ∧ Aside0 (w'.heap[ah]? = some (.cells #[(.slice none 0 0), .int .i64 0] 46 (0, 0))) ∧ Aside0 (w'.heap[af]? = some (.cells #[aj, .int .i64 a0_1] 46 (0, 0))) ∧ Aside0 (Below w.heap.size w w'))
 case atStart => exact ⟨(0), (([] : List (S64))), (.slice none 0 0), eK, H', ⟨Nat.le_refl _⟩, ⟨uV (Kd.V_mono (Kd.V_far (p := ⟨af, 1, none⟩) (Kd.V_far (p := ⟨af, 0, none⟩) (Kd.V_mono am.out (fun k_ hk => (⟨hk, hk.2⟩ : _ ∧ k_ ≠ af))) (fun _ hk => hk.2) (.slice none 0 0)) (fun _ hk => hk.2) (.int .i64 a0_1)) (fun _ hk => ⟨hk.1.1.1.1, ⟨(by simp [Value.ownBlock]), ⟨hk.1.1.1.2, ⟨hk.1.1.2, hk.1.2⟩⟩⟩⟩))⟩, ⟨nK⟩, ⟨kB⟩, ⟨kB⟩, ⟨kB⟩, ⟨bH⟩⟩
 case round =>
  clear H'; (try clear bZ b3 b6 b7 b4 b5 b8 b9); obtain ⟨x4_1, al, aj, rfl, HA, bo, ac, ak, ab, ag, ae, HB⟩ := hrel
  cases gk with
  | zero => exact absurd HA.out (by simp [furrowlaw8_To.l0])
  | succ k1 =>
   have H := HA.out; clear HA; simp only [furrowlaw8_To.l0] at H
   by_cases ao : x4_1 < (l0_0.length : Int)
   ·rw [if_pos ao] at H
    have ca := decide_eq_true ao; clear ao
    by_cases ay : 0 ≤ x4_1
    ·rw [if_pos ay] at H
     have cP := decide_eq_true ay; clear ay
     by_cases az : al.length < 2513169434916
     ·rw [if_pos az] at H
      have cb := mk0 az; clear az; obtain ⟨ar, bc⟩ : ∃ y_ : List (S64), y_ = (al ++ [(⟨(rd_T71 l0_0 x4_1).f0, (rd_T71 l0_0 x4_1).f1, (rd_T71 l0_0 x4_1).f2, (rd_T71 l0_0 x4_1).f3⟩ : S64)]) := ⟨_, rfl⟩; (replace H : (furrowlaw8_To.l0 k1 (wrap64 (x4_1 + 1)) l0_0 a0_1 ar a0_1) = some (r1, r2) := by (try rw [bc]); first | with_reducible exact H | with_reducible exact oN H | exact H); have cd := mk0 bc; clear bc; have H' := mk0 H; clear H; have cR := aZ.out; have cS := a_.out; have cT := aw.out; have cU := ax.out; obtain ⟨cV, cW, cX, cY⟩ := cL2 ab; (try go_wp2); replace ac := mk0 (Kd.V_drew ac.out); replace ak := mk0 (Kd.N_drew ak.out); replace ab := mk0 (blk_drew ab.out); replace ag := mk0 (blk_drew ag.out); replace ae := mk0 (blk_drew ae.out); replace HB := mk0 (below_drew1 HB.out); have aA : 0 ≤ (x4_1 : Int) := dY; have aC : x4_1 < (l0_0.length : Int) := dY; obtain ⟨aa, au, av, ce, bp, ap, bq, br, bs, bu⟩ := at_T71 (Kd.V_reads' ac.out).2.2 x4_1 aA aC
      cases ce
      obtain ⟨cZ, cf, cg, bv⟩ := Kd.V_get ac.out z71 x4_1 aA (by first | exact aC | exact dY | (have e_ := (Kd.V_reads' ac.out).1; omega)); obtain ⟨c_, da, rfl, bd, bf⟩ := k71_openF cg; have aD := bv 1 _ rfl; rw [add_field _ _ 1 (by omega)] at aD; replace aD := Option.some.inj (aD.symm.trans ap); injection aD with hva_ hvn_ hvc_; rw [hva_] at bf; rw [hvc_] at bd; have aE := mk0 (show Kd.V (Kd.int .i64) 2 _ w.heap.size _ _ ((rd_T71 l0_0 x4_1).f1) from Kd.V_mk bd bf); clear hva_ hvn_ hvc_ bf bd; clear bv cf; have ch := mk0 bu; have db := mk0 bs; clear bu bs; replace aA := eq_true aA; replace aC := eq_true aC; have aG : 0 ≤ (x4_1 : Int) := dY; have aH : x4_1 < (l0_0.length : Int) := dY; obtain ⟨ci, dc, dd, cj, bw, aI, bx, bz, bC, bE⟩ := at_T71 (Kd.V_reads' ac.out).2.2 x4_1 aG aH; obtain rfl : aa = ci := (by injection cj); obtain ⟨de, ck, cl, bF⟩ := Kd.V_get ac.out z71 x4_1 aG (by first | exact aH | exact dY | (have e_ := (Kd.V_reads' ac.out).1; omega)); obtain ⟨df, dg, rfl, bg, bh⟩ := k71_openF cl; have aJ := bF 1 _ rfl; rw [add_field _ _ 1 (by omega)] at aJ; replace aJ := Option.some.inj (aJ.symm.trans aI); injection aJ with hva_ hvn_ hvc_; rw [hva_] at bh; rw [hvc_] at bg; have aq := mk0 (show Kd.V (Kd.int .i64) 2 _ w.heap.size _ _ ((rd_T71 l0_0 x4_1).f1) from Kd.V_mk bg bh); clear hva_ hvn_ hvc_ bh bg; clear bF ck; have cm := mk0 bE; have dh := mk0 bC; clear bE bC; replace aG := eq_true aG; replace aH := eq_true aH; have ea_ := Option.some.inj (ap.symm.trans aI); injection ea_ with ea_ en_ ec_; subst ea_; subst ec_; clear en_; have aK : 0 ≤ (x4_1 : Int) := dY; have aM : x4_1 < (l0_0.length : Int) := dY; obtain ⟨cn, di, dj, cp, bG, aN, bI, bJ, bK, bL⟩ := at_T71 (Kd.V_reads' ac.out).2.2 x4_1 aK aM; obtain rfl : aa = cn := (by injection cp); obtain ⟨dk, cq, cr, bM⟩ := Kd.V_get ac.out z71 x4_1 aK (by first | exact aM | exact dY | (have e_ := (Kd.V_reads' ac.out).1; omega)); obtain ⟨dl, dn, rfl, bi, bj⟩ := k71_openF cr; have aQ := bM 1 _ rfl; rw [add_field _ _ 1 (by omega)] at aQ; replace aQ := Option.some.inj (aQ.symm.trans aN); injection aQ with hva_ hvn_ hvc_; rw [hva_] at bj; rw [hvc_] at bi; have aT := mk0 (show Kd.V (Kd.int .i64) 2 _ w.heap.size _ _ ((rd_T71 l0_0 x4_1).f1) from Kd.V_mk bi bj); clear hva_ hvn_ hvc_ bj bi; clear bM cq; have ct := mk0 bL; have dp := mk0 bK; clear bL bK; replace aK := eq_true aK; replace aM := eq_true aM; have ea_ := Option.some.inj (ap.symm.trans aN); injection ea_ with ea_ en_ ec_; subst ea_; subst ec_; clear en_; have aU : 0 ≤ (x4_1 : Int) := dY; have aV : x4_1 < (l0_0.length : Int) := dY; obtain ⟨cu, dq, dr, cv, bO, aW, bP, bQ, bR, bT⟩ := at_T71 (Kd.V_reads' ac.out).2.2 x4_1 aU aV; obtain rfl : aa = cu := (by injection cv); obtain ⟨dt, cw, cx, bU⟩ := Kd.V_get ac.out z71 x4_1 aU (by first | exact aV | exact dY | (have e_ := (Kd.V_reads' ac.out).1; omega)); obtain ⟨du, dv, rfl, bk, bl⟩ := k71_openF cx; have aX := bU 1 _ rfl; rw [add_field _ _ 1 (by omega)] at aX; replace aX := Option.some.inj (aX.symm.trans aW); injection aX with hva_ hvn_ hvc_; rw [hva_] at bl; rw [hvc_] at bk; have aY := mk0 (show Kd.V (Kd.int .i64) 2 _ w.heap.size _ _ ((rd_T71 l0_0 x4_1).f1) from Kd.V_mk bk bl); clear hva_ hvn_ hvc_ bl bk; clear bU cw; have cy := mk0 bT; have dw := mk0 bR; clear bT bR; replace aU := eq_true aU; replace aV := eq_true aV; have ea_ := Option.some.inj (ap.symm.trans aW); injection ea_ with ea_ en_ ec_; subst ea_; subst ec_; clear en_; refine start_ (n := 31) (S := fun w' => w'.cell? ⟨af, 0, none⟩ = some (aj) ∧ w'.cell? ⟨af, 1, none⟩ = some (.int .i64 a0_1) ∧ w'.cell? ⟨ai, 0, none⟩ = some (.slice (some aa) l0_0.length c0_0) ∧ w'.cell? ⟨ai, 1, none⟩ = some (.int .i64 a0_1) ∧ w'.cell? (aa.add ((x4_1).toNat * 4)) = some (.string ((rd_T71 l0_0 x4_1).f0)) ∧ w'.cell? ⟨(aa.add ((x4_1).toNat * 4)).block, (aa.add ((x4_1).toNat * 4)).off + 1, none⟩ = some (.slice au ((rd_T71 l0_0 x4_1).f1).length av) ∧ w'.cell? ⟨(aa.add ((x4_1).toNat * 4)).block, (aa.add ((x4_1).toNat * 4)).off + 2, none⟩ = some (.int .i64 ((rd_T71 l0_0 x4_1).f2)) ∧ w'.cell? ⟨(aa.add ((x4_1).toNat * 4)).block, (aa.add ((x4_1).toNat * 4)).off + 3, none⟩ = some (.int .i64 ((rd_T71 l0_0 x4_1).f3)) ∧ w'.cell? (aa.add ((x4_1).toNat * 4)) = some (.string ((rd_T71 l0_0 x4_1).f0)) ∧ w'.cell? ⟨(aa.add ((x4_1).toNat * 4)).block, (aa.add ((x4_1).toNat * 4)).off + 1, none⟩ = some (.slice au ((rd_T71 l0_0 x4_1).f1).length av) ∧ w'.cell? ⟨(aa.add ((x4_1).toNat * 4)).block, (aa.add ((x4_1).toNat * 4)).off + 2, none⟩ = some (.int .i64 ((rd_T71 l0_0 x4_1).f2)) ∧ w'.cell? ⟨(aa.add ((x4_1).toNat * 4)).block, (aa.add ((x4_1).toNat * 4)).off + 3, none⟩ = some (.int .i64 ((rd_T71 l0_0 x4_1).f3)) ∧ w'.cell? (aa.add ((x4_1).toNat * 4)) = some (.string ((rd_T71 l0_0 x4_1).f0)) ∧ w'.cell? ⟨(aa.add ((x4_1).toNat * 4)).block, (aa.add ((x4_1).toNat * 4)).off + 1, none⟩ = some (.slice au ((rd_T71 l0_0 x4_1).f1).length av) ∧ w'.cell? ⟨(aa.add ((x4_1).toNat * 4)).block, (aa.add ((x4_1).toNat * 4)).off + 2, none⟩ = some (.int .i64 ((rd_T71 l0_0 x4_1).f2)) ∧ w'.cell? ⟨(aa.add ((x4_1).toNat * 4)).block, (aa.add ((x4_1).toNat * 4)).off + 3, none⟩ = some (.int .i64 ((rd_T71 l0_0 x4_1).f3)) ∧ w'.cell? (aa.add ((x4_1).toNat * 4)) = some (.string ((rd_T71 l0_0 x4_1).f0)) ∧ w'.cell? ⟨(aa.add ((x4_1).toNat * 4)).block, (aa.add ((x4_1).toNat * 4)).off + 1, none⟩ = some (.slice au ((rd_T71 l0_0 x4_1).f1).length av) ∧ w'.cell? ⟨(aa.add ((x4_1).toNat * 4)).block, (aa.add ((x4_1).toNat * 4)).off + 2, none⟩ = some (.int .i64 ((rd_T71 l0_0 x4_1).f2)) ∧ w'.cell? ⟨(aa.add ((x4_1).toNat * 4)).block, (aa.add ((x4_1).toNat * 4)).off + 3, none⟩ = some (.int .i64 ((rd_T71 l0_0 x4_1).f3))) (ds := [28, 30]) (bts 31 0) (by kernel_rfl) rfl rfl ⟨(blk_cell ae.out 0).trans rfl, (blk_cell ae.out 1).trans rfl, (blk_cell ab.out 0).trans rfl, (blk_cell ab.out 1).trans rfl, bp, ap, bq, br, bw, aI, bx, bz, bG, aN, bI, bJ, bO, aW, bP, bQ⟩ (fun hHeld => ?_); refine with_tabW furrowlaw8_To.tab5 furrowlaw8_To.bits5 (fun HT_ HW_ => ?_)
      generalize wr.drew = dx at ac ak ab ag ae HB aE aq aT aY ch cm ct cy bp ap bq br bw aI bx bz bG aN bI bJ bO aW bP bQ hHeld ⊢; refine qA 0 1 ?_; refine qA 2 5 ?_; refine qA 4 21 ?_; refine qA 8 277 ?_; refine qA 10 1301 ?_; refine qA 14 17685 ?_; refine qA 16 83221 ?_; refine qA 20 1131797 ?_; refine qA 22 5326101 ?_; refine take_ (i := 1) (N := some 16) (v := ?_) (a' := ?_) (bts 31 5326103) rfl rfl (take_ofW HT_.out HW_.out (by kernel_rfl)) (fun _ _ _ h => h) (Or.inl ⟨by rfl, ?_⟩) hHeld ?_ ?_; rotate_left
      ·rintro w' ⟨s0, s1, s2, s3, s4, s5, s6, s7, s8, s9, s10, s11, s12, s13, s14, s15, s16, s17, s18, s19⟩
       go_simp; (with_reducible rfl)
      rotate_left
      ·simp only [AP, i64_w, i32_w]
       rfl
      refine take_ (i := 3) (N := some 18) (v := ?_) (a' := ?_) (bts 31 5326111) rfl rfl (take_ofW HT_.out HW_.out (by kernel_rfl)) (fun _ _ _ h => h) (Or.inl ⟨by rfl, ?_⟩) hHeld ?_ ?_; rotate_left
      ·rintro w' ⟨s0, s1, s2, s3, s4, s5, s6, s7, s8, s9, s10, s11, s12, s13, s14, s15, s16, s17, s18, s19⟩
       go_simp; (with_reducible rfl)
      rotate_left
      ·simp only [AP, i64_w, i32_w]
       rfl
      refine qA 5 5326143 ?_; refine qA 6 5326207 ?_; refine take_ (i := 7) (N := some 22) (v := ?_) (a' := ?_) (bts 31 5326335) rfl rfl (take_ofW HT_.out HW_.out (by kernel_rfl)) (fun _ _ _ h => h) (Or.inl ⟨by rfl, ?_⟩) hHeld ?_ ?_; rotate_left
      ·rintro w' ⟨s0, s1, s2, s3, s4, s5, s6, s7, s8, s9, s10, s11, s12, s13, s14, s15, s16, s17, s18, s19⟩
       go_simp; (with_reducible rfl)
      rotate_left
      ·simp only [AP, i64_w, i32_w]
       rfl
      refine take_ (i := 9) (N := some 24) (v := ?_) (a' := ?_) (bts 31 5326847) rfl rfl (take_ofW HT_.out HW_.out (by kernel_rfl)) (fun _ _ _ h => h) (Or.inl ⟨by rfl, ?_⟩) hHeld ?_ ?_; rotate_left
      ·rintro w' ⟨s0, s1, s2, s3, s4, s5, s6, s7, s8, s9, s10, s11, s12, s13, s14, s15, s16, s17, s18, s19⟩
       go_simp; (with_reducible rfl)
      rotate_left
      ·simp only [AP, i64_w, i32_w]
       rfl
      refine qA 11 5328895 ?_; refine qA 12 5332991 ?_; refine take_ (i := 13) (N := some 28) (v := ?_) (a' := ?_) (bts 31 5341183) rfl rfl (take_ofW HT_.out HW_.out (by kernel_rfl)) (fun _ _ _ h => h) (Or.inl ⟨by rfl, ?_⟩) hHeld ?_ ?_; rotate_left
      ·rintro w' ⟨s0, s1, s2, s3, s4, s5, s6, s7, s8, s9, s10, s11, s12, s13, s14, s15, s16, s17, s18, s19⟩
       go_simp; (with_reducible rfl)
      rotate_left
      ·simp only [AP, i64_w, i32_w]
       rfl
      refine take_ (i := 15) (N := some 30) (v := ?_) (a' := ?_) (bts 31 5373951) rfl rfl (take_ofW HT_.out HW_.out (by kernel_rfl)) (fun _ _ _ h => h) (Or.inl ⟨by rfl, ?_⟩) hHeld ?_ ?_; rotate_left
      ·rintro w' ⟨s0, s1, s2, s3, s4, s5, s6, s7, s8, s9, s10, s11, s12, s13, s14, s15, s16, s17, s18, s19⟩
       go_simp; (with_reducible rfl)
      rotate_left
      ·simp only [AP, i64_w, i32_w]
       rfl
      refine qA 17 5505023 ?_; refine qA 18 5767167 ?_; refine take_ (i := 19) (N := some 34) (v := ?_) (a' := ?_) (bts 31 6291455) rfl rfl (take_ofW HT_.out HW_.out (by kernel_rfl)) (fun _ _ _ h => h) (Or.inl ⟨by rfl, ?_⟩) hHeld ?_ ?_; rotate_left
      ·rintro w' ⟨s0, s1, s2, s3, s4, s5, s6, s7, s8, s9, s10, s11, s12, s13, s14, s15, s16, s17, s18, s19⟩
       go_simp; (with_reducible rfl)
      rotate_left
      ·simp only [AP, i64_w, i32_w]
       rfl
      refine take_ (i := 21) (N := some 36) (v := ?_) (a' := ?_) (bts 31 8388607) rfl rfl (take_ofW HT_.out HW_.out (by kernel_rfl)) (fun _ _ _ h => h) (Or.inl ⟨by rfl, ?_⟩) hHeld ?_ ?_; rotate_left
      ·rintro w' ⟨s0, s1, s2, s3, s4, s5, s6, s7, s8, s9, s10, s11, s12, s13, s14, s15, s16, s17, s18, s19⟩
       go_simp; (with_reducible rfl)
      rotate_left
      ·simp only [AP, i64_w, i32_w]
       rfl
      refine qA 23 16777215 ?_; refine qA 24 33554431 ?_; refine take_ (i := 25) (N := some 40) (v := ?_) (a' := ?_) (bts 31 67108863) rfl rfl (take_ofW HT_.out HW_.out (by kernel_rfl)) (fun _ _ _ h => h) (Or.inl ⟨by rfl, ?_⟩) hHeld ?_ ?_; rotate_left
      ·rintro w' ⟨s0, s1, s2, s3, s4, s5, s6, s7, s8, s9, s10, s11, s12, s13, s14, s15, s16, s17, s18, s19⟩
       go_simp; (with_reducible rfl)
      rotate_left
      ·simp only [AP, i64_w, i32_w]
       rfl
      refine qA 26 134217727 ?_; refine one_ (i := 27) (N := some 42) (bts 31 268435455) rfl rfl (one_of HT_.out (by kernel_rfl)) (by decide) (fun K hK => ?_); refine value_ (w1 := ?_) (v := ?_) (by rfl) rfl ?_ ?_; rotate_left 2
      ·go_simp
       constructor
       ·rfl
       ·rfl
      refine hK.out _ _ ⟨(blk_cell (blk_alloc ae.out _) 0).trans rfl, (blk_cell (blk_alloc ae.out _) 1).trans rfl, (blk_cell (blk_alloc ab.out _) 0).trans rfl, (blk_cell (blk_alloc ab.out _) 1).trans rfl, (World.cell?_alloc_lt _ _ _ (World.block_lt_of_cell? _ _ (hHeld.2.2.2.2.1))).trans (hHeld.2.2.2.2.1), (World.cell?_alloc_lt _ _ _ (World.block_lt_of_cell? _ _ (hHeld.2.2.2.2.2.1))).trans (hHeld.2.2.2.2.2.1), (World.cell?_alloc_lt _ _ _ (World.block_lt_of_cell? _ _ (hHeld.2.2.2.2.2.2.1))).trans (hHeld.2.2.2.2.2.2.1), (World.cell?_alloc_lt _ _ _ (World.block_lt_of_cell? _ _ (hHeld.2.2.2.2.2.2.2.1))).trans (hHeld.2.2.2.2.2.2.2.1), (World.cell?_alloc_lt _ _ _ (World.block_lt_of_cell? _ _ (hHeld.2.2.2.2.2.2.2.2.1))).trans (hHeld.2.2.2.2.2.2.2.2.1), (World.cell?_alloc_lt _ _ _ (World.block_lt_of_cell? _ _ (hHeld.2.2.2.2.2.2.2.2.2.1))).trans (hHeld.2.2.2.2.2.2.2.2.2.1), (World.cell?_alloc_lt _ _ _ (World.block_lt_of_cell? _ _ (hHeld.2.2.2.2.2.2.2.2.2.2.1))).trans (hHeld.2.2.2.2.2.2.2.2.2.2.1), (World.cell?_alloc_lt _ _ _ (World.block_lt_of_cell? _ _ (hHeld.2.2.2.2.2.2.2.2.2.2.2.1))).trans (hHeld.2.2.2.2.2.2.2.2.2.2.2.1), (World.cell?_alloc_lt _ _ _ (World.block_lt_of_cell? _ _ (hHeld.2.2.2.2.2.2.2.2.2.2.2.2.1))).trans (hHeld.2.2.2.2.2.2.2.2.2.2.2.2.1), (World.cell?_alloc_lt _ _ _ (World.block_lt_of_cell? _ _ (hHeld.2.2.2.2.2.2.2.2.2.2.2.2.2.1))).trans (hHeld.2.2.2.2.2.2.2.2.2.2.2.2.2.1), (World.cell?_alloc_lt _ _ _ (World.block_lt_of_cell? _ _ (hHeld.2.2.2.2.2.2.2.2.2.2.2.2.2.2.1))).trans (hHeld.2.2.2.2.2.2.2.2.2.2.2.2.2.2.1), (World.cell?_alloc_lt _ _ _ (World.block_lt_of_cell? _ _ (hHeld.2.2.2.2.2.2.2.2.2.2.2.2.2.2.2.1))).trans (hHeld.2.2.2.2.2.2.2.2.2.2.2.2.2.2.2.1), (World.cell?_alloc_lt _ _ _ (World.block_lt_of_cell? _ _ (hHeld.2.2.2.2.2.2.2.2.2.2.2.2.2.2.2.2.1))).trans (hHeld.2.2.2.2.2.2.2.2.2.2.2.2.2.2.2.2.1), (World.cell?_alloc_lt _ _ _ (World.block_lt_of_cell? _ _ (hHeld.2.2.2.2.2.2.2.2.2.2.2.2.2.2.2.2.2.1))).trans (hHeld.2.2.2.2.2.2.2.2.2.2.2.2.2.2.2.2.2.1), (World.cell?_alloc_lt _ _ _ (World.block_lt_of_cell? _ _ (hHeld.2.2.2.2.2.2.2.2.2.2.2.2.2.2.2.2.2.2.1))).trans (hHeld.2.2.2.2.2.2.2.2.2.2.2.2.2.2.2.2.2.2.1), (World.cell?_alloc_lt _ _ _ (World.block_lt_of_cell? _ _ (hHeld.2.2.2.2.2.2.2.2.2.2.2.2.2.2.2.2.2.2.2))).trans (hHeld.2.2.2.2.2.2.2.2.2.2.2.2.2.2.2.2.2.2.2)⟩ (fun hHeld => ?_); clear hK K; refine norm_ (a' := ?_) ?_ ?_; rotate_left
      ·show Act.put _ (some 42) _ = _
       simp only [AP, i64_w, i32_w]; rfl
      refine last_ (i := 28) (N := some 43) (bts 31 536870911) rfl rfl (one_of HT_.out (by kernel_rfl)) (by decide) (fun K hK => ?_); refine Kd.N_append_step k64 (w0 := w) w.heap.size (by rfl) (.tmp 16) (.tmp 42) 44 64 (.agg #[(.string ⟨#[]⟩), (.slice none 0 0), (.int .i64 0), (.int .i64 0)]) 56 rfl Tryd.underlying44 info64 rfl (by decide) (by omega) aj al (⟨(rd_T71 l0_0 x4_1).f0, (rd_T71 l0_0 x4_1).f1, (rd_T71 l0_0 x4_1).f2, (rd_T71 l0_0 x4_1).f3⟩ : S64) [.string ((rd_T71 l0_0 x4_1).f0), .slice au ((rd_T71 l0_0 x4_1).f1).length av, .int .i64 ((rd_T71 l0_0 x4_1).f2), .int .i64 ((rd_T71 l0_0 x4_1).f3)] (fun k_ => (P0_0_ k_ ∨ w.heap.size ≤ k_) ∧ k_ ≠ ai ∧ k_ ≠ ah ∧ k_ ≠ af) (fun k_ => ((fun k_ => (P0_0_ k_ ∨ w.heap.size ≤ k_) ∧ k_ ≠ ai ∧ k_ ≠ ah ∧ k_ ≠ af)) k_ ∧ some k_ ≠ (aj : Value).ownBlock) rfl rfl ?aP (fun _ hk => hk) ?aF ?aO ?aB ?aS ?aL ?_; (case aP => exact (k64_mkF _ _ (⟨(rd_T71 l0_0 x4_1).f0, (rd_T71 l0_0 x4_1).f1, (rd_T71 l0_0 x4_1).f2, (rd_T71 l0_0 x4_1).f3⟩ : S64) (Kd.V_reads' (vP (ok' := (fun k_ => ((fun k_ => (P0_0_ k_ ∨ w.heap.size ≤ k_) ∧ k_ ≠ ai ∧ k_ ≠ ah ∧ k_ ≠ af)) k_ ∧ some k_ ≠ (aj : Value).ownBlock)) aq)).2.1 (Kd.V_F (vP (ok' := (fun k_ => ((fun k_ => (P0_0_ k_ ∨ w.heap.size ≤ k_) ∧ k_ ≠ ai ∧ k_ ≠ ah ∧ k_ ≠ af)) k_ ∧ some k_ ≠ (aj : Value).ownBlock)) aq)))); (case aB => exact bH); (case aF => exact (fun k_ hk => ⟨(.inr (Nat.le_trans (below_size bH) hk)), fB ab hk, fB ag hk, fB ae hk⟩)); (case aO => exact (uN ak.out)); (case aS => exact (below_size bH)); (case aL => have := cb.out; omega); intro dy cz ho hb hg hat; rw [← cd.out] at ho; have n0_ := vA ac hg hat; have n1_ := (gB ab hg (Kd.N_ne ak.out ab.out (by decide))); have n2_ := (gB ag hg (Kd.N_ne ak.out ag.out (by decide))); have n3_ := (gB ae hg (Kd.N_ne ak.out ae.out (by decide))); have n4_ := vA aE hg hat; have n5_ := vA aq hg hat; have n6_ := vA aT hg hat; have n7_ := vA aY hg hat; have n8_ := mk0 (hb); have n9_ := mk0 (ho); clear ac ab ag ae aE aq aT aY HB ak; have ac := n0_; have ab := n1_; have ag := n2_; have ae := n3_; have aE := n4_; have aq := n5_; have aT := n6_; have aY := n7_; have HB := n8_; have bV := n9_; clear n0_ n1_ n2_ n3_ n4_ n5_ n6_ n7_ n8_ n9_; clear ho hb hg hat; obtain ⟨bm, bn, bW⟩ := Kd.N_slice bV.out; (first | subst bW | (injection bW with f1_ f2_ f3_; have f4_ := f1_.symm; have f5_ := f3_.symm; clear f1_ f2_ f3_; subst f4_; subst f5_)); refine hK.out _ _ ?_; clear hK K; refine norm_ (a' := ?_) ?_ ?_; rotate_left
      ·show Act.put _ (some 43) _ = _
       simp only [AP, i64_w, i32_w]; rfl
      refine qA 29 1073741823 ?_; refine last_ (i := 30) (N := none) (bts 31 2147483647) rfl rfl (one_of HT_.out (by kernel_rfl)) (by decide) (fun K hK => ?_); have hs19 : cz.cell? ⟨af, 0, none⟩ = some (aj) := (blk_cell ae.out 0).trans rfl; have hfs19 := blk_frozen ae.out 0; have dz := aw.out; have dA := ba.out; have dB := ax.out; have dC := bb.out; refine skip_ (w1 := ?_) (by rfl) rfl ?_ ?_; rotate_left
      ·go_simp
       rfl
      refine hK.out _ _ ?_; clear hK K; refine done_ (done_of HT_.out (by kernel_rfl)) ?_; (try go_wp2)
      go_roundg k1
      case measure => have := bo.out; omega
      case rel => exact ⟨(wrap64 (x4_1 + 1)), (ar), (.slice bm ar.length bn), eK, H', ⟨by have := bo.out; omega⟩, ⟨uV (vF ⟨af, 0, none⟩ (.slice bm ar.length bn) ac)⟩, ⟨uN (nF ⟨af, 0, none⟩ (.slice bm ar.length bn) bV)⟩, ⟨kB⟩, ⟨kB⟩, ⟨kB⟩, ⟨bH⟩⟩
     ·exact nO H az
    ·exact nO H ay
   ·rw [if_neg ao] at H
    have ca := decide_eq_false ao; clear ao; simp only [Option.some.injEq, Prod.mk.injEq] at H; obtain ⟨rfl, rfl⟩ := H; have dD := aZ.out; have dE := a_.out; have dF := aw.out; have dG := ax.out; obtain ⟨dH, dI, dJ, dK⟩ := cL2 ab; have dL := bb.out; have dM := ba.out; obtain ⟨dN, dO, dP, dQ⟩ := cL2 ae; obtain ⟨bX, bY, cA⟩ := Kd.N_slice ak.out; subst cA; obtain ⟨dR, dS, dT, dU⟩ := cL2 ag; go_wp2; refine bodyPost_ret (results_cell_row rfl _ _ ah 46 #[.slice bX al.length bY, .int .i64 a0_1] (0, 0) _ rfl (kB) Tryd.underlying46 rfl (by kernel_rfl)) rfl ?_; exact ⟨_, rE, uN (Kd.N_mono (Kd.N_far (p := ⟨ah, 1, none⟩) (Kd.N_far (p := ⟨ah, 0, none⟩) (Kd.N_mono ak.out (fun k_ hk => (⟨hk, hk.2.2.1⟩ : _ ∧ k_ ≠ ah))) (fun _ hk => hk.2) (.slice bX al.length bY)) (fun _ hk => hk.2) (.int .i64 a0_1)) (fun _ hk => hk.1.1)), bH⟩

end Go.Proofs.YtmhkijidnpihmaaDoor.X
