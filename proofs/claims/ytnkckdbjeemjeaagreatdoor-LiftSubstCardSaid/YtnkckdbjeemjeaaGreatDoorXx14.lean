-- PRINTED by print.py (a twelfth state) out of the translation. Not trusted: Lean checks it.
import Derived.Test.YtnkckdbjeemjeaaGreatDoorXx0
namespace Go.Proofs.YtnkckdbjeemjeaaGreatDoor.X
open Go.Proofs.YtnkckdbjeemjeaaGreatDoor.Flt Go.Proofs.YtnkckdbjeemjeaaGreatDoor.H Go.RowKit Go.Proofs.YtnkckdbjeemjeaaGreatDoorW.PrintWords Go.Proofs.YtnkckdbjeemjeaaGreatDoorW.PrintLast Go.Proofs.YtnkckdbjeemjeaaGreatDoorW.PrintMore
attribute [local go_sem] max2_int min2_int max_two min_two max_three min_three max_four min_four   -- for this text's walks alone
set_option linter.unusedVariables false
set_option linter.unusedSimpArgs false

/-! ### furrowlaw5_Of: function 8 -/
mutual
def furrowlaw5_Of.l0 : Nat → Int → Int → Int → ByteArray → List (S24) → Int → Int → ByteArray → List (S30) → Option (Int × Int × ByteArray × (List (S30)))
 | 0, _, _, _, _, _, _, _, _, _ => none
 | k + 1, x4, x558000, x558001, x558002, x558003, x560000, x560001, x560002, x560003 => if x4 < (x558003.length : Int) then (if 0 ≤ x4 then ((furrowlaw5_Of.f k ((rd_T24 x558003 x4).f0) ((rd_T24 x558003 x4).f1) ((rd_T24 x558003 x4).f2) ((rd_T24 x558003 x4).f3)).bind fun bt561 => (if x560003.length < 2513169434916 then (furrowlaw5_Of.l0 k (wrap64 (x4 + 1)) x558000 x558001 x558002 x558003 x560000 x560001 x560002 (x560003 ++ [(⟨bt561.1, bt561.2.1, bt561.2.2.1, bt561.2.2.2⟩ : S30)])) else (none))) else (none)) else (some (x560000, x560001, x560002, x560003))
def furrowlaw5_Of.f : Nat → Int → Int → ByteArray → List (S24) → Option (Int × Int × ByteArray × (List (S30)))
 | 0, _, _, _, _ => none
 | k + 1, a0_0, a0_1, a0_2, l0_3 => furrowlaw5_Of.l0 k 0 a0_0 a0_1 a0_2 l0_3 a0_0 a0_1 a0_2 ([] : List (S30))
end
theorem furrowlaw5_Of.mono_l : ∀ k, (∀ y0 y1 y2 y3, LeO (furrowlaw5_Of.f k y0 y1 y2 y3) (furrowlaw5_Of.f (k + 1) y0 y1 y2 y3)) ∧ (∀ y0 y1 y2 y3 y4 y5 y6 y7 y8, LeO (furrowlaw5_Of.l0 k y0 y1 y2 y3 y4 y5 y6 y7 y8) (furrowlaw5_Of.l0 (k + 1) y0 y1 y2 y3 y4 y5 y6 y7 y8))
 | 0 => by refine ⟨?_, ?_⟩ <;> intros <;> exact fun r h => by simp [furrowlaw5_Of.f, furrowlaw5_Of.l0] at h
 | k + 1 => by
  obtain ⟨i0_, i1_⟩ := furrowlaw5_Of.mono_l k; refine ⟨?_, ?_⟩ <;> intros
  ·unfold furrowlaw5_Of.f; exact lO_
  ·unfold furrowlaw5_Of.l0; exact lO_
theorem furrowlaw5_Of.mono : ∀ a0 a1 a2 a3 k, LeO (furrowlaw5_Of.f k a0 a1 a2 a3) (furrowlaw5_Of.f (k + 1) a0 a1 a2 a3) := by
 intro a0 a1 a2 a3 k
 obtain ⟨ih0, ih1⟩ := furrowlaw5_Of.mono_l k
 exact ih0 a0 a1 a2 a3
def furrowlaw5_Of.T5 : Bool × List (List Nat × List Nat) := (true, [([], []), ([0], [0]), ([], []), ([2], [2]), ([], []), ([3, 4], [3, 4]), ([5], [5]), ([6], [6]), ([7], [7]), ([1, 8, 7], [1, 8]), ([0, 1, 2, 3, 4, 5, 6, 7, 8, 9], []), ([10, 9, 9, 0, 1, 2, 3, 4, 5, 6, 7, 8, 9], [9, 10])])
def furrowlaw5_Of.B5 : List Nat := [0, 1, 0, 4, 0, 28, 60, 124, 252, 511, 1023, 2047]
theorem furrowlaw5_Of.tab5 : rtab .any (opsOf Tryz.f8 5) = furrowlaw5_Of.T5 := by kernel_rfl
theorem furrowlaw5_Of.bits5 : waitsOk furrowlaw5_Of.T5.2 furrowlaw5_Of.B5 = true := by kernel_rfl
set_option maxHeartbeats 8000000 in
set_option maxRecDepth 100000 in
theorem furrowlaw5_Of.calls (k : Nat) : ∀ (a0_0 : Int) (a0_1 : Int) (a0_2 : ByteArray) (A0_3 : Option Addr) (c0_3 : Nat) (l0_3 : List (S24)) (r1 : Int) (r2 : Int) (r3 : ByteArray) (r4 : List (S30)) (w : World) (hr0_3 : Kd.C k24 w A0_3 l0_3.length l0_3) (hc0_3 : l0_3.length ≤ c0_3) (h : furrowlaw5_Of.f k a0_0 a0_1 a0_2 l0_3 = some (r1, r2, r3, r4)),
  Calls Tryz.prog 8 #[.agg #[.int .i64 a0_0, .int .i64 a0_1, .string a0_2, .slice A0_3 l0_3.length c0_3]] w fun e w' => ∃ v3_ : Value, e = .returned (.agg #[.int .i64 r1, .int .i64 r2, .string r3, v3_]) ∧ Kd.R k30 30 w' w.heap.size (fun _ => True) v3_ r4 ∧ Below w.heap.size w w' := by
 induction k using Nat.strongRecOn with
 | _ k ih =>
 intro a0_0 a0_1 a0_2 A0_3 c0_3 l0_3 r1 r2 r3 r4 w hr0_3 hc0_3 h
 cases k with
 | zero => exact absurd h (by simp [furrowlaw5_Of.f])
 | succ k =>
 simp only [furrowlaw5_Of.f] at h
 have hu24 := Tryz.underlying24
 have hu30 := Tryz.underlying30
 have bj := mk0 hr0_3
 have bT := mk0 hc0_3
 clear hr0_3 hc0_3
 have HB := mk0 (Below.refl w.heap.size w)
 have H : (furrowlaw5_Of.l0 k 0 a0_0 a0_1 a0_2 l0_3 a0_0 a0_1 a0_2 ([] : List (S30))) = some (r1, r2, r3, r4) := h
 clear h
 have H' := mk0 H
 clear H
 go_enter Tryz.func8, Tryz.ntmps8
 go_wp2_with (first | ((with_reducible refine gate_dst (N := 1) rfl ?_); refine bxE 1 #[.int .i64 a0_0, .int .i64 a0_1, .string a0_2, .slice A0_3 l0_3.length c0_3] 24 ?_; intro al hg w2 hbox hb; have aa := mk0 (hbox); have bU := gE (uL HB.out) hg; have bV := gE (uL HB.out) hg; replace HB := hbB (uL HB.out) hb; clear hb hbox hg) | ((with_reducible refine gate_dst (N := 2) rfl ?_); refine bxE 2 #[.int .i64 0, .int .i64 0, .string (⟨#[]⟩ : ByteArray), .slice none 0 0] 30 ?_; intro ag hg w3 hbox hb; have ac := mk0 (hbox); have bW := gE bH hg; have bX := gE bH hg; replace HB := hbB bH hb; have aD := nL aa hg; have aE := nG aa hg; replace aa := bB aa hb; clear hb hbox hg; have bY := aD.out; have bZ := aE.out; obtain ⟨bk, bl, bm, bn, bo, bp, bq, br⟩ := cL4 aa) | ((with_reducible refine gate_dst (N := 3) rfl ?_); refine bxE 3 #[.int .i64 0, .int .i64 0, .string (⟨#[]⟩ : ByteArray), .slice none 0 0] 30 ?_; intro af hg w6 hbox hb; have ab := mk0 (hbox); have b4 := gE bH hg; have b5 := gE bH hg; replace HB := hbB bH hb; have ar := nL aa hg; have au := nG aa hg; replace aa := bB aa hb; have aG := nL ac hg; have aH := nG ac hg; replace ac := bB ac hb; clear hb hbox hg; have b6 := au.out; have b7 := ar.out; have b8 := aH.out; have b9 := aG.out; obtain ⟨bs, bu, bv, bw, bz, bC, bE, bF⟩ := cL4 ab))
 go_loopg [4] k (fun kq v4 w' => ∃ (x4_1 : Int) (ah : List (S30)) (ai : Value), v4 = .int .i64 x4_1 ∧ Aside0 (furrowlaw5_Of.l0 kq x4_1 a0_0 a0_1 a0_2 l0_3 a0_0 a0_1 a0_2 ah = some (r1, r2, r3, r4)) ∧ Aside0 (kq ≤ k) ∧ Aside0 (Kd.R k30 30 w' w.heap.size (fun k_ => k_ ≠ ag ∧ k_ ≠ af) ai ah) ∧ Aside0 (w'.heap[al]? = some (.cells #[.int .i64 a0_0, .int .i64 a0_1, .string a0_2, (.slice A0_3 l0_3.length c0_3)] 24 (0, 0))) ∧ Aside0 (w'.heap[ag]? = some (.cells #[.int .i64 0, .int .i64 0, .string (⟨#[]⟩ : ByteArray), (.slice none 0 0)] 30 (0, 0))) ∧ Aside0 (w'.heap[af]? = some (.cells #[.int .i64 a0_0, .int .i64 a0_1, .string a0_2, ai] 30 (0, 0))) ∧ Aside0 (Below w.heap.size w w'))
 case atStart => exact ⟨(0), (([] : List (S30))), (.slice none 0 0), eK, H', ⟨Nat.le_refl _⟩, ⟨nK⟩, ⟨kB⟩, ⟨kB⟩, ⟨kB⟩, ⟨bH⟩⟩
 case round =>
  clear H'; (try clear bk bl bm bn bs bu bv bw bo bp bq br bz bC bE bF); obtain ⟨x4_1, ah, ai, rfl, HA, aI, ae, aa, ac, ab, HB⟩ := hrel
  cases gk with
  | zero => exact absurd HA.out (by simp [furrowlaw5_Of.l0])
  | succ k1 =>
   have H := HA.out; clear HA; simp only [furrowlaw5_Of.l0] at H
   by_cases ak : x4_1 < (l0_3.length : Int)
   ·rw [if_pos ak] at H
    have bG := decide_eq_true ak; clear ak
    by_cases av : 0 ≤ x4_1
    ·rw [if_pos av] at H
     have cd := decide_eq_true av; clear av; replace H := Option.bind_eq_some_iff.mp H; obtain ⟨⟨am, ao, ap, aq⟩, aQ, H⟩ := H; dsimp only at H; have bI := mk0 aQ; clear aQ
     by_cases aw : ah.length < 2513169434916
     ·rw [if_pos aw] at H
      have bJ := mk0 aw; clear aw; obtain ⟨ax, aJ⟩ : ∃ y_ : List (S30), y_ = (ah ++ [(⟨am, ao, ap, aq⟩ : S30)]) := ⟨_, rfl⟩; (replace H : (furrowlaw5_Of.l0 k1 (wrap64 (x4_1 + 1)) a0_0 a0_1 a0_2 l0_3 a0_0 a0_1 a0_2 ax) = some (r1, r2, r3, r4) := by (try rw [aJ]); first | with_reducible exact H | with_reducible exact oN H | exact H); have bK := mk0 aJ; clear aJ; have H' := mk0 H; clear H; have ce := aD.out; have cf := aE.out; have cg := ar.out; have ch := au.out; obtain ⟨ci, cj, ck, cl, cm, cn, cp, cq⟩ := cL4 aa; (try go_wp2); replace ae := mk0 (Kd.R_drew ae.out); replace aa := mk0 (blk_drew aa.out); replace ac := mk0 (blk_drew ac.out); replace ab := mk0 (blk_drew ab.out); replace HB := mk0 (below_drew1 HB.out); have aK : 0 ≤ (x4_1 : Int) := dY; have aM : x4_1 < (l0_3.length : Int) := dY; obtain ⟨aj, aT, aU, bL, ay, az, aA, aC, aV, aW⟩ := at_T24 bj.out x4_1 aK aM; have hw560_3 := aC; have hw560_2 := aA; have hw560_1 := az; have hw560_0 := ay
      cases bL
      replace ay := oC HB ay; replace az := oC HB az; replace aA := oC HB aA; replace aC := oC HB aC; have aX := mk0 aW; have bM := mk0 aV; clear aW aV; replace aK := eq_true aK; replace aM := eq_true aM; refine start_ (n := 12) (S := fun w' => w'.cell? ⟨af, 0, none⟩ = some (.int .i64 a0_0) ∧ w'.cell? ⟨af, 1, none⟩ = some (.int .i64 a0_1) ∧ w'.cell? ⟨af, 2, none⟩ = some (.string a0_2) ∧ w'.cell? ⟨af, 3, none⟩ = some (ai) ∧ w'.cell? ⟨al, 0, none⟩ = some (.int .i64 a0_0) ∧ w'.cell? ⟨al, 1, none⟩ = some (.int .i64 a0_1) ∧ w'.cell? ⟨al, 2, none⟩ = some (.string a0_2) ∧ w'.cell? ⟨al, 3, none⟩ = some (.slice (some aj) l0_3.length c0_3) ∧ w'.cell? (aj.add ((x4_1).toNat * 4)) = some (.int .i64 ((rd_T24 l0_3 x4_1).f0)) ∧ w'.cell? ⟨(aj.add ((x4_1).toNat * 4)).block, (aj.add ((x4_1).toNat * 4)).off + 1, none⟩ = some (.int .i64 ((rd_T24 l0_3 x4_1).f1)) ∧ w'.cell? ⟨(aj.add ((x4_1).toNat * 4)).block, (aj.add ((x4_1).toNat * 4)).off + 2, none⟩ = some (.string ((rd_T24 l0_3 x4_1).f2)) ∧ w'.cell? ⟨(aj.add ((x4_1).toNat * 4)).block, (aj.add ((x4_1).toNat * 4)).off + 3, none⟩ = some (.slice aT ((rd_T24 l0_3 x4_1).f3).length aU)) (ds := [11]) (bts 12 0) (by kernel_rfl) rfl rfl ⟨(blk_cell ab.out 0).trans rfl, (blk_cell ab.out 1).trans rfl, (blk_cell ab.out 2).trans rfl, (blk_cell ab.out 3).trans rfl, (blk_cell aa.out 0).trans rfl, (blk_cell aa.out 1).trans rfl, (blk_cell aa.out 2).trans rfl, (blk_cell aa.out 3).trans rfl, ((HB.out.cell (World.block_lt_of_cell? w _ hw560_0)).trans hw560_0), ((HB.out.cell (World.block_lt_of_cell? w _ hw560_1)).trans hw560_1), ((HB.out.cell (World.block_lt_of_cell? w _ hw560_2)).trans hw560_2), ((HB.out.cell (World.block_lt_of_cell? w _ hw560_3)).trans hw560_3)⟩ (fun hHeld => ?_); refine with_tabW furrowlaw5_Of.tab5 furrowlaw5_Of.bits5 (fun HT_ HW_ => ?_); generalize wr.drew = cr at ae aa ac ab HB aX ay az aA aC hHeld ⊢; refine qA 0 1 ?_; refine qA 2 5 ?_; refine qA 4 21 ?_; refine take_ (i := 1) (N := some 20) (v := ?_) (a' := ?_) (bts 12 23) rfl rfl (take_ofW HT_.out HW_.out (by kernel_rfl)) (fun _ _ _ h => h) (Or.inl ⟨by rfl, ?_⟩) hHeld ?_ ?_; rotate_left
      ·rintro w' ⟨s0, s1, s2, s3, s4, s5, s6, s7, s8, s9, s10, s11⟩
       go_simp; (with_reducible rfl)
      rotate_left
      ·simp only [AP, i64_w, i32_w]
       rfl
      refine take_ (i := 3) (N := some 22) (v := ?_) (a' := ?_) (bts 12 31) rfl rfl (take_ofW HT_.out HW_.out (by kernel_rfl)) (fun _ _ _ h => h) (Or.inl ⟨by rfl, ?_⟩) hHeld ?_ ?_; rotate_left
      ·rintro w' ⟨s0, s1, s2, s3, s4, s5, s6, s7, s8, s9, s10, s11⟩
       go_simp; (with_reducible rfl)
      rotate_left
      ·simp only [AP, i64_w, i32_w]
       rfl
      refine qA 5 63 ?_; refine take_ (i := 6) (N := some 25) (v := ?_) (a' := ?_) (bts 12 127) rfl rfl (take_ofW HT_.out HW_.out (by kernel_rfl)) (fun _ _ _ h => h) (Or.inl ⟨by rfl, ?_⟩) hHeld ?_ ?_; rotate_left
      ·rintro w' ⟨s0, s1, s2, s3, s4, s5, s6, s7, s8, s9, s10, s11⟩
       go_simp; (with_reducible rfl)
      rotate_left
      ·simp only [AP, i64_w, i32_w]
       rfl
      refine one_ (i := 7) (N := some 26) (bts 12 255) rfl rfl (one_of HT_.out (by kernel_rfl)) (by decide) (fun K hK => ?_); refine goes_ Tryz.func8 (by kernel_rfl) rfl #[.agg #[.int .i64 ((rd_T24 l0_3 x4_1).f0), .int .i64 ((rd_T24 l0_3 x4_1).f1), .string ((rd_T24 l0_3 x4_1).f2), .slice aT ((rd_T24 l0_3 x4_1).f3).length aU]] (by rfl) rfl rfl (by (try simp only [List.map_toArray, List.map_cons, List.map_nil]); first | done | rfl | (simp only [List.length_drop, List.length_take]; rfl)) ?_; (with_reducible refine (ih k1 (by have := aI.out; omega) ((rd_T24 l0_3 x4_1).f0) ((rd_T24 l0_3 x4_1).f1) ((rd_T24 l0_3 x4_1).f2) _ _ ((rd_T24 l0_3 x4_1).f3) am ao ap aq _ ?side1 ?side2 bI.out).mono ?_); (case side1 => exact uC (Kd.C_below aX.out HB.out)); (case side2 => exact bM.out); rintro e ct ⟨cu, rfl, ho0, hb⟩; refine ⟨_, rfl, ?_⟩; have aN := mk0 (Kd.R_lower (Kd.R_newB (Kd.R_newB (Kd.R_new' ho0 (Kd.R_lt (uR ae.out))) (g := ag) (o := .cells #[.int .i64 0, .int .i64 0, .string (⟨#[]⟩ : ByteArray), .slice none 0 0] 30 (0, 0)) (uB ac.out)) (g := af) (o := .cells #[.int .i64 a0_0, .int .i64 a0_1, .string a0_2, ai] 30 (0, 0)) (uB ab.out)) (below_size bH)); replace ae := mk0 (Kd.R_elder' (uR ae.out) (Kd.R_base ho0) hb); replace aa := bB aa hb; replace ac := bB ac hb; replace ab := bB ab hb; replace HB := hbB bH hb; (try clear hb ho0); obtain ⟨bO, bP, aY⟩ := Kd.R_slice aN.out; (first | subst aY | (injection aY with f1_ f2_ f3_; have f4_ := f1_.symm; have f5_ := f3_.symm; clear f1_ f2_ f3_; subst f4_; subst f5_)); refine hK.out _ _ ⟨(blk_cell ab.out 0).trans rfl, (blk_cell ab.out 1).trans rfl, (blk_cell ab.out 2).trans rfl, (blk_cell ab.out 3).trans rfl, (blk_cell aa.out 0).trans rfl, (blk_cell aa.out 1).trans rfl, (blk_cell aa.out 2).trans rfl, (blk_cell aa.out 3).trans rfl, ((HB.out.cell (World.block_lt_of_cell? w _ hw560_0)).trans hw560_0), ((HB.out.cell (World.block_lt_of_cell? w _ hw560_1)).trans hw560_1), ((HB.out.cell (World.block_lt_of_cell? w _ hw560_2)).trans hw560_2), ((HB.out.cell (World.block_lt_of_cell? w _ hw560_3)).trans hw560_3)⟩ (fun hHeld => ?_); clear hK K; refine norm_ (a' := ?_) ?_ ?_; rotate_left
      ·show Act.put _ (some 26) _ = _
       simp only [AP, i64_w, i32_w]; rfl
      refine one_ (i := 8) (N := some 27) (bts 12 511) rfl rfl (one_of HT_.out (by kernel_rfl)) (by decide) (fun K hK => ?_); refine value_ (w1 := ?_) (v := ?_) (by rfl) rfl ?_ ?_; rotate_left 2
      ·go_simp
       constructor
       ·rfl
       ·rfl
      refine hK.out _ _ ⟨(blk_cell (blk_alloc ab.out _) 0).trans rfl, (blk_cell (blk_alloc ab.out _) 1).trans rfl, (blk_cell (blk_alloc ab.out _) 2).trans rfl, (blk_cell (blk_alloc ab.out _) 3).trans rfl, (blk_cell (blk_alloc aa.out _) 0).trans rfl, (blk_cell (blk_alloc aa.out _) 1).trans rfl, (blk_cell (blk_alloc aa.out _) 2).trans rfl, (blk_cell (blk_alloc aa.out _) 3).trans rfl, (World.cell?_alloc_lt _ _ _ (World.block_lt_of_cell? _ _ (((HB.out.cell (World.block_lt_of_cell? w _ hw560_0)).trans hw560_0)))).trans (((HB.out.cell (World.block_lt_of_cell? w _ hw560_0)).trans hw560_0)), (World.cell?_alloc_lt _ _ _ (World.block_lt_of_cell? _ _ (((HB.out.cell (World.block_lt_of_cell? w _ hw560_1)).trans hw560_1)))).trans (((HB.out.cell (World.block_lt_of_cell? w _ hw560_1)).trans hw560_1)), (World.cell?_alloc_lt _ _ _ (World.block_lt_of_cell? _ _ (((HB.out.cell (World.block_lt_of_cell? w _ hw560_2)).trans hw560_2)))).trans (((HB.out.cell (World.block_lt_of_cell? w _ hw560_2)).trans hw560_2)), (World.cell?_alloc_lt _ _ _ (World.block_lt_of_cell? _ _ (((HB.out.cell (World.block_lt_of_cell? w _ hw560_3)).trans hw560_3)))).trans (((HB.out.cell (World.block_lt_of_cell? w _ hw560_3)).trans hw560_3))⟩ (fun hHeld => ?_); clear hK K; refine norm_ (a' := ?_) ?_ ?_; rotate_left
      ·show Act.put _ (some 27) _ = _
       simp only [AP, i64_w, i32_w]; rfl
      refine one_ (i := 9) (N := some 28) (bts 12 1023) rfl rfl (one_of HT_.out (by kernel_rfl)) (by decide) (fun K hK => ?_); refine Kd.R_append_step k30 (w0 := w) w.heap.size (by rfl) (.tmp 20) (.tmp 27) 28 30 (.agg #[(.int .i64 0), (.int .i64 0), (.string ⟨#[]⟩), (.slice none 0 0)]) 56 rfl Tryz.underlying28 info30 rfl (by decide) (by omega) ai ah (⟨am, ao, ap, aq⟩ : S30) [.int .i64 am, .int .i64 ao, .string ap, .slice bO aq.length bP] (fun k_ => k_ ≠ ag ∧ k_ ≠ af) (fun k_ => ((fun k_ => k_ ≠ ag ∧ k_ ≠ af)) k_ ∧ some k_ ≠ (ai : Value).ownBlock) rfl rfl ?aP (fun _ hk => hk) ?aF ?aO ?aB ?aS ?aL ?_; (case aP => exact k30_mkM _ _ _ (⟨am, ao, ap, aq⟩ : S30) (Kd.R_mono (aN.out) (fun k_ hk => ⟨⟨hk.1.2, hk.2⟩, hk.1.1.2⟩))); (case aB => exact bH); (case aF => exact (fun k_ hk => ⟨fB ac hk, fB ab hk⟩)); (case aO => exact (uR (rP ae))); (case aS => exact (below_size bH)); (case aL => have := bJ.out; omega); intro cv bQ ho hb hg hat; rw [← bK.out] at ho; have n0_ := (gB aa hg (Kd.R_ne ae.out aa.out (by decide))); have n1_ := (gB ac hg (Kd.R_away ae.out (fun _ hk => hk.1.1))); have n2_ := (gB ab hg (Kd.R_away ae.out (fun _ hk => hk.1.2))); have n3_ := mk0 (hb); have n4_ := mk0 (ho); clear aa ac ab HB ae aN; have aa := n0_; have ac := n1_; have ab := n2_; have HB := n3_; have aZ := n4_; clear n0_ n1_ n2_ n3_ n4_; clear ho hb hg hat; obtain ⟨a_, bf, bg⟩ := Kd.R_slice aZ.out; (first | subst bg | (injection bg with f1_ f2_ f3_; have f4_ := f1_.symm; have f5_ := f3_.symm; clear f1_ f2_ f3_; subst f4_; subst f5_)); refine hK.out _ _ ⟨(blk_cell ab.out 0).trans rfl, (blk_cell ab.out 1).trans rfl, (blk_cell ab.out 2).trans rfl, (blk_cell ab.out 3).trans rfl, (blk_cell aa.out 0).trans rfl, (blk_cell aa.out 1).trans rfl, (blk_cell aa.out 2).trans rfl, (blk_cell aa.out 3).trans rfl, ((HB.out.cell (World.block_lt_of_cell? w _ hw560_0)).trans hw560_0), ((HB.out.cell (World.block_lt_of_cell? w _ hw560_1)).trans hw560_1), ((HB.out.cell (World.block_lt_of_cell? w _ hw560_2)).trans hw560_2), ((HB.out.cell (World.block_lt_of_cell? w _ hw560_3)).trans hw560_3)⟩ (fun hHeld => ?_); clear hK K; refine norm_ (a' := ?_) ?_ ?_; rotate_left
      ·show Act.put _ (some 28) _ = _
       simp only [AP, i64_w, i32_w]; rfl
      refine qA 10 2047 ?_; refine last_ (i := 11) (N := none) (bts 12 4095) rfl rfl (one_of HT_.out (by kernel_rfl)) (by decide) (fun K hK => ?_); have hs22 : bQ.cell? ⟨af, 3, none⟩ = some (ai) := (blk_cell ab.out 3).trans rfl; have hfs22 := blk_frozen ab.out 3; have cw := ar.out; have cx := aG.out; have cy := au.out; have cz := aH.out; refine skip_ (w1 := ?_) (by rfl) rfl ?_ ?_; rotate_left
      ·go_simp
       rfl
      refine hK.out _ _ ?_; clear hK K; refine done_ (done_of HT_.out (by kernel_rfl)) ?_; (try go_wp2)
      go_roundg k1
      case measure => have := aI.out; omega
      case rel => exact ⟨(wrap64 (x4_1 + 1)), (ax), (.slice a_ ax.length bf), eK, H', ⟨by have := aI.out; omega⟩, ⟨uR (Kd.R_mono (Kd.R_far (p := ⟨af, 3, none⟩) (Kd.R_mono aZ.out (fun k_ hk => (⟨hk, hk.2⟩ : _ ∧ k_ ≠ af))) (fun _ hk => hk.2) (.slice a_ ax.length bf)) (fun _ hk => ⟨hk.1.1, hk.1.2⟩))⟩, ⟨kB⟩, ⟨kB⟩, ⟨kB⟩, ⟨bH⟩⟩
     ·exact nO H aw
    ·exact nO H av
   ·rw [if_neg ak] at H
    have bG := decide_eq_false ak; clear ak; simp only [Option.some.injEq, Prod.mk.injEq] at H; obtain ⟨rfl, rfl, rfl, rfl⟩ := H; have cA := aD.out; have cD := aE.out; have cE := ar.out; have cF := au.out; obtain ⟨cG, cH, cI, cJ, cK, cL, cM, cN⟩ := cL4 aa; have cO := aH.out; have cP := aG.out; obtain ⟨cR, cS, cT, cU, cV, cW, cX, cY⟩ := cL4 ab; obtain ⟨cZ, c_, da, db, dc, dd, de, df⟩ := cL4 ac; obtain ⟨bh, bi, bR⟩ := Kd.R_slice ae.out; subst bR; go_wp2; refine bodyPost_ret (results_cell_row rfl _ _ ag 30 #[.int .i64 a0_0, .int .i64 a0_1, .string a0_2, .slice bh ah.length bi] (0, 0) _ rfl (kB) Tryz.underlying30 rfl (by kernel_rfl)) rfl ?_; exact ⟨_, rE, uR (Kd.R_mono (Kd.R_far (p := ⟨ag, 3, none⟩) (Kd.R_far (p := ⟨ag, 2, none⟩) (Kd.R_far (p := ⟨ag, 1, none⟩) (Kd.R_far (p := ⟨ag, 0, none⟩) (Kd.R_mono ae.out (fun k_ hk => (⟨hk, hk.1⟩ : _ ∧ k_ ≠ ag))) (fun _ hk => hk.2) (.int .i64 a0_0)) (fun _ hk => hk.2) (.int .i64 a0_1)) (fun _ hk => hk.2) (.string a0_2)) (fun _ hk => hk.2) (.slice bh ah.length bi)) (fun _ hk => trivial)), bH⟩


/-! ### furrowref10_Same: function 10 -/
mutual
def furrowref10_Same.j0 : Nat → Bool → Int → Int → ByteArray → List (S30) → Int → Int → ByteArray → List (S30) → Option (Bool)
 | 0, _, _, _, _, _, _, _, _, _ => none
 | k + 1, x33, x571000, x571001, x571002, x571003, x572000, x572001, x572002, x572003 => if x33 = true then (some false) else (furrowref10_Same.l0 k 0 x571000 x571001 x571002 x571003 x572000 x572001 x572002 x572003)
def furrowref10_Same.l0 : Nat → Int → Int → Int → ByteArray → List (S30) → Int → Int → ByteArray → List (S30) → Option (Bool)
 | 0, _, _, _, _, _, _, _, _, _ => none
 | k + 1, x5, x571000, x571001, x571002, x571003, x572000, x572001, x572002, x572003 => if x5 < (x571003.length : Int) then (if 0 ≤ x5 then (if x5 < (x572003.length : Int) then ((furrowref10_Same.f k ((rd_T30 x571003 x5).f0) ((rd_T30 x571003 x5).f1) ((rd_T30 x571003 x5).f2) ((rd_T30 x571003 x5).f3) ((rd_T30 x572003 x5).f0) ((rd_T30 x572003 x5).f1) ((rd_T30 x572003 x5).f2) ((rd_T30 x572003 x5).f3)).bind fun t574 => (if t574 = true then (furrowref10_Same.l0 k (wrap64 (x5 + 1)) x571000 x571001 x571002 x571003 x572000 x572001 x572002 x572003) else (some false))) else (none)) else (none)) else (some true)
def furrowref10_Same.f : Nat → Int → Int → ByteArray → List (S30) → Int → Int → ByteArray → List (S30) → Option (Bool)
 | 0, _, _, _, _, _, _, _, _ => none
 | k + 1, a0_0, a0_1, a0_2, l0_3, a1_0, a1_1, a1_2, l1_3 => if a0_0 = a1_0 then (if a0_1 = a1_1 then (if a0_2.toList = a1_2.toList then (furrowref10_Same.j0 k ((l0_3.length : Int) != (l1_3.length : Int)) a0_0 a0_1 a0_2 l0_3 a1_0 a1_1 a1_2 l1_3) else (furrowref10_Same.j0 k true a0_0 a0_1 a0_2 l0_3 a1_0 a1_1 a1_2 l1_3)) else (furrowref10_Same.j0 k true a0_0 a0_1 a0_2 l0_3 a1_0 a1_1 a1_2 l1_3)) else (furrowref10_Same.j0 k true a0_0 a0_1 a0_2 l0_3 a1_0 a1_1 a1_2 l1_3)
end
theorem furrowref10_Same.mono_l : ∀ k, (∀ y0 y1 y2 y3 y4 y5 y6 y7, LeO (furrowref10_Same.f k y0 y1 y2 y3 y4 y5 y6 y7) (furrowref10_Same.f (k + 1) y0 y1 y2 y3 y4 y5 y6 y7)) ∧ (∀ y0 y1 y2 y3 y4 y5 y6 y7 y8, LeO (furrowref10_Same.j0 k y0 y1 y2 y3 y4 y5 y6 y7 y8) (furrowref10_Same.j0 (k + 1) y0 y1 y2 y3 y4 y5 y6 y7 y8)) ∧ (∀ y0 y1 y2 y3 y4 y5 y6 y7 y8, LeO (furrowref10_Same.l0 k y0 y1 y2 y3 y4 y5 y6 y7 y8) (furrowref10_Same.l0 (k + 1) y0 y1 y2 y3 y4 y5 y6 y7 y8))
 | 0 => by refine ⟨?_, ?_, ?_⟩ <;> intros <;> exact fun r h => by simp [furrowref10_Same.f, furrowref10_Same.j0, furrowref10_Same.l0] at h
 | k + 1 => by
  obtain ⟨i0_, i1_, i2_⟩ := furrowref10_Same.mono_l k; refine ⟨?_, ?_, ?_⟩ <;> intros
  ·unfold furrowref10_Same.f; exact lO_
  ·unfold furrowref10_Same.j0; exact lO_
  ·unfold furrowref10_Same.l0; exact lO_
theorem furrowref10_Same.mono : ∀ a0 a1 a2 a3 a4 a5 a6 a7 k, LeO (furrowref10_Same.f k a0 a1 a2 a3 a4 a5 a6 a7) (furrowref10_Same.f (k + 1) a0 a1 a2 a3 a4 a5 a6 a7) := by
 intro a0 a1 a2 a3 a4 a5 a6 a7 k
 obtain ⟨ih0, ih1, ih2⟩ := furrowref10_Same.mono_l k
 exact ih0 a0 a1 a2 a3 a4 a5 a6 a7
def furrowref10_Same.T6 : Bool × List (List Nat × List Nat) := (true, [([], []), ([0], [0]), ([], []), ([1, 2], [1, 2]), ([3], [3]), ([], []), ([5], [5]), ([], []), ([6, 7], [6, 7]), ([8], [8]), ([4, 9], [4, 9]), ([10], [10])])
def furrowref10_Same.B6 : List Nat := [0, 1, 0, 7, 15, 0, 32, 0, 224, 480, 1023, 2047]
theorem furrowref10_Same.tab6 : rtab .any (opsOf Tryz.f10 6) = furrowref10_Same.T6 := by kernel_rfl
theorem furrowref10_Same.bits6 : waitsOk furrowref10_Same.T6.2 furrowref10_Same.B6 = true := by kernel_rfl
set_option maxHeartbeats 8000000 in
set_option maxRecDepth 100000 in
theorem furrowref10_Same.calls (k : Nat) : ∀ (a0_0 : Int) (a0_1 : Int) (a0_2 : ByteArray) (A0_3 : Option Addr) (c0_3 : Nat) (l0_3 : List (S30)) (a1_0 : Int) (a1_1 : Int) (a1_2 : ByteArray) (A1_3 : Option Addr) (c1_3 : Nat) (l1_3 : List (S30)) (r : Bool) (w : World) (hr0_3 : Kd.C k30 w A0_3 l0_3.length l0_3) (hc0_3 : l0_3.length ≤ c0_3) (hr1_3 : Kd.C k30 w A1_3 l1_3.length l1_3) (hc1_3 : l1_3.length ≤ c1_3) (h : furrowref10_Same.f k a0_0 a0_1 a0_2 l0_3 a1_0 a1_1 a1_2 l1_3 = some r),
  Calls Tryz.prog 10 #[.agg #[.int .i64 a0_0, .int .i64 a0_1, .string a0_2, .slice A0_3 l0_3.length c0_3], .agg #[.int .i64 a1_0, .int .i64 a1_1, .string a1_2, .slice A1_3 l1_3.length c1_3]] w fun e w' => e = .returned (.bool r) ∧ Below w.heap.size w w' := by
 induction k using Nat.strongRecOn with
 | _ k ih =>
 intro a0_0 a0_1 a0_2 A0_3 c0_3 l0_3 a1_0 a1_1 a1_2 A1_3 c1_3 l1_3 r w hr0_3 hc0_3 hr1_3 hc1_3 h
 cases k with
 | zero => exact absurd h (by simp [furrowref10_Same.f])
 | succ k =>
 simp only [furrowref10_Same.f] at h
 have hu30 := Tryz.underlying30
 have bh := mk0 hr0_3
 have br := mk0 hc0_3
 clear hr0_3 hc0_3
 have bi := mk0 hr1_3
 have bs := mk0 hc1_3
 clear hr1_3 hc1_3
 have HB := mk0 (Below.refl w.heap.size w)
 have H : (if a0_0 = a1_0 then (if a0_1 = a1_1 then (if a0_2.toList = a1_2.toList then (furrowref10_Same.j0 k ((l0_3.length : Int) != (l1_3.length : Int)) a0_0 a0_1 a0_2 l0_3 a1_0 a1_1 a1_2 l1_3) else (furrowref10_Same.j0 k true a0_0 a0_1 a0_2 l0_3 a1_0 a1_1 a1_2 l1_3)) else (furrowref10_Same.j0 k true a0_0 a0_1 a0_2 l0_3 a1_0 a1_1 a1_2 l1_3)) else (furrowref10_Same.j0 k true a0_0 a0_1 a0_2 l0_3 a1_0 a1_1 a1_2 l1_3)) = some r := h
 clear h
 have aY := mk0 H
 clear H
 go_enter Tryz.func10, Tryz.ntmps10
 go_upto_region 1 with (first | ((with_reducible refine gate_dst (N := 2) rfl ?_); (try (refine gate_guard (by rfl) ?_; dsimp only)); refine bxE 2 #[.int .i64 a0_0, .int .i64 a0_1, .string a0_2, .slice A0_3 l0_3.length c0_3] 30 ?_; intro af hg w4 hbox hb; have aa := mk0 (hbox); have bu := gE (uL HB.out) hg; have bv := gE (uL HB.out) hg; replace HB := hbB (uL HB.out) hb; clear hb hbox hg) | ((with_reducible refine gate_dst (N := 3) rfl ?_); (try (refine gate_guard (by rfl) ?_; dsimp only)); refine bxE 3 #[.int .i64 a1_0, .int .i64 a1_1, .string a1_2, .slice A1_3 l1_3.length c1_3] 30 ?_; intro ag hg w5 hbox hb; have ab := mk0 (hbox); have bw := gE bH hg; have bz := gE bH hg; replace HB := hbB bH hb; have aq := nL aa hg; have ar := nG aa hg; replace aa := bB aa hb; clear hb hbox hg))
 (try simp only [AP])
 go_cut [33] (fun v33 wc => ∃ (kq : Nat) (aQ : Bool), v33 = .bool aQ ∧ Aside0 (furrowref10_Same.j0 kq aQ a0_0 a0_1 a0_2 l0_3 a1_0 a1_1 a1_2 l1_3 = some r) ∧ Aside0 (kq ≤ k) ∧ Aside0 (wc.heap[af]? = some (.cells #[.int .i64 a0_0, .int .i64 a0_1, .string a0_2, (.slice A0_3 l0_3.length c0_3)] 30 (0, 0))) ∧ Aside0 (wc.heap[ag]? = some (.cells #[.int .i64 a1_0, .int .i64 a1_1, .string a1_2, (.slice A1_3 l1_3.length c1_3)] 30 (0, 0))) ∧ Aside0 (Below w.heap.size w wc))
 case first =>
  have H := aY.out; clear aY
  by_cases c6 : a0_0 = a1_0
  ·rw [if_pos c6] at H
   have az : (a0_0 == a1_0) = true := beq_iff_eq.mpr c6; have bk : (a0_0 != a1_0) = false := bne_eq_false_iff_eq.mpr c6; clear c6; (first | rw [az] | (simp only [i64_w, i32_w]; rw [az]) | skip)
   by_cases c7 : a0_1 = a1_1
   ·rw [if_pos c7] at H
    have bl : (a0_1 == a1_1) = true := beq_iff_eq.mpr c7; have bm : (a0_1 != a1_1) = false := bne_eq_false_iff_eq.mpr c7; clear c7
    by_cases c8 : a0_2.toList = a1_2.toList
    ·rw [if_pos c8] at H
     have bn : (a0_2.toList == a1_2.toList) = true := beq_iff_eq.mpr c8; have bo : (a0_2.toList != a1_2.toList) = false := bne_eq_false_iff_eq.mpr c8; clear c8; have H' := mk0 H; clear H; have bC := aq.out; have bE := ar.out; obtain ⟨bF, bG, bI, bJ, bK, bL, bM, bO⟩ := cL4 aa; obtain ⟨bP, bQ, bR, bT, bU, bV, bW, bX⟩ := cL4 ab; go_wp2
     go_meet
     case rel => exact ⟨_, (((l0_3.length : Int) != (l1_3.length : Int))), eK, H', ⟨by first | omega | exact Nat.le_refl _⟩, ⟨uB aa.out⟩, ⟨uB ab.out⟩, ⟨bH⟩⟩
    ·rw [if_neg c8] at H
     have bn : (a0_2.toList == a1_2.toList) = false := beq_eq_false_iff_ne.mpr c8; have bo : (a0_2.toList != a1_2.toList) = true := bne_iff_ne.mpr c8; have H' := mk0 H; clear H; have bY := aq.out; have bZ := ar.out; obtain ⟨b4, b5, b6, b7, b8, b9, cd, ce⟩ := cL4 aa; obtain ⟨cf, cg, ch, ci, cj, ck, cl, cm⟩ := cL4 ab; go_wp2
     go_meet
     case rel => exact ⟨_, (true), eK, H', ⟨by first | omega | exact Nat.le_refl _⟩, ⟨uB aa.out⟩, ⟨uB ab.out⟩, ⟨bH⟩⟩
   ·rw [if_neg c7] at H
    have bl : (a0_1 == a1_1) = false := beq_eq_false_iff_ne.mpr c7; have bm : (a0_1 != a1_1) = true := bne_iff_ne.mpr c7; have H' := mk0 H; clear H; have cn := aq.out; have cp := ar.out; obtain ⟨cq, cr, ct, cu, cv, cw, cx, cy⟩ := cL4 aa; obtain ⟨cz, cA, cD, cE, cF, cG, cH, cI⟩ := cL4 ab; go_wp2
    go_meet
    case rel => exact ⟨_, (true), eK, H', ⟨by first | omega | exact Nat.le_refl _⟩, ⟨uB aa.out⟩, ⟨uB ab.out⟩, ⟨bH⟩⟩
  ·rw [if_neg c6] at H
   have az : (a0_0 == a1_0) = false := beq_eq_false_iff_ne.mpr c6; have bk : (a0_0 != a1_0) = true := bne_iff_ne.mpr c6; (first | rw [az] | (simp only [i64_w, i32_w]; rw [az]) | skip); have H' := mk0 H; clear H; have cJ := aq.out; have cK := ar.out; obtain ⟨cL, cM, cN, cO, cP, cR, cS, cT⟩ := cL4 aa; obtain ⟨cU, cV, cW, cX, cY, cZ, c_, da⟩ := cL4 ab; go_wp2
   go_meet
   case rel => exact ⟨_, (true), eK, H', ⟨by first | omega | exact Nat.le_refl _⟩, ⟨uB aa.out⟩, ⟨uB ab.out⟩, ⟨bH⟩⟩
 case rest =>
  clear aY; obtain ⟨kq, aQ, rfl, HA, aT, aa, ab, HB⟩ := hcut
  cases kq with
  | zero => exact absurd HA.out (by simp [furrowref10_Same.j0])
  | succ kj2 =>
   have H := HA.out; clear HA; simp only [furrowref10_Same.j0] at H
   by_cases aA : aQ = true
   ·subst aA
    replace H := iT H; obtain rfl := Option.some.inj H; go_wp2; go_ret; exact ⟨rE, bH⟩
   ·replace aA := Bool.eq_false_iff.mpr aA
    subst aA; replace H := iF H; have H' := mk0 H; clear H; go_wp2
    go_loopg [5] kj2 (fun kq v5 w' => ∃ (x5_2 : Int), v5 = .int .i64 x5_2 ∧ Aside0 (furrowref10_Same.l0 kq x5_2 a0_0 a0_1 a0_2 l0_3 a1_0 a1_1 a1_2 l1_3 = some r) ∧ Aside0 (kq ≤ kj2) ∧ Aside0 (w'.heap[af]? = some (.cells #[.int .i64 a0_0, .int .i64 a0_1, .string a0_2, (.slice A0_3 l0_3.length c0_3)] 30 (0, 0))) ∧ Aside0 (w'.heap[ag]? = some (.cells #[.int .i64 a1_0, .int .i64 a1_1, .string a1_2, (.slice A1_3 l1_3.length c1_3)] 30 (0, 0))) ∧ Aside0 (Below w.heap.size w w'))
    case atStart => exact ⟨(0), eK, H', ⟨Nat.le_refl _⟩, ⟨uB aa.out⟩, ⟨uB ab.out⟩, ⟨bH⟩⟩
    case round =>
     clear H'; (try clear aA); obtain ⟨x5_2, rfl, HA, aU, aa, ab, HB⟩ := hrel
     cases gk with
     | zero => exact absurd HA.out (by simp [furrowref10_Same.l0])
     | succ k2 =>
      have H := HA.out; clear HA; simp only [furrowref10_Same.l0] at H
      by_cases ay : x5_2 < (l0_3.length : Int)
      ·rw [if_pos ay] at H
       have bp := decide_eq_true ay; clear ay
       by_cases aV : 0 ≤ x5_2
       ·rw [if_pos aV] at H
        have db := decide_eq_true aV; clear aV
        by_cases aW : x5_2 < (l1_3.length : Int)
        ·rw [if_pos aW] at H
         have dc := decide_eq_true aW; clear aW; obtain ⟨bq, bj, H⟩ := oB H
         by_cases aX : bq = true
         ·subst aX
          replace H := iT H; have H' := mk0 H; clear H; have dd := aq.out; have de := ar.out; obtain ⟨df, dh, di, dj, dl, dn, dp, dq⟩ := cL4 aa; (try go_wp2); replace aa := mk0 (blk_drew aa.out); replace ab := mk0 (blk_drew ab.out); replace HB := mk0 (below_drew1 HB.out); have au : 0 ≤ (x5_2 : Int) := dY; have av : x5_2 < (l0_3.length : Int) := dY; obtain ⟨ac, aC, aD, aZ, ah, ai, aj, ak, aE, aG⟩ := at_T30 bh.out x5_2 au av; have hw572_3 := ak; have hw572_2 := aj; have hw572_1 := ai; have hw572_0 := ah
          cases aZ
          replace ah := oC HB ah; replace ai := oC HB ai; replace aj := oC HB aj; replace ak := oC HB ak; have aH := mk0 aG; have a_ := mk0 aE; clear aG aE; replace au := eq_true au; replace av := eq_true av; have aw : 0 ≤ (x5_2 : Int) := dY; have ax : x5_2 < (l1_3.length : Int) := dY; obtain ⟨ae, aI, aJ, bf, al, am, ao, ap, aK, aM⟩ := at_T30 bi.out x5_2 aw ax; have hw573_3 := ap; have hw573_2 := ao; have hw573_1 := am; have hw573_0 := al
          cases bf
          replace al := oC HB al; replace am := oC HB am; replace ao := oC HB ao; replace ap := oC HB ap; have aN := mk0 aM; have bg := mk0 aK; clear aM aK; replace aw := eq_true aw; replace ax := eq_true ax; refine start_ (n := 12) (S := fun w' => w'.cell? ⟨af, 0, none⟩ = some (.int .i64 a0_0) ∧ w'.cell? ⟨af, 1, none⟩ = some (.int .i64 a0_1) ∧ w'.cell? ⟨af, 2, none⟩ = some (.string a0_2) ∧ w'.cell? ⟨af, 3, none⟩ = some (.slice (some ac) l0_3.length c0_3) ∧ w'.cell? ⟨ag, 0, none⟩ = some (.int .i64 a1_0) ∧ w'.cell? ⟨ag, 1, none⟩ = some (.int .i64 a1_1) ∧ w'.cell? ⟨ag, 2, none⟩ = some (.string a1_2) ∧ w'.cell? ⟨ag, 3, none⟩ = some (.slice (some ae) l1_3.length c1_3) ∧ w'.cell? (ac.add ((x5_2).toNat * 4)) = some (.int .i64 ((rd_T30 l0_3 x5_2).f0)) ∧ w'.cell? ⟨(ac.add ((x5_2).toNat * 4)).block, (ac.add ((x5_2).toNat * 4)).off + 1, none⟩ = some (.int .i64 ((rd_T30 l0_3 x5_2).f1)) ∧ w'.cell? ⟨(ac.add ((x5_2).toNat * 4)).block, (ac.add ((x5_2).toNat * 4)).off + 2, none⟩ = some (.string ((rd_T30 l0_3 x5_2).f2)) ∧ w'.cell? ⟨(ac.add ((x5_2).toNat * 4)).block, (ac.add ((x5_2).toNat * 4)).off + 3, none⟩ = some (.slice aC ((rd_T30 l0_3 x5_2).f3).length aD) ∧ w'.cell? (ae.add ((x5_2).toNat * 4)) = some (.int .i64 ((rd_T30 l1_3 x5_2).f0)) ∧ w'.cell? ⟨(ae.add ((x5_2).toNat * 4)).block, (ae.add ((x5_2).toNat * 4)).off + 1, none⟩ = some (.int .i64 ((rd_T30 l1_3 x5_2).f1)) ∧ w'.cell? ⟨(ae.add ((x5_2).toNat * 4)).block, (ae.add ((x5_2).toNat * 4)).off + 2, none⟩ = some (.string ((rd_T30 l1_3 x5_2).f2)) ∧ w'.cell? ⟨(ae.add ((x5_2).toNat * 4)).block, (ae.add ((x5_2).toNat * 4)).off + 3, none⟩ = some (.slice aI ((rd_T30 l1_3 x5_2).f3).length aJ)) (ds := []) (bts 12 0) (by kernel_rfl) rfl rfl ⟨(blk_cell aa.out 0).trans rfl, (blk_cell aa.out 1).trans rfl, (blk_cell aa.out 2).trans rfl, (blk_cell aa.out 3).trans rfl, (blk_cell ab.out 0).trans rfl, (blk_cell ab.out 1).trans rfl, (blk_cell ab.out 2).trans rfl, (blk_cell ab.out 3).trans rfl, ((HB.out.cell (World.block_lt_of_cell? w _ hw572_0)).trans hw572_0), ((HB.out.cell (World.block_lt_of_cell? w _ hw572_1)).trans hw572_1), ((HB.out.cell (World.block_lt_of_cell? w _ hw572_2)).trans hw572_2), ((HB.out.cell (World.block_lt_of_cell? w _ hw572_3)).trans hw572_3), ((HB.out.cell (World.block_lt_of_cell? w _ hw573_0)).trans hw573_0), ((HB.out.cell (World.block_lt_of_cell? w _ hw573_1)).trans hw573_1), ((HB.out.cell (World.block_lt_of_cell? w _ hw573_2)).trans hw573_2), ((HB.out.cell (World.block_lt_of_cell? w _ hw573_3)).trans hw573_3)⟩ (fun hHeld => ?_); refine with_tabW furrowref10_Same.tab6 furrowref10_Same.bits6 (fun HT_ HW_ => ?_); generalize wr.drew = dr at aa ab HB aH aN ah ai aj ak al am ao ap hHeld ⊢; refine qA 0 1 ?_; refine qA 2 5 ?_; refine qA 5 37 ?_; refine qA 7 165 ?_; refine take_ (i := 1) (N := some 42) (v := ?_) (a' := ?_) (bts 12 167) rfl rfl (take_ofW HT_.out HW_.out (by kernel_rfl)) (fun _ _ _ h => h) (Or.inl ⟨by rfl, ?_⟩) hHeld ?_ ?_; rotate_left
          ·rintro w' ⟨s0, s1, s2, s3, s4, s5, s6, s7, s8, s9, s10, s11, s12, s13, s14, s15⟩
           go_simp; (with_reducible rfl)
          rotate_left
          ·simp only [AP, i64_w, i32_w]
           rfl
          refine qA 3 175 ?_; refine take_ (i := 4) (N := some 45) (v := ?_) (a' := ?_) (bts 12 191) rfl rfl (take_ofW HT_.out HW_.out (by kernel_rfl)) (fun _ _ _ h => h) (Or.inl ⟨by rfl, ?_⟩) hHeld ?_ ?_; rotate_left
          ·rintro w' ⟨s0, s1, s2, s3, s4, s5, s6, s7, s8, s9, s10, s11, s12, s13, s14, s15⟩
           go_simp; (with_reducible rfl)
          rotate_left
          ·simp only [AP, i64_w, i32_w]
           rfl
          refine take_ (i := 6) (N := some 47) (v := ?_) (a' := ?_) (bts 12 255) rfl rfl (take_ofW HT_.out HW_.out (by kernel_rfl)) (fun _ _ _ h => h) (Or.inl ⟨by rfl, ?_⟩) hHeld ?_ ?_; rotate_left
          ·rintro w' ⟨s0, s1, s2, s3, s4, s5, s6, s7, s8, s9, s10, s11, s12, s13, s14, s15⟩
           go_simp; (with_reducible rfl)
          rotate_left
          ·simp only [AP, i64_w, i32_w]
           rfl
          refine qA 8 511 ?_; refine take_ (i := 9) (N := some 50) (v := ?_) (a' := ?_) (bts 12 1023) rfl rfl (take_ofW HT_.out HW_.out (by kernel_rfl)) (fun _ _ _ h => h) (Or.inl ⟨by rfl, ?_⟩) hHeld ?_ ?_; rotate_left
          ·rintro w' ⟨s0, s1, s2, s3, s4, s5, s6, s7, s8, s9, s10, s11, s12, s13, s14, s15⟩
           go_simp; (with_reducible rfl)
          rotate_left
          ·simp only [AP, i64_w, i32_w]
           rfl
          refine one_ (i := 10) (N := some 51) (bts 12 2047) rfl rfl (one_of HT_.out (by kernel_rfl)) (by decide) (fun K hK => ?_); refine goes_ Tryz.func10 (by kernel_rfl) rfl #[.agg #[.int .i64 ((rd_T30 l0_3 x5_2).f0), .int .i64 ((rd_T30 l0_3 x5_2).f1), .string ((rd_T30 l0_3 x5_2).f2), .slice aC ((rd_T30 l0_3 x5_2).f3).length aD], .agg #[.int .i64 ((rd_T30 l1_3 x5_2).f0), .int .i64 ((rd_T30 l1_3 x5_2).f1), .string ((rd_T30 l1_3 x5_2).f2), .slice aI ((rd_T30 l1_3 x5_2).f3).length aJ]] (by rfl) rfl rfl (by (try simp only [List.map_toArray, List.map_cons, List.map_nil]); first | done | rfl | (simp only [List.length_drop, List.length_take]; rfl)) ?_; (with_reducible refine (ih k2 (by have := aT.out; have := aU.out; omega) ((rd_T30 l0_3 x5_2).f0) ((rd_T30 l0_3 x5_2).f1) ((rd_T30 l0_3 x5_2).f2) _ _ ((rd_T30 l0_3 x5_2).f3) ((rd_T30 l1_3 x5_2).f0) ((rd_T30 l1_3 x5_2).f1) ((rd_T30 l1_3 x5_2).f2) _ _ ((rd_T30 l1_3 x5_2).f3) true _ ?side1 ?side2 ?side3 ?side4 bj.out).mono ?_); (case side1 => exact uC (Kd.C_below aH.out HB.out)); (case side2 => exact a_.out); (case side3 => exact uC (Kd.C_below aN.out HB.out)); (case side4 => exact bg.out); rintro e dt ⟨rfl, hb⟩; refine ⟨_, rfl, ?_⟩; replace aa := bB aa hb; replace ab := bB ab hb; replace HB := hbB bH hb; (try clear hb); refine hK.out _ _ ⟨(blk_cell aa.out 0).trans rfl, (blk_cell aa.out 1).trans rfl, (blk_cell aa.out 2).trans rfl, (blk_cell aa.out 3).trans rfl, (blk_cell ab.out 0).trans rfl, (blk_cell ab.out 1).trans rfl, (blk_cell ab.out 2).trans rfl, (blk_cell ab.out 3).trans rfl, ((HB.out.cell (World.block_lt_of_cell? w _ hw572_0)).trans hw572_0), ((HB.out.cell (World.block_lt_of_cell? w _ hw572_1)).trans hw572_1), ((HB.out.cell (World.block_lt_of_cell? w _ hw572_2)).trans hw572_2), ((HB.out.cell (World.block_lt_of_cell? w _ hw572_3)).trans hw572_3), ((HB.out.cell (World.block_lt_of_cell? w _ hw573_0)).trans hw573_0), ((HB.out.cell (World.block_lt_of_cell? w _ hw573_1)).trans hw573_1), ((HB.out.cell (World.block_lt_of_cell? w _ hw573_2)).trans hw573_2), ((HB.out.cell (World.block_lt_of_cell? w _ hw573_3)).trans hw573_3)⟩ (fun hHeld => ?_); clear hK K; refine norm_ (a' := ?_) ?_ ?_; rotate_left
          ·show Act.put _ (some 51) _ = _
           simp only [AP, i64_w, i32_w]; rfl
          refine qA 11 4095 ?_; refine done_ (done_of HT_.out (by kernel_rfl)) ?_; (try go_wp2)
          go_roundg k2
          case measure => have := aT.out; have := aU.out; omega
          case rel => exact ⟨(wrap64 (x5_2 + 1)), eK, H', ⟨by have := aT.out; have := aU.out; omega⟩, ⟨uB aa.out⟩, ⟨uB ab.out⟩, ⟨bH⟩⟩
         ·replace aX := Bool.eq_false_iff.mpr aX
          subst aX; replace H := iF H; obtain rfl := Option.some.inj H; have du := aq.out; have dv := ar.out; obtain ⟨dw, dx, dy, dz, dA, dB, dC, dD⟩ := cL4 aa; (try go_wp2); replace aa := mk0 (blk_drew aa.out); replace ab := mk0 (blk_drew ab.out); replace HB := mk0 (below_drew1 HB.out); have au : 0 ≤ (x5_2 : Int) := dY; have av : x5_2 < (l0_3.length : Int) := dY; obtain ⟨ac, aC, aD, aZ, ah, ai, aj, ak, aE, aG⟩ := at_T30 bh.out x5_2 au av; have hw572_3 := ak; have hw572_2 := aj; have hw572_1 := ai; have hw572_0 := ah
          cases aZ
          replace ah := oC HB ah; replace ai := oC HB ai; replace aj := oC HB aj; replace ak := oC HB ak; have aH := mk0 aG; have a_ := mk0 aE; clear aG aE; replace au := eq_true au; replace av := eq_true av; have aw : 0 ≤ (x5_2 : Int) := dY; have ax : x5_2 < (l1_3.length : Int) := dY; obtain ⟨ae, aI, aJ, bf, al, am, ao, ap, aK, aM⟩ := at_T30 bi.out x5_2 aw ax; have hw573_3 := ap; have hw573_2 := ao; have hw573_1 := am; have hw573_0 := al
          cases bf
          replace al := oC HB al; replace am := oC HB am; replace ao := oC HB ao; replace ap := oC HB ap; have aN := mk0 aM; have bg := mk0 aK; clear aM aK; replace aw := eq_true aw; replace ax := eq_true ax; refine start_ (n := 12) (S := fun w' => w'.cell? ⟨af, 0, none⟩ = some (.int .i64 a0_0) ∧ w'.cell? ⟨af, 1, none⟩ = some (.int .i64 a0_1) ∧ w'.cell? ⟨af, 2, none⟩ = some (.string a0_2) ∧ w'.cell? ⟨af, 3, none⟩ = some (.slice (some ac) l0_3.length c0_3) ∧ w'.cell? ⟨ag, 0, none⟩ = some (.int .i64 a1_0) ∧ w'.cell? ⟨ag, 1, none⟩ = some (.int .i64 a1_1) ∧ w'.cell? ⟨ag, 2, none⟩ = some (.string a1_2) ∧ w'.cell? ⟨ag, 3, none⟩ = some (.slice (some ae) l1_3.length c1_3) ∧ w'.cell? (ac.add ((x5_2).toNat * 4)) = some (.int .i64 ((rd_T30 l0_3 x5_2).f0)) ∧ w'.cell? ⟨(ac.add ((x5_2).toNat * 4)).block, (ac.add ((x5_2).toNat * 4)).off + 1, none⟩ = some (.int .i64 ((rd_T30 l0_3 x5_2).f1)) ∧ w'.cell? ⟨(ac.add ((x5_2).toNat * 4)).block, (ac.add ((x5_2).toNat * 4)).off + 2, none⟩ = some (.string ((rd_T30 l0_3 x5_2).f2)) ∧ w'.cell? ⟨(ac.add ((x5_2).toNat * 4)).block, (ac.add ((x5_2).toNat * 4)).off + 3, none⟩ = some (.slice aC ((rd_T30 l0_3 x5_2).f3).length aD) ∧ w'.cell? (ae.add ((x5_2).toNat * 4)) = some (.int .i64 ((rd_T30 l1_3 x5_2).f0)) ∧ w'.cell? ⟨(ae.add ((x5_2).toNat * 4)).block, (ae.add ((x5_2).toNat * 4)).off + 1, none⟩ = some (.int .i64 ((rd_T30 l1_3 x5_2).f1)) ∧ w'.cell? ⟨(ae.add ((x5_2).toNat * 4)).block, (ae.add ((x5_2).toNat * 4)).off + 2, none⟩ = some (.string ((rd_T30 l1_3 x5_2).f2)) ∧ w'.cell? ⟨(ae.add ((x5_2).toNat * 4)).block, (ae.add ((x5_2).toNat * 4)).off + 3, none⟩ = some (.slice aI ((rd_T30 l1_3 x5_2).f3).length aJ)) (ds := []) (bts 12 0) (by kernel_rfl) rfl rfl ⟨(blk_cell aa.out 0).trans rfl, (blk_cell aa.out 1).trans rfl, (blk_cell aa.out 2).trans rfl, (blk_cell aa.out 3).trans rfl, (blk_cell ab.out 0).trans rfl, (blk_cell ab.out 1).trans rfl, (blk_cell ab.out 2).trans rfl, (blk_cell ab.out 3).trans rfl, ((HB.out.cell (World.block_lt_of_cell? w _ hw572_0)).trans hw572_0), ((HB.out.cell (World.block_lt_of_cell? w _ hw572_1)).trans hw572_1), ((HB.out.cell (World.block_lt_of_cell? w _ hw572_2)).trans hw572_2), ((HB.out.cell (World.block_lt_of_cell? w _ hw572_3)).trans hw572_3), ((HB.out.cell (World.block_lt_of_cell? w _ hw573_0)).trans hw573_0), ((HB.out.cell (World.block_lt_of_cell? w _ hw573_1)).trans hw573_1), ((HB.out.cell (World.block_lt_of_cell? w _ hw573_2)).trans hw573_2), ((HB.out.cell (World.block_lt_of_cell? w _ hw573_3)).trans hw573_3)⟩ (fun hHeld => ?_); refine with_tabW furrowref10_Same.tab6 furrowref10_Same.bits6 (fun HT_ HW_ => ?_); generalize wr.drew = dE at aa ab HB aH aN ah ai aj ak al am ao ap hHeld ⊢; refine qA 0 1 ?_; refine qA 2 5 ?_; refine qA 5 37 ?_; refine qA 7 165 ?_; refine take_ (i := 1) (N := some 42) (v := ?_) (a' := ?_) (bts 12 167) rfl rfl (take_ofW HT_.out HW_.out (by kernel_rfl)) (fun _ _ _ h => h) (Or.inl ⟨by rfl, ?_⟩) hHeld ?_ ?_; rotate_left
          ·rintro w' ⟨s0, s1, s2, s3, s4, s5, s6, s7, s8, s9, s10, s11, s12, s13, s14, s15⟩
           go_simp; (with_reducible rfl)
          rotate_left
          ·simp only [AP, i64_w, i32_w]
           rfl
          refine qA 3 175 ?_; refine take_ (i := 4) (N := some 45) (v := ?_) (a' := ?_) (bts 12 191) rfl rfl (take_ofW HT_.out HW_.out (by kernel_rfl)) (fun _ _ _ h => h) (Or.inl ⟨by rfl, ?_⟩) hHeld ?_ ?_; rotate_left
          ·rintro w' ⟨s0, s1, s2, s3, s4, s5, s6, s7, s8, s9, s10, s11, s12, s13, s14, s15⟩
           go_simp; (with_reducible rfl)
          rotate_left
          ·simp only [AP, i64_w, i32_w]
           rfl
          refine take_ (i := 6) (N := some 47) (v := ?_) (a' := ?_) (bts 12 255) rfl rfl (take_ofW HT_.out HW_.out (by kernel_rfl)) (fun _ _ _ h => h) (Or.inl ⟨by rfl, ?_⟩) hHeld ?_ ?_; rotate_left
          ·rintro w' ⟨s0, s1, s2, s3, s4, s5, s6, s7, s8, s9, s10, s11, s12, s13, s14, s15⟩
           go_simp; (with_reducible rfl)
          rotate_left
          ·simp only [AP, i64_w, i32_w]
           rfl
          refine qA 8 511 ?_; refine take_ (i := 9) (N := some 50) (v := ?_) (a' := ?_) (bts 12 1023) rfl rfl (take_ofW HT_.out HW_.out (by kernel_rfl)) (fun _ _ _ h => h) (Or.inl ⟨by rfl, ?_⟩) hHeld ?_ ?_; rotate_left
          ·rintro w' ⟨s0, s1, s2, s3, s4, s5, s6, s7, s8, s9, s10, s11, s12, s13, s14, s15⟩
           go_simp; (with_reducible rfl)
          rotate_left
          ·simp only [AP, i64_w, i32_w]
           rfl
          refine one_ (i := 10) (N := some 51) (bts 12 2047) rfl rfl (one_of HT_.out (by kernel_rfl)) (by decide) (fun K hK => ?_); refine goes_ Tryz.func10 (by kernel_rfl) rfl #[.agg #[.int .i64 ((rd_T30 l0_3 x5_2).f0), .int .i64 ((rd_T30 l0_3 x5_2).f1), .string ((rd_T30 l0_3 x5_2).f2), .slice aC ((rd_T30 l0_3 x5_2).f3).length aD], .agg #[.int .i64 ((rd_T30 l1_3 x5_2).f0), .int .i64 ((rd_T30 l1_3 x5_2).f1), .string ((rd_T30 l1_3 x5_2).f2), .slice aI ((rd_T30 l1_3 x5_2).f3).length aJ]] (by rfl) rfl rfl (by (try simp only [List.map_toArray, List.map_cons, List.map_nil]); first | done | rfl | (simp only [List.length_drop, List.length_take]; rfl)) ?_; (with_reducible refine (ih k2 (by have := aT.out; have := aU.out; omega) ((rd_T30 l0_3 x5_2).f0) ((rd_T30 l0_3 x5_2).f1) ((rd_T30 l0_3 x5_2).f2) _ _ ((rd_T30 l0_3 x5_2).f3) ((rd_T30 l1_3 x5_2).f0) ((rd_T30 l1_3 x5_2).f1) ((rd_T30 l1_3 x5_2).f2) _ _ ((rd_T30 l1_3 x5_2).f3) false _ ?side1 ?side2 ?side3 ?side4 bj.out).mono ?_); (case side1 => exact uC (Kd.C_below aH.out HB.out)); (case side2 => exact a_.out); (case side3 => exact uC (Kd.C_below aN.out HB.out)); (case side4 => exact bg.out); rintro e dF ⟨rfl, hb⟩; refine ⟨_, rfl, ?_⟩; replace aa := bB aa hb; replace ab := bB ab hb; replace HB := hbB bH hb; (try clear hb); refine hK.out _ _ ⟨(blk_cell aa.out 0).trans rfl, (blk_cell aa.out 1).trans rfl, (blk_cell aa.out 2).trans rfl, (blk_cell aa.out 3).trans rfl, (blk_cell ab.out 0).trans rfl, (blk_cell ab.out 1).trans rfl, (blk_cell ab.out 2).trans rfl, (blk_cell ab.out 3).trans rfl, ((HB.out.cell (World.block_lt_of_cell? w _ hw572_0)).trans hw572_0), ((HB.out.cell (World.block_lt_of_cell? w _ hw572_1)).trans hw572_1), ((HB.out.cell (World.block_lt_of_cell? w _ hw572_2)).trans hw572_2), ((HB.out.cell (World.block_lt_of_cell? w _ hw572_3)).trans hw572_3), ((HB.out.cell (World.block_lt_of_cell? w _ hw573_0)).trans hw573_0), ((HB.out.cell (World.block_lt_of_cell? w _ hw573_1)).trans hw573_1), ((HB.out.cell (World.block_lt_of_cell? w _ hw573_2)).trans hw573_2), ((HB.out.cell (World.block_lt_of_cell? w _ hw573_3)).trans hw573_3)⟩ (fun hHeld => ?_); clear hK K; refine norm_ (a' := ?_) ?_ ?_; rotate_left
          ·show Act.put _ (some 51) _ = _
           simp only [AP, i64_w, i32_w]; rfl
          refine qA 11 4095 ?_; refine done_ (done_of HT_.out (by kernel_rfl)) ?_; (try go_wp2); go_ret; exact ⟨rE, bH⟩
        ·exact nO H aW
       ·exact nO H aV
      ·rw [if_neg ay] at H
       have bp := decide_eq_false ay; clear ay; obtain rfl := Option.some.inj H; have dG := aq.out; have dH := ar.out; obtain ⟨dI, dJ, dK, dL, dM, dN, dO, dP⟩ := cL4 aa; go_wp2; go_ret; exact ⟨rE, bH⟩


/-! ### furrowref14_Subst: function 11 -/
mutual
def furrowref14_Subst.j0 : Nat → ByteArray → Bool → Int → Int → ByteArray → List (S30) → Int → Int → ByteArray → List (S30) → Option (Int × Int × ByteArray × (List (S30)))
 | 0, _, _, _, _, _, _, _, _, _, _ => none
 | k + 1, x1, x17, x576000, x576001, x576002, x576003, x577000, x577001, x577002, x577003 => if x17 = true then (some (x577000, x577001, x577002, x577003)) else (furrowref14_Subst.l0 k x1 0 x576000 x576001 x576002 x576003 x577000 x577001 x577002 x577003 x576000 x576001 x576002 ([] : List (S30)))
def furrowref14_Subst.l0 : Nat → ByteArray → Int → Int → Int → ByteArray → List (S30) → Int → Int → ByteArray → List (S30) → Int → Int → ByteArray → List (S30) → Option (Int × Int × ByteArray × (List (S30)))
 | 0, _, _, _, _, _, _, _, _, _, _, _, _, _, _ => none
 | k + 1, x1, x8, x576000, x576001, x576002, x576003, x577000, x577001, x577002, x577003, x579000, x579001, x579002, x579003 => if x8 < (x576003.length : Int) then (if 0 ≤ x8 then ((furrowref14_Subst.f k ((rd_T30 x576003 x8).f0) ((rd_T30 x576003 x8).f1) ((rd_T30 x576003 x8).f2) ((rd_T30 x576003 x8).f3) x1 x577000 x577001 x577002 x577003).bind fun bt580 => (if x579003.length < 2513169434916 then (furrowref14_Subst.l0 k x1 (wrap64 (x8 + 1)) x576000 x576001 x576002 x576003 x577000 x577001 x577002 x577003 x579000 x579001 x579002 (x579003 ++ [(⟨bt580.1, bt580.2.1, bt580.2.2.1, bt580.2.2.2⟩ : S30)])) else (none))) else (none)) else (some (x579000, x579001, x579002, x579003))
def furrowref14_Subst.f : Nat → Int → Int → ByteArray → List (S30) → ByteArray → Int → Int → ByteArray → List (S30) → Option (Int × Int × ByteArray × (List (S30)))
 | 0, _, _, _, _, _, _, _, _, _ => none
 | k + 1, a0_0, a0_1, a0_2, l0_3, a1, a2_0, a2_1, a2_2, l2_3 => if a0_0 = 2 then (furrowref14_Subst.j0 k a1 (a0_2.toList == a1.toList) a0_0 a0_1 a0_2 l0_3 a2_0 a2_1 a2_2 l2_3) else (furrowref14_Subst.j0 k a1 false a0_0 a0_1 a0_2 l0_3 a2_0 a2_1 a2_2 l2_3)
end
theorem furrowref14_Subst.mono_l : ∀ k, (∀ y0 y1 y2 y3 y4 y5 y6 y7 y8, LeO (furrowref14_Subst.f k y0 y1 y2 y3 y4 y5 y6 y7 y8) (furrowref14_Subst.f (k + 1) y0 y1 y2 y3 y4 y5 y6 y7 y8)) ∧ (∀ y0 y1 y2 y3 y4 y5 y6 y7 y8 y9, LeO (furrowref14_Subst.j0 k y0 y1 y2 y3 y4 y5 y6 y7 y8 y9) (furrowref14_Subst.j0 (k + 1) y0 y1 y2 y3 y4 y5 y6 y7 y8 y9)) ∧ (∀ y0 y1 y2 y3 y4 y5 y6 y7 y8 y9 y10 y11 y12 y13, LeO (furrowref14_Subst.l0 k y0 y1 y2 y3 y4 y5 y6 y7 y8 y9 y10 y11 y12 y13) (furrowref14_Subst.l0 (k + 1) y0 y1 y2 y3 y4 y5 y6 y7 y8 y9 y10 y11 y12 y13))
 | 0 => by refine ⟨?_, ?_, ?_⟩ <;> intros <;> exact fun r h => by simp [furrowref14_Subst.f, furrowref14_Subst.j0, furrowref14_Subst.l0] at h
 | k + 1 => by
  obtain ⟨i0_, i1_, i2_⟩ := furrowref14_Subst.mono_l k; refine ⟨?_, ?_, ?_⟩ <;> intros
  ·unfold furrowref14_Subst.f; exact lO_
  ·unfold furrowref14_Subst.j0; exact lO_
  ·unfold furrowref14_Subst.l0; exact lO_
theorem furrowref14_Subst.mono : ∀ a0 a1 a2 a3 a4 a5 a6 a7 a8 k, LeO (furrowref14_Subst.f k a0 a1 a2 a3 a4 a5 a6 a7 a8) (furrowref14_Subst.f (k + 1) a0 a1 a2 a3 a4 a5 a6 a7 a8) := by
 intro a0 a1 a2 a3 a4 a5 a6 a7 a8 k
 obtain ⟨ih0, ih1, ih2⟩ := furrowref14_Subst.mono_l k
 exact ih0 a0 a1 a2 a3 a4 a5 a6 a7 a8
def furrowref14_Subst.T7 : Bool × List (List Nat × List Nat) := (true, [([], []), ([0], [0]), ([], []), ([2], [2]), ([], []), ([3, 4], [3, 4]), ([5], [5]), ([], []), ([], []), ([6, 7, 8], [6, 7, 8]), ([9], [9]), ([1, 10, 9], [1, 10]), ([0, 1, 2, 3, 4, 5, 6, 7, 8, 9, 10, 11], []), ([12, 11, 11, 0, 1, 2, 3, 4, 5, 6, 7, 8, 9, 10, 11], [11, 12])])
def furrowref14_Subst.B7 : List Nat := [0, 1, 0, 4, 0, 28, 60, 0, 0, 508, 1020, 2047, 4095, 8191]
theorem furrowref14_Subst.tab7 : rtab .any (opsOf Tryz.f11 7) = furrowref14_Subst.T7 := by kernel_rfl
theorem furrowref14_Subst.bits7 : waitsOk furrowref14_Subst.T7.2 furrowref14_Subst.B7 = true := by kernel_rfl
set_option maxHeartbeats 8000000 in
set_option maxRecDepth 100000 in
theorem furrowref14_Subst.calls (k : Nat) : ∀ (a0_0 : Int) (a0_1 : Int) (a0_2 : ByteArray) (A0_3 : Option Addr) (c0_3 : Nat) (l0_3 : List (S30)) (a1 : ByteArray) (a2_0 : Int) (a2_1 : Int) (a2_2 : ByteArray) (P2_3_ : Nat → Prop) (A2_3 : Option Addr) (c2_3 : Nat) (l2_3 : List (S30)) (r1 : Int) (r2 : Int) (r3 : ByteArray) (r4 : List (S30)) (w : World) (hr0_3 : Kd.C k30 w A0_3 l0_3.length l0_3) (hc0_3 : l0_3.length ≤ c0_3) (hs2_3 : Kd.V k30 30 w w.heap.size (fun k_ => P2_3_ k_) (.slice A2_3 l2_3.length c2_3) l2_3) (h : furrowref14_Subst.f k a0_0 a0_1 a0_2 l0_3 a1 a2_0 a2_1 a2_2 l2_3 = some (r1, r2, r3, r4)),
  Calls Tryz.prog 11 #[.agg #[.int .i64 a0_0, .int .i64 a0_1, .string a0_2, .slice A0_3 l0_3.length c0_3], .string a1, .agg #[.int .i64 a2_0, .int .i64 a2_1, .string a2_2, .slice A2_3 l2_3.length c2_3]] w fun e w' => ∃ v3_ : Value, e = .returned (.agg #[.int .i64 r1, .int .i64 r2, .string r3, v3_]) ∧ Kd.V k30 30 w' w.heap.size (fun k_ => (P2_3_ k_ ∨ w.heap.size ≤ k_)) v3_ r4 ∧ Below w.heap.size w w' := by
 induction k using Nat.strongRecOn with
 | _ k ih =>
 intro a0_0 a0_1 a0_2 A0_3 c0_3 l0_3 a1 a2_0 a2_1 a2_2 P2_3_ A2_3 c2_3 l2_3 r1 r2 r3 r4 w hr0_3 hc0_3 hs2_3 h
 cases k with
 | zero => exact absurd h (by simp [furrowref14_Subst.f])
 | succ k =>
 simp only [furrowref14_Subst.f] at h
 have hu30 := Tryz.underlying30
 have bE := mk0 hr0_3
 have cg := mk0 hc0_3
 clear hr0_3 hc0_3
 have ao := mk0 (show Kd.V k30 30 w w.heap.size (fun k_ => (P2_3_ k_ ∨ w.heap.size ≤ k_)) (.slice A2_3 l2_3.length c2_3) l2_3 from Kd.V_mono hs2_3 (fun k_ hk => .inl hk))
 have HB := mk0 (Below.refl w.heap.size w)
 have H : (if a0_0 = 2 then (furrowref14_Subst.j0 k a1 (a0_2.toList == a1.toList) a0_0 a0_1 a0_2 l0_3 a2_0 a2_1 a2_2 l2_3) else (furrowref14_Subst.j0 k a1 false a0_0 a0_1 a0_2 l0_3 a2_0 a2_1 a2_2 l2_3)) = some (r1, r2, r3, r4) := h
 clear h
 have aV := mk0 H
 clear H
 go_enter Tryz.func11, Tryz.ntmps11
 go_upto_region 1 with (first | ((with_reducible refine gate_dst (N := 3) rfl ?_); refine bxE 3 #[.int .i64 a0_0, .int .i64 a0_1, .string a0_2, .slice A0_3 l0_3.length c0_3] 30 ?_; intro ah hg w5 hbox hb; replace ao := vD ao ah hg hb; have aa := mk0 (hbox); have ch := gE (uL HB.out) hg; have ci := gE (uL HB.out) hg; replace HB := hbB (uL HB.out) hb; clear hb hbox hg) | ((with_reducible refine gate_dst (N := 5) rfl ?_); refine bxE 5 #[.int .i64 a2_0, .int .i64 a2_1, .string a2_2, .slice A2_3 l2_3.length c2_3] 30 ?_; intro ai hg w6 hbox hb; replace ao := vD ao ai hg hb; have ab := mk0 (hbox); have cj := gE bH hg; have ck := gE bH hg; replace HB := hbB bH hb; have aq := nL aa hg; have ar := nG aa hg; replace aa := bB aa hb; clear hb hbox hg) | ((with_reducible refine gate_dst (N := 6) rfl ?_); refine bxE 6 #[.int .i64 0, .int .i64 0, .string (⟨#[]⟩ : ByteArray), .slice none 0 0] 30 ?_; intro ae hg w7 hbox hb; replace ao := vD ao ae hg hb; have ag := mk0 (hbox); have cl := gE bH hg; have cm := gE bH hg; replace HB := hbB bH hb; have au := nL aa hg; have av := nG aa hg; replace aa := bB aa hb; have bl := nL ab hg; have bm := nG ab hg; replace ab := bB ab hb; clear hb hbox hg))
 (try simp only [AP])
 go_cut [17] (fun v17 wc => ∃ (kq : Nat) (aH : Bool), v17 = .bool aH ∧ Aside0 (furrowref14_Subst.j0 kq a1 aH a0_0 a0_1 a0_2 l0_3 a2_0 a2_1 a2_2 l2_3 = some (r1, r2, r3, r4)) ∧ Aside0 (kq ≤ k) ∧ Aside0 (Kd.V k30 30 wc w.heap.size (fun k_ => (P2_3_ k_ ∨ w.heap.size ≤ k_) ∧ k_ ≠ ah ∧ k_ ≠ ai ∧ k_ ≠ ae) (.slice A2_3 l2_3.length c2_3) l2_3) ∧ Aside0 (wc.heap[ah]? = some (.cells #[.int .i64 a0_0, .int .i64 a0_1, .string a0_2, (.slice A0_3 l0_3.length c0_3)] 30 (0, 0))) ∧ Aside0 (wc.heap[ai]? = some (.cells #[.int .i64 a2_0, .int .i64 a2_1, .string a2_2, (.slice A2_3 l2_3.length c2_3)] 30 (0, 0))) ∧ Aside0 (wc.heap[ae]? = some (.cells #[.int .i64 0, .int .i64 0, .string (⟨#[]⟩ : ByteArray), (.slice none 0 0)] 30 (0, 0))) ∧ Aside0 (Below w.heap.size w wc))
 case first =>
  have H := aV.out; clear aV
  by_cases c8 : a0_0 = 2
  ·rw [if_pos c8] at H
   have ay : (a0_0 == 2) = true := beq_iff_eq.mpr c8; have bF : (a0_0 != 2) = false := bne_eq_false_iff_eq.mpr c8; clear c8; (first | rw [ay] | (simp only [i64_w, i32_w]; rw [ay]) | skip); have H' := mk0 H; clear H; have cn := aq.out; have cp := ar.out; have cq := au.out; have cr := av.out; obtain ⟨ct, cu, cv, cw, cx, cy, cz, cA⟩ := cL4 aa; go_wp2
   go_meet
   case rel => exact ⟨_, ((a0_2.toList == a1.toList)), eK, H', ⟨by first | omega | exact Nat.le_refl _⟩, ⟨uV (vP ao)⟩, ⟨uB aa.out⟩, ⟨uB ab.out⟩, ⟨uB ag.out⟩, ⟨bH⟩⟩
  ·rw [if_neg c8] at H
   have ay : (a0_0 == 2) = false := beq_eq_false_iff_ne.mpr c8; have bF : (a0_0 != 2) = true := bne_iff_ne.mpr c8; (first | rw [ay] | (simp only [i64_w, i32_w]; rw [ay]) | skip); have H' := mk0 H; clear H; have cD := aq.out; have cE := ar.out; have cF := au.out; have cG := av.out; obtain ⟨cH, cI, cJ, cK, cL, cM, cN, cO⟩ := cL4 aa; go_wp2
   go_meet
   case rel => exact ⟨_, (false), eK, H', ⟨by first | omega | exact Nat.le_refl _⟩, ⟨uV (vP ao)⟩, ⟨uB aa.out⟩, ⟨uB ab.out⟩, ⟨uB ag.out⟩, ⟨bH⟩⟩
 case rest =>
  clear aV; obtain ⟨kq, aH, rfl, HA, aW, aj, aa, ab, ag, HB⟩ := hcut
  cases kq with
  | zero => exact absurd HA.out (by simp [furrowref14_Subst.j0])
  | succ kj3 =>
   have H := HA.out; clear HA; simp only [furrowref14_Subst.j0] at H
   by_cases az : aH = true
   ·subst az
    replace H := iT H; simp only [Option.some.injEq, Prod.mk.injEq] at H; obtain ⟨rfl, rfl, rfl, rfl⟩ := H; have cP := ar.out; have cR := aq.out; have cS := bl.out; have cT := bm.out; obtain ⟨cU, cV, cW, cX, cY, cZ, c_, da⟩ := cL4 ab; have db := av.out; have dc := au.out; obtain ⟨dd, de, df, dh, di, dj, dl, dn⟩ := cL4 ag; go_wp2; refine bodyPost_ret (results_cell_row rfl _ _ ae 30 #[.int .i64 a2_0, .int .i64 a2_1, .string a2_2, .slice A2_3 l2_3.length c2_3] (0, 0) _ rfl (kB) Tryz.underlying30 rfl (by kernel_rfl)) rfl ?_; exact ⟨_, rE, uV (Kd.V_mono (Kd.V_far (p := ⟨ae, 3, none⟩) (Kd.V_far (p := ⟨ae, 2, none⟩) (Kd.V_far (p := ⟨ae, 1, none⟩) (Kd.V_far (p := ⟨ae, 0, none⟩) (Kd.V_mono aj.out (fun k_ hk => (⟨hk, hk.2.2.2⟩ : _ ∧ k_ ≠ ae))) (fun _ hk => hk.2) (.int .i64 a2_0)) (fun _ hk => hk.2) (.int .i64 a2_1)) (fun _ hk => hk.2) (.string a2_2)) (fun _ hk => hk.2) (.slice A2_3 l2_3.length c2_3)) (fun _ hk => hk.1.1)), bH⟩
   ·replace az := Bool.eq_false_iff.mpr az
    subst az; replace H := iF H; have H' := mk0 H; clear H; have dp := aq.out; have dq := ar.out; have dr := au.out; have dt := av.out; obtain ⟨bG, bI, bJ, bK, bL, bM, bO, bP⟩ := cL4 aa
    go_wp2_with (first | ((with_reducible refine gate_dst (N := 7) rfl ?_); refine bxE 7 #[.int .i64 0, .int .i64 0, .string (⟨#[]⟩ : ByteArray), .slice none 0 0] 30 ?_; intro af hg du hbox hb; replace aj := vD aj af hg hb; have ac := mk0 (hbox); have dv := gE bH hg; have dw := gE bH hg; replace HB := hbB bH hb; have aI := nL aa hg; have aJ := nG aa hg; replace aa := bB aa hb; have aX := nL ab hg; have aY := nG ab hg; replace ab := bB ab hb; have aZ := nL ag hg; have a_ := nG ag hg; replace ag := bB ag hb; clear hb hbox hg; have dx := aJ.out; have dy := aI.out; have dz := aY.out; have dA := aX.out; have dB := a_.out; have dC := aZ.out; obtain ⟨bQ, bR, bT, bU, bV, bW, bX, bY⟩ := cL4 ac))
    go_loopg [8] kj3 (fun kq v8 w' => ∃ (x8_2 : Int) (ap : List (S30)) (al : Value), v8 = .int .i64 x8_2 ∧ Aside0 (furrowref14_Subst.l0 kq a1 x8_2 a0_0 a0_1 a0_2 l0_3 a2_0 a2_1 a2_2 l2_3 a0_0 a0_1 a0_2 ap = some (r1, r2, r3, r4)) ∧ Aside0 (kq ≤ kj3) ∧ Aside0 (Kd.V k30 30 w' w.heap.size (fun k_ => (P2_3_ k_ ∨ w.heap.size ≤ k_) ∧ some k_ ≠ (al : Value).ownBlock ∧ k_ ≠ ah ∧ k_ ≠ ai ∧ k_ ≠ ae ∧ k_ ≠ af) (.slice A2_3 l2_3.length c2_3) l2_3) ∧ Aside0 (Kd.N k30 30 w' w.heap.size (fun k_ => (P2_3_ k_ ∨ w.heap.size ≤ k_) ∧ k_ ≠ ah ∧ k_ ≠ ai ∧ k_ ≠ ae ∧ k_ ≠ af) al ap) ∧ Aside0 (w'.heap[ah]? = some (.cells #[.int .i64 a0_0, .int .i64 a0_1, .string a0_2, (.slice A0_3 l0_3.length c0_3)] 30 (0, 0))) ∧ Aside0 (w'.heap[ai]? = some (.cells #[.int .i64 a2_0, .int .i64 a2_1, .string a2_2, (.slice A2_3 l2_3.length c2_3)] 30 (0, 0))) ∧ Aside0 (w'.heap[ae]? = some (.cells #[.int .i64 0, .int .i64 0, .string (⟨#[]⟩ : ByteArray), (.slice none 0 0)] 30 (0, 0))) ∧ Aside0 (w'.heap[af]? = some (.cells #[.int .i64 a0_0, .int .i64 a0_1, .string a0_2, al] 30 (0, 0))) ∧ Aside0 (Below w.heap.size w w'))
    case atStart => exact ⟨(0), (([] : List (S30))), (.slice none 0 0), eK, H', ⟨Nat.le_refl _⟩, ⟨uV (Kd.V_mono (Kd.V_far (p := ⟨af, 3, none⟩) (Kd.V_far (p := ⟨af, 2, none⟩) (Kd.V_far (p := ⟨af, 1, none⟩) (Kd.V_far (p := ⟨af, 0, none⟩) (Kd.V_mono aj.out (fun k_ hk => (⟨hk, hk.2⟩ : _ ∧ k_ ≠ af))) (fun _ hk => hk.2) (.int .i64 a0_0)) (fun _ hk => hk.2) (.int .i64 a0_1)) (fun _ hk => hk.2) (.string a0_2)) (fun _ hk => hk.2) (.slice none 0 0)) (fun _ hk => ⟨hk.1.1.1, ⟨(by simp [Value.ownBlock]), ⟨hk.1.1.2.1, ⟨hk.1.1.2.2.1, ⟨hk.1.1.2.2.2, hk.1.2⟩⟩⟩⟩⟩))⟩, ⟨nK⟩, ⟨kB⟩, ⟨kB⟩, ⟨kB⟩, ⟨kB⟩, ⟨bH⟩⟩
    case round =>
     clear H'; (try clear az bG bI bJ bK bQ bR bT bU bL bM bO bP bV bW bX bY); obtain ⟨x8_2, ap, al, rfl, HA, bf, aj, ak, aa, ab, ag, ac, HB⟩ := hrel
     cases gk with
     | zero => exact absurd HA.out (by simp [furrowref14_Subst.l0])
     | succ k2 =>
      have H := HA.out; clear HA; simp only [furrowref14_Subst.l0] at H
      by_cases aw : x8_2 < (l0_3.length : Int)
      ·rw [if_pos aw] at H
       have bZ := decide_eq_true aw; clear aw
       by_cases aK : 0 ≤ x8_2
       ·rw [if_pos aK] at H
        have dD := decide_eq_true aK; clear aK; replace H := Option.bind_eq_some_iff.mp H; obtain ⟨⟨aA, aC, aD, aE⟩, bn, H⟩ := H; dsimp only at H; have b4 := mk0 bn; clear bn
        by_cases aM : ap.length < 2513169434916
        ·rw [if_pos aM] at H
         have b5 := mk0 aM; clear aM; obtain ⟨aG, bg⟩ : ∃ y_ : List (S30), y_ = (ap ++ [(⟨aA, aC, aD, aE⟩ : S30)]) := ⟨_, rfl⟩; (replace H : (furrowref14_Subst.l0 k2 a1 (wrap64 (x8_2 + 1)) a0_0 a0_1 a0_2 l0_3 a2_0 a2_1 a2_2 l2_3 a0_0 a0_1 a0_2 aG) = some (r1, r2, r3, r4) := by (try rw [bg]); first | with_reducible exact H | with_reducible exact oN H | exact H); have b6 := mk0 bg; clear bg; have H' := mk0 H; clear H; have dE := aq.out; have dF := ar.out; have dG := au.out; have dH := av.out; have dI := aI.out; have dJ := aJ.out; obtain ⟨dK, dL, dM, dN, dO, dP, dQ, dR⟩ := cL4 aa; (try go_wp2); replace aj := mk0 (Kd.V_drew aj.out); replace ak := mk0 (Kd.N_drew ak.out); replace aa := mk0 (blk_drew aa.out); replace ab := mk0 (blk_drew ab.out); replace ag := mk0 (blk_drew ag.out); replace ac := mk0 (blk_drew ac.out); replace HB := mk0 (below_drew1 HB.out); have bh : 0 ≤ (x8_2 : Int) := dY; have bi : x8_2 < (l0_3.length : Int) := dY; obtain ⟨am, bo, bp, b7, aN, aQ, aT, aU, bq, br⟩ := at_T30 bE.out x8_2 bh bi; have hw579_3 := aU; have hw579_2 := aT; have hw579_1 := aQ; have hw579_0 := aN
         cases b7
         replace aN := oC HB aN; replace aQ := oC HB aQ; replace aT := oC HB aT; replace aU := oC HB aU; have bs := mk0 br; have b8 := mk0 bq; clear br bq; replace bh := eq_true bh; replace bi := eq_true bi; refine start_ (n := 14) (S := fun w' => w'.cell? ⟨af, 0, none⟩ = some (.int .i64 a0_0) ∧ w'.cell? ⟨af, 1, none⟩ = some (.int .i64 a0_1) ∧ w'.cell? ⟨af, 2, none⟩ = some (.string a0_2) ∧ w'.cell? ⟨af, 3, none⟩ = some (al) ∧ w'.cell? ⟨ah, 0, none⟩ = some (.int .i64 a0_0) ∧ w'.cell? ⟨ah, 1, none⟩ = some (.int .i64 a0_1) ∧ w'.cell? ⟨ah, 2, none⟩ = some (.string a0_2) ∧ w'.cell? ⟨ah, 3, none⟩ = some (.slice (some am) l0_3.length c0_3) ∧ w'.cell? ⟨ai, 0, none⟩ = some (.int .i64 a2_0) ∧ w'.cell? ⟨ai, 1, none⟩ = some (.int .i64 a2_1) ∧ w'.cell? ⟨ai, 2, none⟩ = some (.string a2_2) ∧ w'.cell? ⟨ai, 3, none⟩ = some (.slice A2_3 l2_3.length c2_3) ∧ w'.cell? (am.add ((x8_2).toNat * 4)) = some (.int .i64 ((rd_T30 l0_3 x8_2).f0)) ∧ w'.cell? ⟨(am.add ((x8_2).toNat * 4)).block, (am.add ((x8_2).toNat * 4)).off + 1, none⟩ = some (.int .i64 ((rd_T30 l0_3 x8_2).f1)) ∧ w'.cell? ⟨(am.add ((x8_2).toNat * 4)).block, (am.add ((x8_2).toNat * 4)).off + 2, none⟩ = some (.string ((rd_T30 l0_3 x8_2).f2)) ∧ w'.cell? ⟨(am.add ((x8_2).toNat * 4)).block, (am.add ((x8_2).toNat * 4)).off + 3, none⟩ = some (.slice bo ((rd_T30 l0_3 x8_2).f3).length bp)) (ds := [13]) (bts 14 0) (by kernel_rfl) rfl rfl ⟨(blk_cell ac.out 0).trans rfl, (blk_cell ac.out 1).trans rfl, (blk_cell ac.out 2).trans rfl, (blk_cell ac.out 3).trans rfl, (blk_cell aa.out 0).trans rfl, (blk_cell aa.out 1).trans rfl, (blk_cell aa.out 2).trans rfl, (blk_cell aa.out 3).trans rfl, (blk_cell ab.out 0).trans rfl, (blk_cell ab.out 1).trans rfl, (blk_cell ab.out 2).trans rfl, (blk_cell ab.out 3).trans rfl, ((HB.out.cell (World.block_lt_of_cell? w _ hw579_0)).trans hw579_0), ((HB.out.cell (World.block_lt_of_cell? w _ hw579_1)).trans hw579_1), ((HB.out.cell (World.block_lt_of_cell? w _ hw579_2)).trans hw579_2), ((HB.out.cell (World.block_lt_of_cell? w _ hw579_3)).trans hw579_3)⟩ (fun hHeld => ?_); refine with_tabW furrowref14_Subst.tab7 furrowref14_Subst.bits7 (fun HT_ HW_ => ?_); generalize wr.drew = dS at aj ak aa ab ag ac HB bs aN aQ aT aU hHeld ⊢; refine qA 0 1 ?_; refine qA 2 5 ?_; refine qA 4 21 ?_; refine qA 7 149 ?_; refine take_ (i := 1) (N := some 34) (v := ?_) (a' := ?_) (bts 14 151) rfl rfl (take_ofW HT_.out HW_.out (by kernel_rfl)) (fun _ _ _ h => h) (Or.inl ⟨by rfl, ?_⟩) hHeld ?_ ?_; rotate_left
         ·rintro w' ⟨s0, s1, s2, s3, s4, s5, s6, s7, s8, s9, s10, s11, s12, s13, s14, s15⟩
          go_simp; (with_reducible rfl)
         rotate_left
         ·simp only [AP, i64_w, i32_w]
          rfl
         refine take_ (i := 3) (N := some 36) (v := ?_) (a' := ?_) (bts 14 159) rfl rfl (take_ofW HT_.out HW_.out (by kernel_rfl)) (fun _ _ _ h => h) (Or.inl ⟨by rfl, ?_⟩) hHeld ?_ ?_; rotate_left
         ·rintro w' ⟨s0, s1, s2, s3, s4, s5, s6, s7, s8, s9, s10, s11, s12, s13, s14, s15⟩
          go_simp; (with_reducible rfl)
         rotate_left
         ·simp only [AP, i64_w, i32_w]
          rfl
         refine qA 5 191 ?_; refine take_ (i := 6) (N := some 39) (v := ?_) (a' := ?_) (bts 14 255) rfl rfl (take_ofW HT_.out HW_.out (by kernel_rfl)) (fun _ _ _ h => h) (Or.inl ⟨by rfl, ?_⟩) hHeld ?_ ?_; rotate_left
         ·rintro w' ⟨s0, s1, s2, s3, s4, s5, s6, s7, s8, s9, s10, s11, s12, s13, s14, s15⟩
          go_simp; (with_reducible rfl)
         rotate_left
         ·simp only [AP, i64_w, i32_w]
          rfl
         refine take_ (i := 8) (N := some 41) (v := ?_) (a' := ?_) (bts 14 511) rfl rfl (take_ofW HT_.out HW_.out (by kernel_rfl)) (fun _ _ _ h => h) (Or.inl ⟨by rfl, ?_⟩) hHeld ?_ ?_; rotate_left
         ·rintro w' ⟨s0, s1, s2, s3, s4, s5, s6, s7, s8, s9, s10, s11, s12, s13, s14, s15⟩
          go_simp; (with_reducible rfl)
         rotate_left
         ·simp only [AP, i64_w, i32_w]
          rfl
         refine one_ (i := 9) (N := some 42) (bts 14 1023) rfl rfl (one_of HT_.out (by kernel_rfl)) (by decide) (fun K hK => ?_); refine goes_ Tryz.func11 (by kernel_rfl) rfl #[.agg #[.int .i64 ((rd_T30 l0_3 x8_2).f0), .int .i64 ((rd_T30 l0_3 x8_2).f1), .string ((rd_T30 l0_3 x8_2).f2), .slice bo ((rd_T30 l0_3 x8_2).f3).length bp], .string a1, .agg #[.int .i64 a2_0, .int .i64 a2_1, .string a2_2, .slice A2_3 l2_3.length c2_3]] (by rfl) rfl rfl (by (try simp only [List.map_toArray, List.map_cons, List.map_nil]); first | done | rfl | (simp only [List.length_drop, List.length_take]; rfl)) ?_; (with_reducible refine (ih k2 (by have := aW.out; have := bf.out; omega) ((rd_T30 l0_3 x8_2).f0) ((rd_T30 l0_3 x8_2).f1) ((rd_T30 l0_3 x8_2).f2) _ _ ((rd_T30 l0_3 x8_2).f3) a1 a2_0 a2_1 a2_2 (fun k_ => ((P2_3_ k_ ∨ w.heap.size ≤ k_) ∧ (some k_ ≠ (al : Value).ownBlock ∧ (k_ ≠ ah ∧ (k_ ≠ ai ∧ (k_ ≠ ae ∧ k_ ≠ af)))))) _ _ l2_3 aA aC aD aE _ ?side1 ?side2 ?side3 b4.out).mono ?_); (case side1 => exact uC (Kd.C_below bs.out HB.out)); (case side2 => exact b8.out); (case side3 => exact aj.out); rintro e dT ⟨dU, rfl, ho0, hb⟩; refine ⟨_, rfl, ?_⟩; replace aj := vB aj hb; have ax := mk0 (Kd.V_lower (Kd.V_mono (ok' := fun k_ => (P2_3_ k_ ∨ w.heap.size ≤ k_) ∧ some k_ ≠ (al : Value).ownBlock ∧ k_ ≠ ah ∧ k_ ≠ ai ∧ k_ ≠ ae ∧ k_ ≠ af) ho0 (fun k_ hk_ => ⟨Or.elim hk_ (fun hs_ => hs_.1) (fun hn_ => (.inr (Nat.le_trans (below_size bH) hn_))), Or.elim hk_ (fun hs_ => hs_.2.1) (fun hn_ => (Kd.fresh' (Kd.N_lt (uN ak.out)) k_ hn_)), Or.elim hk_ (fun hs_ => hs_.2.2.1) (fun hn_ => (Kd.freshB (g := ah) (o := .cells #[.int .i64 a0_0, .int .i64 a0_1, .string a0_2, .slice (some am) l0_3.length c0_3] 30 (0, 0)) (uB aa.out) k_ hn_)), Or.elim hk_ (fun hs_ => hs_.2.2.2.1) (fun hn_ => (Kd.freshB (g := ai) (o := .cells #[.int .i64 a2_0, .int .i64 a2_1, .string a2_2, .slice A2_3 l2_3.length c2_3] 30 (0, 0)) (uB ab.out) k_ hn_)), Or.elim hk_ (fun hs_ => hs_.2.2.2.2.1) (fun hn_ => (Kd.freshB (g := ae) (o := .cells #[.int .i64 0, .int .i64 0, .string (⟨#[]⟩ : ByteArray), .slice none 0 0] 30 (0, 0)) (uB ag.out) k_ hn_)), Or.elim hk_ (fun hs_ => hs_.2.2.2.2.2) (fun hn_ => (Kd.freshB (g := af) (o := .cells #[.int .i64 a0_0, .int .i64 a0_1, .string a0_2, al] 30 (0, 0)) (uB ac.out) k_ hn_))⟩)) (below_size bH)); replace ak := nB ak hb; replace aa := bB aa hb; replace ab := bB ab hb; replace ag := bB ag hb; replace ac := bB ac hb; replace HB := hbB bH hb; (try clear hb hk ho0); obtain ⟨b9, cd, bu⟩ := Kd.V_slice ax.out; (first | subst bu | (injection bu with f1_ f2_ f3_; have f4_ := f1_.symm; have f5_ := f3_.symm; clear f1_ f2_ f3_; subst f4_; subst f5_)); refine hK.out _ _ ⟨(blk_cell ac.out 0).trans rfl, (blk_cell ac.out 1).trans rfl, (blk_cell ac.out 2).trans rfl, (blk_cell ac.out 3).trans rfl, (blk_cell aa.out 0).trans rfl, (blk_cell aa.out 1).trans rfl, (blk_cell aa.out 2).trans rfl, (blk_cell aa.out 3).trans rfl, (blk_cell ab.out 0).trans rfl, (blk_cell ab.out 1).trans rfl, (blk_cell ab.out 2).trans rfl, (blk_cell ab.out 3).trans rfl, ((HB.out.cell (World.block_lt_of_cell? w _ hw579_0)).trans hw579_0), ((HB.out.cell (World.block_lt_of_cell? w _ hw579_1)).trans hw579_1), ((HB.out.cell (World.block_lt_of_cell? w _ hw579_2)).trans hw579_2), ((HB.out.cell (World.block_lt_of_cell? w _ hw579_3)).trans hw579_3)⟩ (fun hHeld => ?_); clear hK K; refine norm_ (a' := ?_) ?_ ?_; rotate_left
         ·show Act.put _ (some 42) _ = _
          simp only [AP, i64_w, i32_w]; rfl
         refine one_ (i := 10) (N := some 43) (bts 14 2047) rfl rfl (one_of HT_.out (by kernel_rfl)) (by decide) (fun K hK => ?_); refine value_ (w1 := ?_) (v := ?_) (by rfl) rfl ?_ ?_; rotate_left 2
         ·go_simp
          constructor
          ·rfl
          ·rfl
         refine hK.out _ _ ⟨(blk_cell (blk_alloc ac.out _) 0).trans rfl, (blk_cell (blk_alloc ac.out _) 1).trans rfl, (blk_cell (blk_alloc ac.out _) 2).trans rfl, (blk_cell (blk_alloc ac.out _) 3).trans rfl, (blk_cell (blk_alloc aa.out _) 0).trans rfl, (blk_cell (blk_alloc aa.out _) 1).trans rfl, (blk_cell (blk_alloc aa.out _) 2).trans rfl, (blk_cell (blk_alloc aa.out _) 3).trans rfl, (blk_cell (blk_alloc ab.out _) 0).trans rfl, (blk_cell (blk_alloc ab.out _) 1).trans rfl, (blk_cell (blk_alloc ab.out _) 2).trans rfl, (blk_cell (blk_alloc ab.out _) 3).trans rfl, (World.cell?_alloc_lt _ _ _ (World.block_lt_of_cell? _ _ (((HB.out.cell (World.block_lt_of_cell? w _ hw579_0)).trans hw579_0)))).trans (((HB.out.cell (World.block_lt_of_cell? w _ hw579_0)).trans hw579_0)), (World.cell?_alloc_lt _ _ _ (World.block_lt_of_cell? _ _ (((HB.out.cell (World.block_lt_of_cell? w _ hw579_1)).trans hw579_1)))).trans (((HB.out.cell (World.block_lt_of_cell? w _ hw579_1)).trans hw579_1)), (World.cell?_alloc_lt _ _ _ (World.block_lt_of_cell? _ _ (((HB.out.cell (World.block_lt_of_cell? w _ hw579_2)).trans hw579_2)))).trans (((HB.out.cell (World.block_lt_of_cell? w _ hw579_2)).trans hw579_2)), (World.cell?_alloc_lt _ _ _ (World.block_lt_of_cell? _ _ (((HB.out.cell (World.block_lt_of_cell? w _ hw579_3)).trans hw579_3)))).trans (((HB.out.cell (World.block_lt_of_cell? w _ hw579_3)).trans hw579_3))⟩ (fun hHeld => ?_); clear hK K; refine norm_ (a' := ?_) ?_ ?_; rotate_left
         ·show Act.put _ (some 43) _ = _
          simp only [AP, i64_w, i32_w]; rfl
         refine one_ (i := 11) (N := some 44) (bts 14 4095) rfl rfl (one_of HT_.out (by kernel_rfl)) (by decide) (fun K hK => ?_); refine Kd.N_append_step k30 (w0 := w) w.heap.size (by rfl) (.tmp 34) (.tmp 43) 28 30 (.agg #[(.int .i64 0), (.int .i64 0), (.string ⟨#[]⟩), (.slice none 0 0)]) 56 rfl Tryz.underlying28 info30 rfl (by decide) (by omega) al ap (⟨aA, aC, aD, aE⟩ : S30) [.int .i64 aA, .int .i64 aC, .string aD, .slice b9 aE.length cd] (fun k_ => (P2_3_ k_ ∨ w.heap.size ≤ k_) ∧ k_ ≠ ah ∧ k_ ≠ ai ∧ k_ ≠ ae ∧ k_ ≠ af) (fun k_ => ((fun k_ => (P2_3_ k_ ∨ w.heap.size ≤ k_) ∧ k_ ≠ ah ∧ k_ ≠ ai ∧ k_ ≠ ae ∧ k_ ≠ af)) k_ ∧ some k_ ≠ (al : Value).ownBlock) rfl rfl ?aP (fun _ hk => hk) ?aF ?aO ?aB ?aS ?aL ?_; (case aP => exact (k30_mkF _ _ (⟨aA, aC, aD, aE⟩ : S30) (Kd.V_reads' (vP (ok' := (fun k_ => ((fun k_ => (P2_3_ k_ ∨ w.heap.size ≤ k_) ∧ k_ ≠ ah ∧ k_ ≠ ai ∧ k_ ≠ ae ∧ k_ ≠ af)) k_ ∧ some k_ ≠ (al : Value).ownBlock)) ax)).2.1 (Kd.V_F (vP (ok' := (fun k_ => ((fun k_ => (P2_3_ k_ ∨ w.heap.size ≤ k_) ∧ k_ ≠ ah ∧ k_ ≠ ai ∧ k_ ≠ ae ∧ k_ ≠ af)) k_ ∧ some k_ ≠ (al : Value).ownBlock)) ax)))); (case aB => exact bH); (case aF => exact (fun k_ hk => ⟨(.inr (Nat.le_trans (below_size bH) hk)), fB aa hk, fB ab hk, fB ag hk, fB ac hk⟩)); (case aO => exact (uN ak.out)); (case aS => exact (below_size bH)); (case aL => have := b5.out; omega); intro dV ce ho hb hg hat; rw [← b6.out] at ho; have n0_ := vA aj hg hat; have n1_ := (gB aa hg (Kd.N_away ak.out (fun _ hk => hk.2.1))); have n2_ := (gB ab hg (Kd.N_away ak.out (fun _ hk => hk.2.2.1))); have n3_ := (gB ag hg (Kd.N_away ak.out (fun _ hk => hk.2.2.2.1))); have n4_ := (gB ac hg (Kd.N_away ak.out (fun _ hk => hk.2.2.2.2))); have n5_ := vA ax hg hat; have n6_ := mk0 (hb); have n7_ := mk0 (ho); clear aj aa ab ag ac ax HB ak; have aj := n0_; have aa := n1_; have ab := n2_; have ag := n3_; have ac := n4_; have ax := n5_; have HB := n6_; have bv := n7_; clear n0_ n1_ n2_ n3_ n4_ n5_ n6_ n7_; clear ho hb hg hat; obtain ⟨bj, bk, bw⟩ := Kd.N_slice bv.out; (first | subst bw | (injection bw with f1_ f2_ f3_; have f4_ := f1_.symm; have f5_ := f3_.symm; clear f1_ f2_ f3_; subst f4_; subst f5_)); refine hK.out _ _ ⟨(blk_cell ac.out 0).trans rfl, (blk_cell ac.out 1).trans rfl, (blk_cell ac.out 2).trans rfl, (blk_cell ac.out 3).trans rfl, (blk_cell aa.out 0).trans rfl, (blk_cell aa.out 1).trans rfl, (blk_cell aa.out 2).trans rfl, (blk_cell aa.out 3).trans rfl, (blk_cell ab.out 0).trans rfl, (blk_cell ab.out 1).trans rfl, (blk_cell ab.out 2).trans rfl, (blk_cell ab.out 3).trans rfl, ((HB.out.cell (World.block_lt_of_cell? w _ hw579_0)).trans hw579_0), ((HB.out.cell (World.block_lt_of_cell? w _ hw579_1)).trans hw579_1), ((HB.out.cell (World.block_lt_of_cell? w _ hw579_2)).trans hw579_2), ((HB.out.cell (World.block_lt_of_cell? w _ hw579_3)).trans hw579_3)⟩ (fun hHeld => ?_); clear hK K; refine norm_ (a' := ?_) ?_ ?_; rotate_left
         ·show Act.put _ (some 44) _ = _
          simp only [AP, i64_w, i32_w]; rfl
         refine qA 12 8191 ?_; refine last_ (i := 13) (N := none) (bts 14 16383) rfl rfl (one_of HT_.out (by kernel_rfl)) (by decide) (fun K hK => ?_); have hs42 : ce.cell? ⟨af, 3, none⟩ = some (al) := (blk_cell ac.out 3).trans rfl; have hfs42 := blk_frozen ac.out 3; have dW := aI.out; have dX := aX.out; have dZ := aZ.out; have d6 := aJ.out; have d7 := aY.out; have d8 := a_.out; refine skip_ (w1 := ?_) (by rfl) rfl ?_ ?_; rotate_left
         ·go_simp
          rfl
         refine hK.out _ _ ?_; clear hK K; refine done_ (done_of HT_.out (by kernel_rfl)) ?_; (try go_wp2)
         go_roundg k2
         case measure => have := aW.out; have := bf.out; omega
         case rel => exact ⟨(wrap64 (x8_2 + 1)), (aG), (.slice bj aG.length bk), eK, H', ⟨by have := aW.out; have := bf.out; omega⟩, ⟨uV (vF ⟨af, 3, none⟩ (.slice bj aG.length bk) aj)⟩, ⟨uN (nF ⟨af, 3, none⟩ (.slice bj aG.length bk) bv)⟩, ⟨kB⟩, ⟨kB⟩, ⟨kB⟩, ⟨kB⟩, ⟨bH⟩⟩
        ·exact nO H aM
       ·exact nO H aK
      ·rw [if_neg aw] at H
       have bZ := decide_eq_false aw; clear aw; simp only [Option.some.injEq, Prod.mk.injEq] at H; obtain ⟨rfl, rfl, rfl, rfl⟩ := H; have d9 := aq.out; have d_ := ar.out; have ea := au.out; have eb := av.out; have ec := aI.out; have ed := aJ.out; obtain ⟨ee, ef, eh, ei, ej, em, eo, ep⟩ := cL4 aa; have er := aY.out; have eu := aX.out; have ew := a_.out; have ex := aZ.out; obtain ⟨ey, ez, eA, eB, eC, eD, eE, eF⟩ := cL4 ac; have eG := bm.out; have eH := bl.out; obtain ⟨eI, eJ, eL, eM, eN, eO, eP, eQ⟩ := cL4 ag; obtain ⟨bz, bC, cf⟩ := Kd.N_slice ak.out; subst cf; go_wp2; refine bodyPost_ret (results_cell_row rfl _ _ ae 30 #[.int .i64 a0_0, .int .i64 a0_1, .string a0_2, .slice bz ap.length bC] (0, 0) _ rfl (kB) Tryz.underlying30 rfl (by kernel_rfl)) rfl ?_; exact ⟨_, rE, Kd.N_V (uN (Kd.N_mono (Kd.N_far (p := ⟨ae, 3, none⟩) (Kd.N_far (p := ⟨ae, 2, none⟩) (Kd.N_far (p := ⟨ae, 1, none⟩) (Kd.N_far (p := ⟨ae, 0, none⟩) (Kd.N_mono ak.out (fun k_ hk => (⟨hk, hk.2.2.2.1⟩ : _ ∧ k_ ≠ ae))) (fun _ hk => hk.2) (.int .i64 a0_0)) (fun _ hk => hk.2) (.int .i64 a0_1)) (fun _ hk => hk.2) (.string a0_2)) (fun _ hk => hk.2) (.slice bz ap.length bC)) (fun _ hk => hk.1.1))), bH⟩

end Go.Proofs.YtnkckdbjeemjeaaGreatDoor.X
