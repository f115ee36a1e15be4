-- PRINTED by print.py (a twelfth state) out of the translation. Not trusted: Lean checks it.
import Derived.Test.YtnkckdbjeemjeaaGreatDoorXx0
import Derived.Test.YtnkckdbjeemjeaaGreatDoorXx7
namespace Go.Proofs.YtnkckdbjeemjeaaGreatDoor.X
open Go.Proofs.YtnkckdbjeemjeaaGreatDoor.Flt Go.Proofs.YtnkckdbjeemjeaaGreatDoor.H Go.RowKit Go.Proofs.YtnkckdbjeemjeaaGreatDoorW.PrintWords Go.Proofs.YtnkckdbjeemjeaaGreatDoorW.PrintLast Go.Proofs.YtnkckdbjeemjeaaGreatDoorW.PrintMore
attribute [local go_sem] max2_int min2_int max_two min_two max_three min_three max_four min_four   -- for this text's walks alone
set_option linter.unusedVariables false
set_option linter.unusedSimpArgs false

/-! ### furrowlaw5_Of: function 8 -/
mutual
def furrowlaw5_Of.l0 : Nat → Int → Int → Int → ByteArray → List (S24) → Int → Int → ByteArray → List (S30) → Option (Int × Int × ByteArray × (List (S30)))
 | 0, _, _, _, _, _, _, _, _, _ => none
 | k + 1, x4, x557000, x557001, x557002, x557003, x559000, x559001, x559002, x559003 => if x4 < (x557003.length : Int) then (if 0 ≤ x4 then ((furrowlaw5_Of.f k ((rd_T24 x557003 x4).f0) ((rd_T24 x557003 x4).f1) ((rd_T24 x557003 x4).f2) ((rd_T24 x557003 x4).f3)).bind fun bt560 => (if x559003.length < 2513169434916 then (furrowlaw5_Of.l0 k (wrap64 (x4 + 1)) x557000 x557001 x557002 x557003 x559000 x559001 x559002 (x559003 ++ [(⟨bt560.1, bt560.2.1, bt560.2.2.1, bt560.2.2.2⟩ : S30)])) else (none))) else (none)) else (some (x559000, x559001, x559002, x559003))
def furrowlaw5_Of.f : Nat → Int → Int → ByteArray → List (S24) → Option (Int × Int × ByteArray × (List (S30)))
 | 0, _, _, _, _ => none
 | k + 1, a0_0, a0_1, a0_2, l0_3 => furrowlaw5_Of.l0 k 0 a0_0 a0_1 a0_2 l0_3 a0_0 a0_1 a0_2 ([] : List (S30))
end
theorem furrowlaw5_Of.mono_l : ∀ k, (∀ y0 y1 y2 y3, LeO (furrowlaw5_Of.f k y0 y1 y2 y3) (furrowlaw5_Of.f (k + 1) y0 y1 y2 y3)) ∧ (∀ y0 y1 y2 y3 y4 y5 y6 y7 y8, LeO (furrowlaw5_Of.l0 k y0 y1 y2 y3 y4 y5 y6 y7 y8) (furrowlaw5_Of.l0 (k + 1) y0 y1 y2 y3 y4 y5 y6 y7 y8))
 | 0 => by refine ⟨?_, ?_⟩ <;> intros <;> exact fun r h => by simp [furrowlaw5_Of.f, furrowlaw5_Of.l0] at h
 | k + 1 => by
  obtain ⟨i0_, i1_⟩ := furrowlaw5_Of.mono_l k; refine ⟨?_, ?_⟩ <;> intros
  ·unfold furrowlaw5_Of.f; exact lO_
  ·unfold furrowlaw5_Of.l0; exact lO_
theorem furrowlaw5_Of.mono : ∀ a0 a1 a2 a3 k, LeO (furrowlaw5_Of.f k a0 a1 a2 a3) (furrowlaw5_Of.f (k + 1) a0 a1 a2 a3) := by
 intro a0 a1 a2 a3 k
 obtain ⟨ih0, ih1⟩ := furrowlaw5_Of.mono_l k
 exact ih0 a0 a1 a2 a3
def furrowlaw5_Of.T5 : Bool × List (List Nat × List Nat) := (true, [([], []), ([0], [0]), ([], []), ([2], [2]), ([], []), ([3, 4], [3, 4]), ([5], [5]), ([6], [6]), ([7], [7]), ([1, 8, 7], [1, 8]), ([0, 1, 2, 3, 4, 5, 6, 7, 8, 9], []), ([10, 9, 9, 0, 1, 2, 3, 4, 5, 6, 7, 8, 9], [9, 10])])
def furrowlaw5_Of.B5 : List Nat := [0, 1, 0, 4, 0, 28, 60, 124, 252, 511, 1023, 2047]
theorem furrowlaw5_Of.tab5 : rtab .any (opsOf Tryz.f8 5) = furrowlaw5_Of.T5 := by kernel_rfl
theorem furrowlaw5_Of.bits5 : waitsOk furrowlaw5_Of.T5.2 furrowlaw5_Of.B5 = true := by kernel_rfl
set_option maxHeartbeats 8000000 in
set_option maxRecDepth 100000 in
theorem furrowlaw5_Of.calls (k : Nat) : ∀ (a0_0 : Int) (a0_1 : Int) (a0_2 : ByteArray) (A0_3 : Option Addr) (c0_3 : Nat) (l0_3 : List (S24)) (r1 : Int) (r2 : Int) (r3 : ByteArray) (r4 : List (S30)) (w : World) (hr0_3 : Kd.C k24 w A0_3 l0_3.length l0_3) (hc0_3 : l0_3.length ≤ c0_3) (h : furrowlaw5_Of.f k a0_0 a0_1 a0_2 l0_3 = some (r1, r2, r3, r4)),
  Calls Tryz.prog 8 #[.agg #[.int .i64 a0_0, .int .i64 a0_1, .string a0_2, .slice A0_3 l0_3.length c0_3]] w fun e w' => ∃ v3_ : Value, e = .returned (.agg #[.int .i64 r1, .int .i64 r2, .string r3, v3_]) ∧ Kd.R k30 30 w' w.heap.size (fun _ => True) v3_ r4 ∧ Below w.heap.size w w' := by
 induction k using Nat.strongRecOn with
 | _ k ih =>
 intro a0_0 a0_1 a0_2 A0_3 c0_3 l0_3 r1 r2 r3 r4 w hr0_3 hc0_3 h
 cases k with
 | zero => exact absurd h (by simp [furrowlaw5_Of.f])
 | succ k =>
 simp only [furrowlaw5_Of.f] at h
 have hu24 := Tryz.underlying24
 have hu30 := Tryz.underlying30
 have bj := mk0 hr0_3
 have bT := mk0 hc0_3
 clear hr0_3 hc0_3
 have HB := mk0 (Below.refl w.heap.size w)
 have H : (furrowlaw5_Of.l0 k 0 a0_0 a0_1 a0_2 l0_3 a0_0 a0_1 a0_2 ([] : List (S30))) = some (r1, r2, r3, r4) := h
 clear h
 have H' := mk0 H
 clear H
 go_enter Tryz.func8, Tryz.ntmps8
 go_wp2_with (first | ((with_reducible refine gate_dst (N := 1) rfl ?_); refine bxE 1 #[.int .i64 a0_0, .int .i64 a0_1, .string a0_2, .slice A0_3 l0_3.length c0_3] 24 ?_; intro al hg w2 hbox hb; have aa := mk0 (hbox); have bU := gE (uL HB.out) hg; replace HB := hbB (uL HB.out) hb; clear hb hbox hg) | ((with_reducible refine gate_dst (N := 2) rfl ?_); refine bxE 2 #[.int .i64 0, .int .i64 0, .string (⟨#[]⟩ : ByteArray), .slice none 0 0] 30 ?_; intro ag hg w3 hbox hb; have ac := mk0 (hbox); have bV := gE bH hg; replace HB := hbB bH hb; have aD := nL aa hg; have aE := nG aa hg; replace aa := bB aa hb; clear hb hbox hg; have bW := aD.out; have bX := aE.out; obtain ⟨bk, bl, bm, bn, bo, bp, bq, br⟩ := cL4 aa) | ((with_reducible refine gate_dst (N := 3) rfl ?_); refine bxE 3 #[.int .i64 0, .int .i64 0, .string (⟨#[]⟩ : ByteArray), .slice none 0 0] 30 ?_; intro af hg w6 hbox hb; have ab := mk0 (hbox); have bY := gE bH hg; replace HB := hbB bH hb; have ar := nL aa hg; have au := nG aa hg; replace aa := bB aa hb; have aG := nL ac hg; have aH := nG ac hg; replace ac := bB ac hb; clear hb hbox hg; have bZ := au.out; have b4 := ar.out; have b5 := aH.out; have b6 := aG.out; obtain ⟨bs, bu, bv, bw, bz, bC, bE, bF⟩ := cL4 ab))
 go_loopg [4] k (fun kq v4 w' => ∃ (x4_1 : Int) (ah : List (S30)) (ai : Value), v4 = .int .i64 x4_1 ∧ Aside0 (furrowlaw5_Of.l0 kq x4_1 a0_0 a0_1 a0_2 l0_3 a0_0 a0_1 a0_2 ah = some (r1, r2, r3, r4)) ∧ Aside0 (kq ≤ k) ∧ Aside0 (Kd.R k30 30 w' w.heap.size (fun k_ => k_ ≠ ag ∧ k_ ≠ af) ai ah) ∧ Aside0 (w'.heap[al]? = some (.cells #[.int .i64 a0_0, .int .i64 a0_1, .string a0_2, (.slice A0_3 l0_3.length c0_3)] 24 (0, 0))) ∧ Aside0 (w'.heap[ag]? = some (.cells #[.int .i64 0, .int .i64 0, .string (⟨#[]⟩ : ByteArray), (.slice none 0 0)] 30 (0, 0))) ∧ Aside0 (w'.heap[af]? = some (.cells #[.int .i64 a0_0, .int .i64 a0_1, .string a0_2, ai] 30 (0, 0))) ∧ Aside0 (Below w.heap.size w w'))
 case atStart => exact ⟨(0), (([] : List (S30))), (.slice none 0 0), eK, H', ⟨Nat.le_refl _⟩, ⟨nK⟩, ⟨kB⟩, ⟨kB⟩, ⟨kB⟩, ⟨bH⟩⟩
 case round =>
  clear H'; (try clear bk bl bm bn bs bu bv bw bo bp bq br bz bC bE bF); obtain ⟨x4_1, ah, ai, rfl, HA, aI, ae, aa, ac, ab, HB⟩ := hrel
  cases gk with
  | zero => exact absurd HA.out (by simp [furrowlaw5_Of.l0])
  | succ k1 =>
   have H := HA.out; clear HA; simp only [furrowlaw5_Of.l0] at H
   by_cases ak : x4_1 < (l0_3.length : Int)
   ·rw [if_pos ak] at H
    have bG := decide_eq_true ak; clear ak
    by_cases av : 0 ≤ x4_1
    ·rw [if_pos av] at H
     have b7 := decide_eq_true av; clear av; replace H := Option.bind_eq_some_iff.mp H; obtain ⟨⟨am, ao, ap, aq⟩, aQ, H⟩ := H; dsimp only at H; have bI := mk0 aQ; clear aQ
     by_cases aw : ah.length < 2513169434916
     ·rw [if_pos aw] at H
      have bJ := mk0 aw; clear aw; obtain ⟨ax, aJ⟩ : ∃ y_ : List (S30), y_ = (ah ++ [(⟨am, ao, ap, aq⟩ : S30)]) := ⟨_, rfl⟩; (replace H : (furrowlaw5_Of.l0 k1 (wrap64 (x4_1 + 1)) a0_0 a0_1 a0_2 l0_3 a0_0 a0_1 a0_2 ax) = some (r1, r2, r3, r4) := by (try rw [aJ]); first | with_reducible exact H | with_reducible exact oN H | exact H); have bK := mk0 aJ; clear aJ; have H' := mk0 H; clear H; have b8 := aD.out; have b9 := aE.out; have cd := ar.out; have ce := au.out; obtain ⟨cf, cg, ch, ci, cj, ck, cl, cm⟩ := cL4 aa; (try go_wp2); replace ae := mk0 (Kd.R_drew ae.out); replace aa := mk0 (blk_drew aa.out); replace ac := mk0 (blk_drew ac.out); replace ab := mk0 (blk_drew ab.out); replace HB := mk0 (below_drew1 HB.out); have aK : 0 ≤ (x4_1 : Int) := dY; have aM : x4_1 < (l0_3.length : Int) := dY; obtain ⟨aj, aT, aU, bL, ay, az, aA, aC, aV, aW⟩ := at_T24 bj.out x4_1 aK aM; have hw559_3 := aC; have hw559_2 := aA; have hw559_1 := az; have hw559_0 := ay
      cases bL
      replace ay := oC HB ay; replace az := oC HB az; replace aA := oC HB aA; replace aC := oC HB aC; have aX := mk0 aW; have bM := mk0 aV; clear aW aV; replace aK := eq_true aK; replace aM := eq_true aM; refine start_ (n := 12) (S := fun w' => w'.cell? ⟨af, 0, none⟩ = some (.int .i64 a0_0) ∧ w'.cell? ⟨af, 1, none⟩ = some (.int .i64 a0_1) ∧ w'.cell? ⟨af, 2, none⟩ = some (.string a0_2) ∧ w'.cell? ⟨af, 3, none⟩ = some (ai) ∧ w'.cell? ⟨al, 0, none⟩ = some (.int .i64 a0_0) ∧ w'.cell? ⟨al, 1, none⟩ = some (.int .i64 a0_1) ∧ w'.cell? ⟨al, 2, none⟩ = some (.string a0_2) ∧ w'.cell? ⟨al, 3, none⟩ = some (.slice (some aj) l0_3.length c0_3) ∧ w'.cell? (aj.add ((x4_1).toNat * 4)) = some (.int .i64 ((rd_T24 l0_3 x4_1).f0)) ∧ w'.cell? ⟨(aj.add ((x4_1).toNat * 4)).block, (aj.add ((x4_1).toNat * 4)).off + 1, none⟩ = some (.int .i64 ((rd_T24 l0_3 x4_1).f1)) ∧ w'.cell? ⟨(aj.add ((x4_1).toNat * 4)).block, (aj.add ((x4_1).toNat * 4)).off + 2, none⟩ = some (.string ((rd_T24 l0_3 x4_1).f2)) ∧ w'.cell? ⟨(aj.add ((x4_1).toNat * 4)).block, (aj.add ((x4_1).toNat * 4)).off + 3, none⟩ = some (.slice aT ((rd_T24 l0_3 x4_1).f3).length aU)) (ds := [11]) (bts 12 0) (by kernel_rfl) rfl rfl ⟨(blk_cell ab.out 0).trans rfl, (blk_cell ab.out 1).trans rfl, (blk_cell ab.out 2).trans rfl, (blk_cell ab.out 3).trans rfl, (blk_cell aa.out 0).trans rfl, (blk_cell aa.out 1).trans rfl, (blk_cell aa.out 2).trans rfl, (blk_cell aa.out 3).trans rfl, ((HB.out.cell (World.block_lt_of_cell? w _ hw559_0)).trans hw559_0), ((HB.out.cell (World.block_lt_of_cell? w _ hw559_1)).trans hw559_1), ((HB.out.cell (World.block_lt_of_cell? w _ hw559_2)).trans hw559_2), ((HB.out.cell (World.block_lt_of_cell? w _ hw559_3)).trans hw559_3)⟩ (fun hHeld => ?_); refine with_tabW furrowlaw5_Of.tab5 furrowlaw5_Of.bits5 (fun HT_ HW_ => ?_); generalize wr.drew = cn at ae aa ac ab HB aX ay az aA aC hHeld ⊢; refine qA 0 1 ?_; refine qA 2 5 ?_; refine qA 4 21 ?_; refine take_ (i := 1) (N := some 20) (v := ?_) (a' := ?_) (bts 12 23) rfl rfl (take_ofW HT_.out HW_.out (by kernel_rfl)) (fun _ _ _ h => h) (Or.inl ⟨by rfl, ?_⟩) hHeld ?_ ?_; rotate_left
      ·rintro w' ⟨s0, s1, s2, s3, s4, s5, s6, s7, s8, s9, s10, s11⟩
       go_simp; (with_reducible rfl)
      rotate_left
      ·simp only [AP, i64_w, i32_w]
       rfl
      refine take_ (i := 3) (N := some 22) (v := ?_) (a' := ?_) (bts 12 31) rfl rfl (take_ofW HT_.out HW_.out (by kernel_rfl)) (fun _ _ _ h => h) (Or.inl ⟨by rfl, ?_⟩) hHeld ?_ ?_; rotate_left
      ·rintro w' ⟨s0, s1, s2, s3, s4, s5, s6, s7, s8, s9, s10, s11⟩
       go_simp; (with_reducible rfl)
      rotate_left
      ·simp only [AP, i64_w, i32_w]
       rfl
      refine qA 5 63 ?_; refine take_ (i := 6) (N := some 25) (v := ?_) (a' := ?_) (bts 12 127) rfl rfl (take_ofW HT_.out HW_.out (by kernel_rfl)) (fun _ _ _ h => h) (Or.inl ⟨by rfl, ?_⟩) hHeld ?_ ?_; rotate_left
      ·rintro w' ⟨s0, s1, s2, s3, s4, s5, s6, s7, s8, s9, s10, s11⟩
       go_simp; (with_reducible rfl)
      rotate_left
      ·simp only [AP, i64_w, i32_w]
       rfl
      refine one_ (i := 7) (N := some 26) (bts 12 255) rfl rfl (one_of HT_.out (by kernel_rfl)) (by decide) (fun K hK => ?_); refine goes_ Tryz.func8 (by kernel_rfl) rfl #[.agg #[.int .i64 ((rd_T24 l0_3 x4_1).f0), .int .i64 ((rd_T24 l0_3 x4_1).f1), .string ((rd_T24 l0_3 x4_1).f2), .slice aT ((rd_T24 l0_3 x4_1).f3).length aU]] (by rfl) rfl rfl (by (try simp only [List.map_toArray, List.map_cons, List.map_nil]); first | done | rfl | (simp only [List.length_drop, List.length_take]; rfl)) ?_; (with_reducible refine (ih k1 (by have := aI.out; omega) ((rd_T24 l0_3 x4_1).f0) ((rd_T24 l0_3 x4_1).f1) ((rd_T24 l0_3 x4_1).f2) _ _ ((rd_T24 l0_3 x4_1).f3) am ao ap aq _ ?side1 ?side2 bI.out).mono ?_); (case side1 => exact uC (Kd.C_below aX.out HB.out)); (case side2 => exact bM.out); rintro e cp ⟨cq, rfl, ho0, hb⟩; refine ⟨_, rfl, ?_⟩; have aN := mk0 (Kd.R_lower (Kd.R_newB (Kd.R_newB (Kd.R_new' ho0 (Kd.R_lt (uR ae.out))) (g := ag) (o := .cells #[.int .i64 0, .int .i64 0, .string (⟨#[]⟩ : ByteArray), .slice none 0 0] 30 (0, 0)) (uB ac.out)) (g := af) (o := .cells #[.int .i64 a0_0, .int .i64 a0_1, .string a0_2, ai] 30 (0, 0)) (uB ab.out)) (below_size bH)); replace ae := mk0 (Kd.R_elder' (uR ae.out) (Kd.R_base ho0) hb); replace aa := bB aa hb; replace ac := bB ac hb; replace ab := bB ab hb; replace HB := hbB bH hb; (try clear hb ho0); obtain ⟨bO, bP, aY⟩ := Kd.R_slice aN.out; (first | subst aY | (injection aY with f1_ f2_ f3_; have f4_ := f1_.symm; have f5_ := f3_.symm; clear f1_ f2_ f3_; subst f4_; subst f5_)); refine hK.out _ _ ⟨(blk_cell ab.out 0).trans rfl, (blk_cell ab.out 1).trans rfl, (blk_cell ab.out 2).trans rfl, (blk_cell ab.out 3).trans rfl, (blk_cell aa.out 0).trans rfl, (blk_cell aa.out 1).trans rfl, (blk_cell aa.out 2).trans rfl, (blk_cell aa.out 3).trans rfl, ((HB.out.cell (World.block_lt_of_cell? w _ hw559_0)).trans hw559_0), ((HB.out.cell (World.block_lt_of_cell? w _ hw559_1)).trans hw559_1), ((HB.out.cell (World.block_lt_of_cell? w _ hw559_2)).trans hw559_2), ((HB.out.cell (World.block_lt_of_cell? w _ hw559_3)).trans hw559_3)⟩ (fun hHeld => ?_); clear hK K; refine norm_ (a' := ?_) ?_ ?_; rotate_left
      ·show Act.put _ (some 26) _ = _
       simp only [AP, i64_w, i32_w]; rfl
      refine one_ (i := 8) (N := some 27) (bts 12 511) rfl rfl (one_of HT_.out (by kernel_rfl)) (by decide) (fun K hK => ?_); refine value_ (w1 := ?_) (v := ?_) (by rfl) rfl ?_ ?_; rotate_left 2
      ·go_simp
       constructor
       ·rfl
       ·rfl
      refine hK.out _ _ ⟨(blk_cell (blk_alloc ab.out _) 0).trans rfl, (blk_cell (blk_alloc ab.out _) 1).trans rfl, (blk_cell (blk_alloc ab.out _) 2).trans rfl, (blk_cell (blk_alloc ab.out _) 3).trans rfl, (blk_cell (blk_alloc aa.out _) 0).trans rfl, (blk_cell (blk_alloc aa.out _) 1).trans rfl, (blk_cell (blk_alloc aa.out _) 2).trans rfl, (blk_cell (blk_alloc aa.out _) 3).trans rfl, (World.cell?_alloc_lt _ _ _ (World.block_lt_of_cell? _ _ (((HB.out.cell (World.block_lt_of_cell? w _ hw559_0)).trans hw559_0)))).trans (((HB.out.cell (World.block_lt_of_cell? w _ hw559_0)).trans hw559_0)), (World.cell?_alloc_lt _ _ _ (World.block_lt_of_cell? _ _ (((HB.out.cell (World.block_lt_of_cell? w _ hw559_1)).trans hw559_1)))).trans (((HB.out.cell (World.block_lt_of_cell? w _ hw559_1)).trans hw559_1)), (World.cell?_alloc_lt _ _ _ (World.block_lt_of_cell? _ _ (((HB.out.cell (World.block_lt_of_cell? w _ hw559_2)).trans hw559_2)))).trans (((HB.out.cell (World.block_lt_of_cell? w _ hw559_2)).trans hw559_2)), (World.cell?_alloc_lt _ _ _ (World.block_lt_of_cell? _ _ (((HB.out.cell (World.block_lt_of_cell? w _ hw559_3)).trans hw559_3)))).trans (((HB.out.cell (World.block_lt_of_cell? w _ hw559_3)).trans hw559_3))⟩ (fun hHeld => ?_); clear hK K; refine norm_ (a' := ?_) ?_ ?_; rotate_left
      ·show Act.put _ (some 27) _ = _
       simp only [AP, i64_w, i32_w]; rfl
      refine one_ (i := 9) (N := some 28) (bts 12 1023) rfl rfl (one_of HT_.out (by kernel_rfl)) (by decide) (fun K hK => ?_); refine Kd.R_append_step k30 (w0 := w) w.heap.size (by rfl) (.tmp 20) (.tmp 27) 28 30 (.agg #[(.int .i64 0), (.int .i64 0), (.string ⟨#[]⟩), (.slice none 0 0)]) 56 rfl Tryz.underlying28 info30 rfl (by decide) (by omega) ai ah (⟨am, ao, ap, aq⟩ : S30) [.int .i64 am, .int .i64 ao, .string ap, .slice bO aq.length bP] (fun k_ => k_ ≠ ag ∧ k_ ≠ af) (fun k_ => ((fun k_ => k_ ≠ ag ∧ k_ ≠ af)) k_ ∧ some k_ ≠ (ai : Value).ownBlock) rfl rfl ?aP (fun _ hk => hk) ?aF ?aO ?aB ?aS ?aL ?_; (case aP => exact k30_mkM _ _ _ (⟨am, ao, ap, aq⟩ : S30) (Kd.R_mono (aN.out) (fun k_ hk => ⟨⟨hk.1.2, hk.2⟩, hk.1.1.2⟩))); (case aB => exact bH); (case aF => exact (fun k_ hk => ⟨fB ac hk, fB ab hk⟩)); (case aO => exact (uR (rP ae))); (case aS => exact (below_size bH)); (case aL => have := bJ.out; omega); intro cr bQ ho hb hg hat; rw [← bK.out] at ho; have n0_ := (gB aa hg (Kd.R_ne ae.out aa.out (by decide))); have n1_ := (gB ac hg (Kd.R_away ae.out (fun _ hk => hk.1.1))); have n2_ := (gB ab hg (Kd.R_away ae.out (fun _ hk => hk.1.2))); have n3_ := mk0 (hb); have n4_ := mk0 (ho); clear aa ac ab HB ae aN; have aa := n0_; have ac := n1_; have ab := n2_; have HB := n3_; have aZ := n4_; clear n0_ n1_ n2_ n3_ n4_; clear ho hb hg hat; obtain ⟨a_, bf, bg⟩ := Kd.R_slice aZ.out; (first | subst bg | (injection bg with f1_ f2_ f3_; have f4_ := f1_.symm; have f5_ := f3_.symm; clear f1_ f2_ f3_; subst f4_; subst f5_)); refine hK.out _ _ ⟨(blk_cell ab.out 0).trans rfl, (blk_cell ab.out 1).trans rfl, (blk_cell ab.out 2).trans rfl, (blk_cell ab.out 3).trans rfl, (blk_cell aa.out 0).trans rfl, (blk_cell aa.out 1).trans rfl, (blk_cell aa.out 2).trans rfl, (blk_cell aa.out 3).trans rfl, ((HB.out.cell (World.block_lt_of_cell? w _ hw559_0)).trans hw559_0), ((HB.out.cell (World.block_lt_of_cell? w _ hw559_1)).trans hw559_1), ((HB.out.cell (World.block_lt_of_cell? w _ hw559_2)).trans hw559_2), ((HB.out.cell (World.block_lt_of_cell? w _ hw559_3)).trans hw559_3)⟩ (fun hHeld => ?_); clear hK K; refine norm_ (a' := ?_) ?_ ?_; rotate_left
      ·show Act.put _ (some 28) _ = _
       simp only [AP, i64_w, i32_w]; rfl
      refine qA 10 2047 ?_; refine last_ (i := 11) (N := none) (bts 12 4095) rfl rfl (one_of HT_.out (by kernel_rfl)) (by decide) (fun K hK => ?_); have hs22 : bQ.cell? ⟨af, 3, none⟩ = some (ai) := (blk_cell ab.out 3).trans rfl; have hfs22 := blk_frozen ab.out 3; have ct := ar.out; have cu := aG.out; have cv := au.out; have cw := aH.out; refine skip_ (w1 := ?_) (by rfl) rfl ?_ ?_; rotate_left
      ·go_simp
       rfl
      refine hK.out _ _ ?_; clear hK K; refine done_ (done_of HT_.out (by kernel_rfl)) ?_; (try go_wp2)
      go_roundg k1
      case measure => have := aI.out; omega
      case rel => exact ⟨(wrap64 (x4_1 + 1)), (ax), (.slice a_ ax.length bf), eK, H', ⟨by have := aI.out; omega⟩, ⟨uR (Kd.R_mono (Kd.R_far (p := ⟨af, 3, none⟩) (Kd.R_mono aZ.out (fun k_ hk => (⟨hk, hk.2⟩ : _ ∧ k_ ≠ af))) (fun _ hk => hk.2) (.slice a_ ax.length bf)) (fun _ hk => ⟨hk.1.1, hk.1.2⟩))⟩, ⟨kB⟩, ⟨kB⟩, ⟨kB⟩, ⟨bH⟩⟩
     ·exact nO H aw
    ·exact nO H av
   ·rw [if_neg ak] at H
    have bG := decide_eq_false ak; clear ak; simp only [Option.some.injEq, Prod.mk.injEq] at H; obtain ⟨rfl, rfl, rfl, rfl⟩ := H; have cx := aD.out; have cy := aE.out; have cz := ar.out; have cA := au.out; obtain ⟨cD, cE, cF, cG, cH, cI, cJ, cK⟩ := cL4 aa; have cL := aH.out; have cM := aG.out; obtain ⟨cN, cO, cP, cR, cS, cT, cU, cV⟩ := cL4 ab; obtain ⟨cW, cX, cY, cZ, c_, da, db, dc⟩ := cL4 ac; obtain ⟨bh, bi, bR⟩ := Kd.R_slice ae.out; subst bR; go_wp2; refine bodyPost_ret (results_cell_row rfl _ _ ag 30 #[.int .i64 a0_0, .int .i64 a0_1, .string a0_2, .slice bh ah.length bi] (0, 0) _ rfl (kB) Tryz.underlying30 rfl (by kernel_rfl)) rfl ?_; exact ⟨_, rE, uR (Kd.R_mono (Kd.R_far (p := ⟨ag, 3, none⟩) (Kd.R_far (p := ⟨ag, 2, none⟩) (Kd.R_far (p := ⟨ag, 1, none⟩) (Kd.R_far (p := ⟨ag, 0, none⟩) (Kd.R_mono ae.out (fun k_ hk => (⟨hk, hk.1⟩ : _ ∧ k_ ≠ ag))) (fun _ hk => hk.2) (.int .i64 a0_0)) (fun _ hk => hk.2) (.int .i64 a0_1)) (fun _ hk => hk.2) (.string a0_2)) (fun _ hk => hk.2) (.slice bh ah.length bi)) (fun _ hk => trivial)), bH⟩

/-! ### furrowref14_Const: function 27 -/
def furrowref14_Const.f (a0 : Int) (a1 : Int) : Option (List Int × Int) := if a0 < 0 then (if 0 ≤ 35184372088832 then (some ((List.replicate 0 0), a1)) else (none)) else (if 0 ≤ a0 then (if (a0 : Int).toNat ≤ 35184372088832 then (some ((List.replicate (a0 : Int).toNat 0), a1)) else (none)) else (none))
set_option maxHeartbeats 8000000 in
set_option maxRecDepth 100000 in
theorem furrowref14_Const.calls (a0 : Int) (a1 : Int) (r1 : List Int) (r2 : Int) (w : World) (h : furrowref14_Const.f a0 a1 = some (r1, r2)) :
  Calls Tryz.prog 27 #[.int .i64 a0, .int .i64 a1] w fun e w' => ∃ v0_ : Value, e = .returned (.agg #[v0_, .int .i64 r2]) ∧ Kd.R (Kd.int .i64) 2 w' w.heap.size (fun _ => True) v0_ r1 ∧ Below w.heap.size w w' := by
 have hu39 := Tryz.underlying39
 have HB := mk0 (Below.refl w.heap.size w)
 have H : (if a0 < 0 then (if 0 ≤ 35184372088832 then (some ((List.replicate 0 0), a1)) else (none)) else (if 0 ≤ a0 then (if (a0 : Int).toNat ≤ 35184372088832 then (some ((List.replicate (a0 : Int).toNat 0), a1)) else (none)) else (none))) = some (r1, r2) := h
 clear h
 by_cases c3 : a0 < 0
 ·rw [if_pos c3] at H
  have au := decide_eq_true c3; clear c3
  by_cases c4 : 0 ≤ 35184372088832
  ·rw [if_pos c4] at H
   have ay := eq_true c4; have az := decide_eq_true c4; clear c4; obtain ⟨af, ag⟩ : ∃ y_ : List Int, y_ = (List.replicate 0 0) := ⟨_, rfl⟩; (replace H : (some (af, a1)) = some (r1, r2) := by (try rw [ag]); first | with_reducible exact H | with_reducible exact oN H | exact H); have aj := mk0 ag; clear ag; simp only [Option.some.injEq, Prod.mk.injEq] at H; obtain ⟨rfl, rfl⟩ := H; go_enter Tryz.func27, Tryz.ntmps27
   go_wp2_with (first | ((with_reducible refine gate_dst (N := 4) rfl ?_); refine bxE 4 #[.slice none 0 0, .int .i64 0] 39 ?_; intro ab hg w5 hbox hb; have aa := mk0 (hbox); have av := gE (uL HB.out) hg; replace HB := hbB (uL HB.out) hb; clear hb hbox hg) | ((with_reducible refine gate_dst (N := 8) rfl ?_); refine Kd.R_make (Kd.int .i64) _ 2 rfl (N := 8) rfl 37 _ _ rfl 0 rfl rfl Tryz.underlying37 (.int .i64 0) 8 info2 rfl (by decide) (by omega) 0 (ok := fun _ => True) (okp := fun _ => True) rfl (fun _ hk => hk) trivial (by omega) (by omega) (Below.refl _ _) (Nat.le_refl _) ?_; intro aA w6 ho7 hb hg_ hnew_; clear hg_ hnew_; (first | rw [← aj.out] at ho7 | (simp only [Int.reduceToNat] at ho7; rw [← aj.out] at ho7)); have ak := mk0 (Kd.R_lower ho7 (below_size bH)); replace aa := bB aa hb; replace HB := hbB bH hb; clear hb ho7; obtain ⟨al, am, aw⟩ := Kd.R_slice ak.out; subst aw; obtain ⟨aC, aD, aE, aG⟩ := cL2 aa))
   refine bodyPost_ret (results_cell_row rfl _ _ ab 39 #[.slice al af.length am, .int .i64 a1] (0, 0) _ rfl (kB) Tryz.underlying39 rfl (by kernel_rfl)) rfl ?_; exact ⟨_, rE, uR (Kd.R_mono (Kd.R_far (p := ⟨ab, 1, none⟩) (Kd.R_far (p := ⟨ab, 0, none⟩) (Kd.R_types ak.out aa.out (by decide)) (fun _ hk => hk.2) (.slice al af.length am)) (fun _ hk => hk.2) (.int .i64 a1)) (fun _ hk => trivial)), bH⟩
  ·exact nO H c4
 ·rw [if_neg c3] at H
  have au := decide_eq_false c3; clear c3
  by_cases ac : 0 ≤ a0
  ·rw [if_pos ac] at H
   have aH := eq_true ac; have aI := decide_eq_true ac; clear ac
   by_cases ae : (a0 : Int).toNat ≤ 35184372088832
   ·rw [if_pos ae] at H
    have aJ := eq_true ae; have aK := decide_eq_true ae; clear ae; obtain ⟨ah, ai⟩ : ∃ y_ : List Int, y_ = (List.replicate (a0 : Int).toNat 0) := ⟨_, rfl⟩; (replace H : (some (ah, a1)) = some (r1, r2) := by (try rw [ai]); first | with_reducible exact H | with_reducible exact oN H | exact H); have ao := mk0 ai; clear ai; simp only [Option.some.injEq, Prod.mk.injEq] at H; obtain ⟨rfl, rfl⟩ := H; go_enter Tryz.func27, Tryz.ntmps27
    go_wp2_with (first | ((with_reducible refine gate_dst (N := 4) rfl ?_); refine bxE 4 #[.slice none 0 0, .int .i64 0] 39 ?_; intro ab hg aM hbox hb; have aa := mk0 (hbox); have av := gE (uL HB.out) hg; replace HB := hbB (uL HB.out) hb; clear hb hbox hg) | ((with_reducible refine gate_dst (N := 8) rfl ?_); refine Kd.R_make (Kd.int .i64) _ 2 rfl (N := 8) rfl 37 _ _ rfl a0 rfl rfl Tryz.underlying37 (.int .i64 0) 8 info2 rfl (by decide) (by omega) 0 (ok := fun _ => True) (okp := fun _ => True) rfl (fun _ hk => hk) trivial (dY) (Nat.le_trans (Nat.mul_le_mul_right _ (dY : a0.toNat ≤ 35184372088832)) (by omega)) (Below.refl _ _) (Nat.le_refl _) ?_; intro aN aQ ho14 hb hg_ hnew_; clear hg_ hnew_; (first | rw [← ao.out] at ho14 | (simp only [Int.reduceToNat] at ho14; rw [← ao.out] at ho14)); have ap := mk0 (Kd.R_lower ho14 (below_size bH)); replace aa := bB aa hb; replace HB := hbB bH hb; clear hb ho14; obtain ⟨aq, ar, ax⟩ := Kd.R_slice ap.out; subst ax; obtain ⟨aT, aU, aV, aW⟩ := cL2 aa))
    refine bodyPost_ret (results_cell_row rfl _ _ ab 39 #[.slice aq ah.length ar, .int .i64 a1] (0, 0) _ rfl (kB) Tryz.underlying39 rfl (by kernel_rfl)) rfl ?_; exact ⟨_, rE, uR (Kd.R_mono (Kd.R_far (p := ⟨ab, 1, none⟩) (Kd.R_far (p := ⟨ab, 0, none⟩) (Kd.R_types ap.out aa.out (by decide)) (fun _ hk => hk.2) (.slice aq ah.length ar)) (fun _ hk => hk.2) (.int .i64 a1)) (fun _ hk => trivial)), bH⟩
   ·exact nO H ae
  ·exact nO H ac

/-! ### furrowref14_Index: function 28 -/
def furrowref14_Index.f (a0 : Int) (a1 : Int) : Option (List Int × Int) := (furrowref14_Const.f a0 0).bind fun bt577 => (if a1 ≥ 0 then (if a1 < (bt577.1.length : Int) then (if 0 ≤ a1 then (some ((bt577.1.set (a1 : Int).toNat 1), bt577.2)) else (none)) else (some (bt577.1, bt577.2))) else (some (bt577.1, bt577.2)))
set_option maxHeartbeats 8000000 in
set_option maxRecDepth 100000 in
theorem furrowref14_Index.calls (a0 : Int) (a1 : Int) (r1 : List Int) (r2 : Int) (w : World) (h : furrowref14_Index.f a0 a1 = some (r1, r2)) :
  Calls Tryz.prog 28 #[.int .i64 a0, .int .i64 a1] w fun e w' => ∃ v0_ : Value, e = .returned (.agg #[v0_, .int .i64 r2]) ∧ Kd.R (Kd.int .i64) 2 w' w.heap.size (fun _ => True) v0_ r1 ∧ Below w.heap.size w w' := by
 have hu39 := Tryz.underlying39
 have HB := mk0 (Below.refl w.heap.size w)
 have H : ((furrowref14_Const.f a0 0).bind fun ai => (if a1 ≥ 0 then (if a1 < (ai.1.length : Int) then (if 0 ≤ a1 then (some ((ai.1.set (a1 : Int).toNat 1), ai.2)) else (none)) else (some (ai.1, ai.2))) else (some (ai.1, ai.2)))) = some (r1, r2) := h
 clear h
 replace H := Option.bind_eq_some_iff.mp H
 obtain ⟨⟨ac, ae⟩, az, H⟩ := H
 dsimp only at H
 have A3 := mk0 az
 clear az
 by_cases c4 : a1 ≥ 0
 ·rw [if_pos c4] at H
  have aJ := decide_eq_true c4; clear c4
  by_cases c5 : a1 < (ac.length : Int)
  ·rw [if_pos c5] at H
   have aK := decide_eq_true c5; clear c5
   by_cases c6 : 0 ≤ a1
   ·rw [if_pos c6] at H
    have aW := decide_eq_true c6; clear c6; obtain ⟨aA, aq⟩ : ∃ y_ : List Int, y_ = (ac.set (a1 : Int).toNat 1) := ⟨_, rfl⟩; (replace H : (some (aA, ae)) = some (r1, r2) := by (try rw [aq]); first | with_reducible exact H | with_reducible exact oN H | exact H); have aM := mk0 aq; clear aq; simp only [Option.some.injEq, Prod.mk.injEq] at H; obtain ⟨rfl, rfl⟩ := H; go_enter Tryz.func28, Tryz.ntmps28
    go_wp2_with (first | ((with_reducible refine gate_dst (N := 4) rfl ?_); (try (refine gate_guard (by rfl) ?_; dsimp only)); refine bxE 4 #[.slice none 0 0, .int .i64 0] 39 ?_; intro ag hg w8 hbox hb; have aa := mk0 (hbox); have aC := gE (uL HB.out) hg; replace HB := hbB (uL HB.out) hb; clear hb hbox hg) | ((with_reducible refine gate_dst (N := 7) rfl ?_); refine gsM (some 7) Tryz.func27 #[.int .i64 a0, .int .i64 0] ?_; (with_reducible refine (furrowref14_Const.calls a0 0 ac ae _ A3.out).mono ?_); rintro e w9 ⟨aD, rfl, ho0, hb⟩; refine ⟨_, rfl, ?_⟩; have ab := mk0 (Kd.R_lower ho0 (below_size bH)); replace aa := bB aa hb; replace HB := hbB bH hb; (try clear hb hk ho0)) | ((with_reducible refine gate_dst (N := 5) rfl ?_); (try (refine gate_guard (by rfl) ?_; dsimp only)); refine bxE 5 #[.slice none 0 0, .int .i64 0] 39 ?_; intro ah hg aN hbox hb; replace ab := rB ab hb; have af := mk0 (hbox); have aE := gE bH hg; replace HB := hbB bH hb; have al := nL aa hg; have am := nG aa hg; replace aa := bB aa hb; clear hb hbox hg; obtain ⟨ap, aj, aQ⟩ := Kd.R_slice ab.out; subst aQ; have aX := am.out; have aY := al.out; obtain ⟨aZ, a_, bf, bg⟩ := cL2 af) | ((with_reducible refine gate_store (t := 39) (p := 5) rfl ?_); refine store_event (t := 39) (p := 5) (v := ?vo_w14) (w1 := ((aN.setCell ⟨ah, 0, none⟩ (.slice ap ac.length aj)).setCell ⟨ah, 1, none⟩ (.int .i64 ae))) ?hg ?ho ?hn ?hr ?_; (case ho => rfl); (case hg => rfl); (case hn => rfl); (case hr => first | (go_simp; done) | (go_simp; rfl)); intro ak hw; have n0_ : Aside0 (Kd.R (Kd.int .i64) 2 ak w.heap.size (fun _ => True) (.slice ap ac.length aj) ac) := ⟨(by rw [hw]; exact (uR (Kd.R_mono (Kd.R_far (p := ⟨ah, 1, none⟩) (Kd.R_far (p := ⟨ah, 0, none⟩) (Kd.R_types ab.out af.out (by decide)) (fun _ hk => hk.2) (.slice ap ac.length aj)) (fun _ hk => hk.2) (.int .i64 ae)) (fun _ hk => trivial))))⟩; have n1_ : Aside0 (ak.heap[ag]? = some (.cells #[.slice none 0 0, .int .i64 0] 39 (0, 0))) := ⟨(by rw [hw]; exact (kB))⟩; have n2_ : Aside0 (ak.heap[ah]? = some (.cells #[.slice ap ac.length aj, .int .i64 ae] 39 (0, 0))) := ⟨(by rw [hw]; exact (kB))⟩; have n3_ : Aside0 (Below w.heap.size w ak) := ⟨(by rw [hw]; exact bH)⟩; clear hw ab aa af HB; have ab := n0_; have aa := n1_; have af := n2_; have HB := n3_; clear n0_ n1_ n2_ n3_; obtain ⟨bh, bi, bj, bk⟩ := cL2 af; have p7 : 0 ≤ (a1 : Int) := dY; have q7 : (a1 : Int) < ((ac.length : Int) : Int) := dY; obtain ⟨ao, bl, aG, aH, gl7, cl7, aI⟩ := Kd.R_form ab.out (by omega); (first | cases aG | (injection aG with ea_ en_ ec_; (first | subst ea_ | (injection ea_ with ea_; subst ea_)); subst ec_; clear en_)); have aT := mk0 aH; have GG7 := mk0 aI; clear aH gl7 aI; obtain ⟨bm, bn⟩ := Kd.R_celln 0 ab.out (a1 : Int) p7 q7; replace p7 := eq_true p7; replace q7 := eq_true q7; obtain ⟨hy16_, hz16_⟩ := Kd.R_celln 0 ab.out (a1 : Int) (dY) (dY); have ar := Kd.R_putg ab.out (a1 : Int) 1) | ((with_reducible refine gate_store (t := 2) (p := 20) rfl ?_); refine store_event (t := 2) (p := 20) (v := ?vo_w17) (w1 := (ak.setCell ⟨ao, (a1 : Int).toNat, none⟩ (.int .i64 1))) ?hg ?ho ?hn ?hr ?_; (case ho => rfl); (case hg => rfl); (case hn => rfl); (case hr => first | (go_simp; done) | (go_simp; rfl)); intro au hw; have hg : ak.grownBy au (some ao) := (by rw [hw]; exact ar.2); have hp_ : Kd.R (Kd.int .i64) 2 au w.heap.size (fun _ => True) (.slice (some ⟨ao, 0, none⟩) ac.length aj) aA := (by rw [hw, aM.out]; exact ar.1); clear ar; replace aa := (gB aa hg (Kd.R_ne ab.out aa.out (by decide))); replace af := (gB af hg (Kd.R_ne ab.out af.out (by decide))); replace ab := mk0 (hp_); replace HB := mk0 ((by rw [hw]; exact below_set (HB.out) aT.out : Below w.heap.size w au)); clear hg hw hp_; obtain ⟨bo, bp, bq, br⟩ := cL2 af; obtain ⟨bs, bu, bv, bw⟩ := cL2 aa))
    refine bodyPost_ret (results_cell_row rfl _ _ ag 39 #[.slice (some ⟨ao, 0, none⟩) ac.length aj, .int .i64 ae] (0, 0) _ rfl (kB) Tryz.underlying39 rfl (by kernel_rfl)) rfl ?_; exact ⟨_, rE, uR (Kd.R_mono (Kd.R_far (p := ⟨ag, 1, none⟩) (Kd.R_far (p := ⟨ag, 0, none⟩) (Kd.R_types ab.out aa.out (by decide)) (fun _ hk => hk.2) (.slice (some ⟨ao, 0, none⟩) ac.length aj)) (fun _ hk => hk.2) (.int .i64 ae)) (fun _ hk => trivial)), bH⟩
   ·exact nO H c6
  ·rw [if_neg c5] at H
   have aK := decide_eq_false c5; clear c5; simp only [Option.some.injEq, Prod.mk.injEq] at H; obtain ⟨rfl, rfl⟩ := H; go_enter Tryz.func28, Tryz.ntmps28
   go_wp2_with (first | ((with_reducible refine gate_dst (N := 4) rfl ?_); (try (refine gate_guard (by rfl) ?_; dsimp only)); refine bxE 4 #[.slice none 0 0, .int .i64 0] 39 ?_; intro ag hg bz hbox hb; have aa := mk0 (hbox); have aC := gE (uL HB.out) hg; replace HB := hbB (uL HB.out) hb; clear hb hbox hg) | ((with_reducible refine gate_dst (N := 7) rfl ?_); refine gsM (some 7) Tryz.func27 #[.int .i64 a0, .int .i64 0] ?_; (with_reducible refine (furrowref14_Const.calls a0 0 ac ae _ A3.out).mono ?_); rintro e bC ⟨aD, rfl, ho0, hb⟩; refine ⟨_, rfl, ?_⟩; have ab := mk0 (Kd.R_lower ho0 (below_size bH)); replace aa := bB aa hb; replace HB := hbB bH hb; (try clear hb ho0)) | ((with_reducible refine gate_dst (N := 5) rfl ?_); (try (refine gate_guard (by rfl) ?_; dsimp only)); refine bxE 5 #[.slice none 0 0, .int .i64 0] 39 ?_; intro ah hg bE hbox hb; replace ab := rB ab hb; have af := mk0 (hbox); have aE := gE bH hg; replace HB := hbB bH hb; have al := nL aa hg; have am := nG aa hg; replace aa := bB aa hb; clear hb hbox hg; obtain ⟨av, aw, aU⟩ := Kd.R_slice ab.out; subst aU; have bF := am.out; have bG := al.out; obtain ⟨bI, bJ, bK, bL⟩ := cL2 af; obtain ⟨bM, bO, bP, bQ⟩ := cL2 aa))
   refine bodyPost_ret (results_cell_row rfl _ _ ag 39 #[.slice av ac.length aw, .int .i64 ae] (0, 0) _ rfl (kB) Tryz.underlying39 rfl (by kernel_rfl)) rfl ?_; exact ⟨_, rE, uR (Kd.R_mono (Kd.R_far (p := ⟨ag, 1, none⟩) (Kd.R_far (p := ⟨ag, 0, none⟩) (Kd.R_far (p := ⟨ah, 1, none⟩) (Kd.R_far (p := ⟨ah, 0, none⟩) (Kd.R_types (Kd.R_types ab.out af.out (by decide)) aa.out (by decide)) (fun _ hk => hk.1.2) (.slice av ac.length aw)) (fun _ hk => hk.1.2) (.int .i64 ae)) (fun _ hk => hk.2) (.slice av ac.length aw)) (fun _ hk => hk.2) (.int .i64 ae)) (fun _ hk => trivial)), bH⟩
 ·rw [if_neg c4] at H
  have aJ := decide_eq_false c4; clear c4; simp only [Option.some.injEq, Prod.mk.injEq] at H; obtain ⟨rfl, rfl⟩ := H; go_enter Tryz.func28, Tryz.ntmps28
  go_wp2_with (first | ((with_reducible refine gate_dst (N := 4) rfl ?_); (try (refine gate_guard (by rfl) ?_; dsimp only)); refine bxE 4 #[.slice none 0 0, .int .i64 0] 39 ?_; intro ag hg bR hbox hb; have aa := mk0 (hbox); have aC := gE (uL HB.out) hg; replace HB := hbB (uL HB.out) hb; clear hb hbox hg) | ((with_reducible refine gate_dst (N := 7) rfl ?_); refine gsM (some 7) Tryz.func27 #[.int .i64 a0, .int .i64 0] ?_; (with_reducible refine (furrowref14_Const.calls a0 0 ac ae _ A3.out).mono ?_); rintro e bT ⟨aD, rfl, ho0, hb⟩; refine ⟨_, rfl, ?_⟩; have ab := mk0 (Kd.R_lower ho0 (below_size bH)); replace aa := bB aa hb; replace HB := hbB bH hb; (try clear hb ho0)) | ((with_reducible refine gate_dst (N := 5) rfl ?_); (try (refine gate_guard (by rfl) ?_; dsimp only)); refine bxE 5 #[.slice none 0 0, .int .i64 0] 39 ?_; intro ah hg bU hbox hb; replace ab := rB ab hb; have af := mk0 (hbox); have aE := gE bH hg; replace HB := hbB bH hb; have al := nL aa hg; have am := nG aa hg; replace aa := bB aa hb; clear hb hbox hg; obtain ⟨ax, ay, aV⟩ := Kd.R_slice ab.out; subst aV; have bV := am.out; have bW := al.out; obtain ⟨bX, bY, bZ, b4⟩ := cL2 af; obtain ⟨b5, b6, b7, b8⟩ := cL2 aa))
  refine bodyPost_ret (results_cell_row rfl _ _ ag 39 #[.slice ax ac.length ay, .int .i64 ae] (0, 0) _ rfl (kB) Tryz.underlying39 rfl (by kernel_rfl)) rfl ?_; exact ⟨_, rE, uR (Kd.R_mono (Kd.R_far (p := ⟨ag, 1, none⟩) (Kd.R_far (p := ⟨ag, 0, none⟩) (Kd.R_far (p := ⟨ah, 1, none⟩) (Kd.R_far (p := ⟨ah, 0, none⟩) (Kd.R_types (Kd.R_types ab.out af.out (by decide)) aa.out (by decide)) (fun _ hk => hk.1.2) (.slice ax ac.length ay)) (fun _ hk => hk.1.2) (.int .i64 ae)) (fun _ hk => hk.2) (.slice ax ac.length ay)) (fun _ hk => hk.2) (.int .i64 ae)) (fun _ hk => trivial)), bH⟩


/-! ### furrowref14_lifted: function 29 -/
def furrowref14_lifted.f (a0 : Int) : Option ((List (S90)) × Int) := (furrowref4_At.f (⟨#[108, 105, 102, 116]⟩ : ByteArray) 0 a0).bind fun bt584 => (some (bt584.1, bt584.2))
set_option maxHeartbeats 8000000 in
set_option maxRecDepth 100000 in
theorem furrowref14_lifted.calls (a0 : Int) (r1 : List (S90)) (r2 : Int) (w : World) (h : furrowref14_lifted.f a0 = some (r1, r2)) :
  Calls Tryz.prog 29 #[.int .i64 a0] w fun e w' => ∃ v0_ : Value, e = .returned (.agg #[v0_, .int .i64 r2]) ∧ Kd.R k90 90 w' w.heap.size (fun _ => True) v0_ r1 ∧ Below w.heap.size w w' := by
 have hu42 := Tryz.underlying42
 have HB := mk0 (Below.refl w.heap.size w)
 have H : ((furrowref4_At.f (⟨#[108, 105, 102, 116]⟩ : ByteArray) 0 a0).bind fun af => (some (af.1, af.2))) = some (r1, r2) := h
 clear h
 replace H := Option.bind_eq_some_iff.mp H
 obtain ⟨⟨ab, ac⟩, ag, H⟩ := H
 dsimp only at H
 have A2 := mk0 ag
 clear ag
 simp only [Option.some.injEq, Prod.mk.injEq] at H
 obtain ⟨rfl, rfl⟩ := H
 go_enter Tryz.func29, Tryz.ntmps29
 go_wp2_with (first | ((with_reducible refine gate_dst (N := 2) rfl ?_); refine bxE 2 #[.slice none 0 0, .int .i64 0] 42 ?_; intro ae hg w3 hbox hb; have aa := mk0 (hbox); have al := gE (uL HB.out) hg; replace HB := hbB (uL HB.out) hb; clear hb hbox hg) | ((with_reducible refine gate_dst (N := 4) rfl ?_); refine gsM (some 4) Tryz.func23 #[.string (⟨#[108, 105, 102, 116]⟩ : ByteArray), .int .i64 0, .int .i64 a0] ?_; (with_reducible refine (furrowref4_At.calls (⟨#[108, 105, 102, 116]⟩ : ByteArray) 0 a0 ab ac _ A2.out).mono ?_); rintro e w4 ⟨am, rfl, ho0, hb⟩; refine ⟨_, rfl, ?_⟩; have ah := mk0 (Kd.R_lower ho0 (below_size bH)); replace aa := bB aa hb; replace HB := hbB bH hb; (try clear hb ho0); obtain ⟨ai, aj, ak⟩ := Kd.R_slice ah.out; subst ak; obtain ⟨ao, ap, aq, ar⟩ := cL2 aa))
 refine bodyPost_ret (results_cell_row rfl _ _ ae 42 #[.slice ai ab.length aj, .int .i64 ac] (0, 0) _ rfl (kB) Tryz.underlying42 rfl (by kernel_rfl)) rfl ?_
 exact ⟨_, rE, uR (Kd.R_mono (Kd.R_far (p := ⟨ae, 1, none⟩) (Kd.R_far (p := ⟨ae, 0, none⟩) (Kd.R_types ah.out aa.out (by decide)) (fun _ hk => hk.2) (.slice ai ab.length aj)) (fun _ hk => hk.2) (.int .i64 ac)) (fun _ hk => trivial)), bH⟩

/-! ### furrowref4_Within: function 34 -/
def furrowref4_Within.f (a0 : ByteArray) (a1 : Int) (l2_0 : List (S90)) (a2_1 : Int) : Option ((List (S90)) × Int) := if a2_1 = 0 then (some (l2_0, a2_1)) else ((some (([(⟨a0, a1⟩ : S90)] : List (S90)) : List (S90))).bind fun y590 => (if y590.length + l2_0.length < 5864062014805 then (some ((y590 ++ l2_0), a2_1)) else (none)))
def furrowref4_Within.T3 : Bool × List (List Nat × List Nat) := (true, [([], []), ([], []), ([0, 1], [0, 1]), ([2], [2]), ([], []), ([4], [4]), ([3, 5], [3, 5]), ([], []), ([7], [7]), ([6, 8], [6, 8]), ([9, 6, 0, 1, 2, 3, 4, 5, 6, 7, 8, 9], [9])])
def furrowref4_Within.B3 : List Nat := [0, 0, 3, 7, 0, 16, 63, 0, 128, 511, 1023]
theorem furrowref4_Within.tab3 : rtab .any (opsOf Tryz.f34 3) = furrowref4_Within.T3 := by kernel_rfl
theorem furrowref4_Within.bits3 : waitsOk furrowref4_Within.T3.2 furrowref4_Within.B3 = true := by kernel_rfl
set_option maxHeartbeats 8000000 in
set_option maxRecDepth 100000 in
theorem furrowref4_Within.calls (a0 : ByteArray) (a1 : Int) (P2_0_ : Nat → Prop) (A2_0 : Option Addr) (c2_0 : Nat) (l2_0 : List (S90)) (a2_1 : Int) (r1 : List (S90)) (r2 : Int) (w : World) (hs2_0 : Kd.V k90 90 w w.heap.size (fun k_ => P2_0_ k_) (.slice A2_0 l2_0.length c2_0) l2_0) (h : furrowref4_Within.f a0 a1 l2_0 a2_1 = some (r1, r2)) :
  Calls Tryz.prog 34 #[.string a0, .int .i64 a1, .agg #[.slice A2_0 l2_0.length c2_0, .int .i64 a2_1]] w fun e w' => ∃ v0_ : Value, e = .returned (.agg #[v0_, .int .i64 r2]) ∧ Kd.V k90 90 w' w.heap.size (fun k_ => (P2_0_ k_ ∨ w.heap.size ≤ k_)) v0_ r1 ∧ Below w.heap.size w w' := by
 have hu42 := Tryz.underlying42
 have hu90 := Tryz.underlying90
 have ab := mk0 (show Kd.V k90 90 w w.heap.size (fun k_ => (P2_0_ k_ ∨ w.heap.size ≤ k_)) (.slice A2_0 l2_0.length c2_0) l2_0 from Kd.V_mono hs2_0 (fun k_ hk => .inl hk))
 have HB := mk0 (Below.refl w.heap.size w)
 have H : (if a2_1 = 0 then (some (l2_0, a2_1)) else ((some (([(⟨a0, a1⟩ : S90)] : List (S90)) : List (S90))).bind fun ag => (if ag.length + l2_0.length < 5864062014805 then (some ((ag ++ l2_0), a2_1)) else (none)))) = some (r1, r2) := h
 clear h
 by_cases c4 : a2_1 = 0
 ·rw [if_pos c4] at H
  obtain ⟨ax, ay⟩ := yQ c4; clear c4; simp only [Option.some.injEq, Prod.mk.injEq] at H; obtain ⟨rfl, rfl⟩ := H; go_enter Tryz.func34, Tryz.ntmps34
  go_wp2_with (first | ((with_reducible refine gate_dst (N := 5) rfl ?_); refine bxE 5 #[.slice A2_0 l2_0.length c2_0, .int .i64 a2_1] 42 ?_; intro ah hg w5 hbox hb; replace ab := vD ab ah hg hb; have aa := mk0 (hbox); have az := gE (uL HB.out) hg; replace HB := hbB (uL HB.out) hb; clear hb hbox hg) | ((with_reducible refine gate_dst (N := 6) rfl ?_); refine bxE 6 #[.slice none 0 0, .int .i64 0] 42 ?_; intro ac hg w6 hbox hb; replace ab := vD ab ac hg hb; have ae := mk0 (hbox); have aA := gE bH hg; replace HB := hbB bH hb; have af := nL aa hg; have ai := nG aa hg; replace aa := bB aa hb; clear hb hbox hg; have aH := af.out; have aI := ai.out; obtain ⟨aJ, aK, aM, aN⟩ := cL2 aa; obtain ⟨aQ, aT, aU, aV⟩ := cL2 ae))
  refine bodyPost_ret (results_cell_row rfl _ _ ac 42 #[.slice A2_0 l2_0.length c2_0, .int .i64 a2_1] (0, 0) _ rfl (kB) Tryz.underlying42 rfl (by kernel_rfl)) rfl ?_; exact ⟨_, rE, uV (Kd.V_mono (Kd.V_far (p := ⟨ac, 1, none⟩) (Kd.V_far (p := ⟨ac, 0, none⟩) (Kd.V_mono ab.out (fun k_ hk => (⟨hk, hk.2⟩ : _ ∧ k_ ≠ ac))) (fun _ hk => hk.2) (.slice A2_0 l2_0.length c2_0)) (fun _ hk => hk.2) (.int .i64 a2_1)) (fun _ hk => hk.1.1.1)), bH⟩
 ·rw [if_neg c4] at H
  obtain ⟨ax, ay⟩ := nQ c4; obtain ⟨ag, al⟩ : ∃ y_ : List (S90), y_ = (([(⟨a0, a1⟩ : S90)] : List (S90))) := ⟨_, rfl⟩; (replace H : (if ag.length + l2_0.length < 5864062014805 then (some ((ag ++ l2_0), a2_1)) else (none)) = some (r1, r2) := by (try rw [al]); first | with_reducible exact H | with_reducible exact oN H | exact H); have ap := mk0 al; clear al
  by_cases aj : ag.length + l2_0.length < 5864062014805
  ·rw [if_pos aj] at H
   have aC := mk0 aj; clear aj; obtain ⟨am, ao⟩ : ∃ y_ : List (S90), y_ = (ag ++ l2_0) := ⟨_, rfl⟩; (replace H : (some (am, a2_1)) = some (r1, r2) := by (try rw [ao]); first | with_reducible exact H | with_reducible exact oN H | exact H); have aD := mk0 ao; clear ao; simp only [Option.some.injEq, Prod.mk.injEq] at H; obtain ⟨rfl, rfl⟩ := H; go_enter Tryz.func34, Tryz.ntmps34; (try go_wp2_with (first | ((with_reducible refine gate_dst (N := 5) rfl ?_); refine bxE 5 #[.slice A2_0 l2_0.length c2_0, .int .i64 a2_1] 42 ?_; intro ah hg aW hbox hb; replace ab := vD ab ah hg hb; have aa := mk0 (hbox); have az := gE (uL HB.out) hg; replace HB := hbB (uL HB.out) hb; clear hb hbox hg) | ((with_reducible refine gate_dst (N := 6) rfl ?_); refine bxE 6 #[.slice none 0 0, .int .i64 0] 42 ?_; intro ac hg aE hbox hb; replace ab := vD ab ac hg hb; have ae := mk0 (hbox); have aA := gE bH hg; replace HB := hbB bH hb; have af := nL aa hg; have ai := nG aa hg; replace aa := bB aa hb; clear hb hbox hg; have aX := af.out; have aY := ai.out; obtain ⟨aZ, a_, bf, bg⟩ := cL2 aa))); replace ab := mk0 (Kd.V_drew ab.out); replace aa := mk0 (blk_drew aa.out); replace ae := mk0 (blk_drew ae.out); replace HB := mk0 (below_drew1 HB.out); refine start_ (n := 11) (S := fun w' => w'.cell? ⟨ah, 0, none⟩ = some (.slice A2_0 l2_0.length c2_0) ∧ w'.cell? ⟨ah, 1, none⟩ = some (.int .i64 a2_1)) (ds := []) (bts 11 0) (by kernel_rfl) rfl rfl ⟨(blk_cell aa.out 0).trans rfl, (blk_cell aa.out 1).trans rfl⟩ (fun hHeld => ?_); refine with_tabW furrowref4_Within.tab3 furrowref4_Within.bits3 (fun HT_ HW_ => ?_); generalize aE.drew = bh at ab aa ae HB hHeld ⊢; refine qA 0 1 ?_; refine qA 1 3 ?_; refine qA 2 7 ?_; refine qA 4 23 ?_; refine qA 7 151 ?_; refine qT2 5 183 ?_; refine qT2 8 439 ?_; refine one_ (i := 3) (N := some 14) (bts 11 447) rfl rfl (one_of HT_.out (by kernel_rfl)) (by decide) (fun K hK => ?_); refine Kd.R_lit_step k90 _ 90 ?hg (N := 14) ?hd (xs := ([(⟨a0, a1⟩ : S90)] : List (S90))) (inner := [.string a0, .int .i64 a1]) (ok := fun _ => True) (okp := fun _ => True) ?hr ?hp (fun _ hk => hk) trivial (Below.refl _ _) (Nat.le_refl _) (by simp) ?_; (case hd => rfl); (case hg => rfl); (case hr => first | (go_simp; done) | (go_simp; rfl)); (case hp => exact (Reps.c2 (show Kd.M k90 _ _ _ (⟨a0, a1⟩ : S90) [.string a0, .int .i64 a1] from (k90_mkM _ _ _ (⟨a0, a1⟩ : S90) )) (Reps.none _ _))); intro aG bi ho17 hb hg_ hnew_; clear hg_ hnew_; (first | rw [← ap.out] at ho17 | (simp only [Int.reduceToNat] at ho17; rw [← ap.out] at ho17)); replace ab := mk0 (Kd.V_elder' (uV ab.out) (Kd.R_base ho17) hb); have ak := mk0 (Kd.R_lower (Kd.R_newM (M := fun k_ => (w.heap.size ≤ k_)) ho17 (below_size bH) (fun k_ h_ => h_)) (below_size bH)); replace aa := bB aa hb; replace ae := bB ae hb; replace HB := hbB bH hb; clear hb ho17; refine hK.out _ _ ⟨(blk_cell aa.out 0).trans rfl, (blk_cell aa.out 1).trans rfl⟩ (fun hHeld => ?_); clear hK K; refine norm_ (a' := ?_) ?_ ?_; rotate_left
   ·show Act.put _ (some 14) _ = _
    simp only [AP, i64_w, i32_w]; rfl
   refine one_ (i := 6) (N := some 17) (bts 11 511) rfl rfl (one_of HT_.out (by kernel_rfl)) (by decide) (fun K hK => ?_); refine Kd.R_append_rows_step k90 (w0 := w) w.heap.size (by rfl) (.tmp 14) (.tmp 16) 40 90 (.agg #[(.string ⟨#[]⟩), (.int .i64 0)]) 24 rfl Tryz.underlying40 info90 rfl (by decide) (by omega) aG ag l2_0 _ _ _ (fun k_ => (w.heap.size ≤ k_)) (fun _ => False) rfl rfl ?aO ?aR (fun _ _ h => h) (fun _ h => h.elim) ?aF ?aB ?aS ?aL ?_; (case aR => exact uC ((Kd.V_reads' ab.out).2.2)); (case aB => exact bH); (case aF => exact (fun k_ hk => (Nat.le_trans (below_size bH) hk))); (case aO => exact (uR (Kd.R_mono ak.out (fun _ hk => hk.1)))); (case aS => exact (below_size bH)); (case aL => have := aC.out; omega); intro bj aq ho hb hg hat; rw [← aD.out] at ho; have n0_ := vA ab hg hat; have n1_ := (gB aa hg (Kd.R_ne ak.out aa.out (by decide))); have n2_ := (gB ae hg (Kd.R_ne ak.out ae.out (by decide))); have n3_ := mk0 (hb); have n4_ := mk0 (ho); clear ab aa ae HB ak; have ab := n0_; have aa := n1_; have ae := n2_; have HB := n3_; have ar := n4_; clear n0_ n1_ n2_ n3_ n4_; clear ho hb hg hat; obtain ⟨au, av, aw⟩ := Kd.R_slice ar.out; (first | subst aw | (injection aw with f1_ f2_ f3_; have f4_ := f1_.symm; have f5_ := f3_.symm; clear f1_ f2_ f3_; subst f4_; subst f5_)); refine hK.out _ _ ⟨(blk_cell aa.out 0).trans rfl, (blk_cell aa.out 1).trans rfl⟩ (fun hHeld => ?_); clear hK K; refine norm_ (a' := ?_) ?_ ?_; rotate_left
   ·show Act.put _ (some 17) _ = _
    simp only [AP, i64_w, i32_w]; rfl
   refine qA 9 1023 ?_; refine one_ (i := 10) (N := none) (bts 11 2047) rfl rfl (one_of HT_.out (by kernel_rfl)) (by decide) (fun K hK => ?_); have hs20 : aq.cell? ⟨ac, 0, none⟩ = some (.slice none 0 0) := (blk_cell ae.out 0).trans rfl; have hfs20 := blk_frozen ae.out 0; have bk := af.out; have bl := ai.out; have hs21 : aq.cell? ⟨ac, 1, none⟩ = some (.int .i64 0) := (blk_cell ae.out 1).trans rfl; have hfs21 := blk_frozen ae.out 1; have bm := af.out; have bn := ai.out; refine skip_ (w1 := ?_) (by rfl) rfl ?_ ?_; rotate_left
   ·go_simp
    rfl
   refine hK.out _ _ ⟨((cell_far (p := ⟨ac, _, none⟩) af.out _).trans (((cell_far (p := ⟨ac, _, none⟩) af.out _).trans (hHeld.1)))), ((cell_far (p := ⟨ac, _, none⟩) af.out _).trans (((cell_far (p := ⟨ac, _, none⟩) af.out _).trans (hHeld.2))))⟩ (fun hHeld => ?_); clear hK K; refine done_ (done_of HT_.out (by kernel_rfl)) ?_; (try go_wp2); refine bodyPost_ret (results_cell_row rfl _ _ ac 42 #[.slice au am.length av, .int .i64 a2_1] (0, 0) _ rfl (kB) Tryz.underlying42 rfl (by kernel_rfl)) rfl ?_; exact ⟨_, rE, Kd.V_mono (Kd.R_V (uR (Kd.R_mono (Kd.R_far (p := ⟨ac, 1, none⟩) (Kd.R_far (p := ⟨ac, 0, none⟩) (Kd.R_types ar.out ae.out (by decide)) (fun _ hk => hk.2) (.slice au am.length av)) (fun _ hk => hk.2) (.int .i64 a2_1)) (fun _ hk => hk.1)))) (fun k_ hk => by first | exact ⟨(.inr (hk.1)), hk.2⟩ | exact (.inr (hk))), bH⟩
  ·exact nO H aj

/-! ### furrowref14_over: function 49 -/
def furrowref14_over.f  : Option ((List (S90)) × Int) := (furrowref4_At.f (⟨#[102, 111, 114, 109]⟩ : ByteArray) 0 5).bind fun bt597 => (some (bt597.1, bt597.2))
set_option maxHeartbeats 8000000 in
set_option maxRecDepth 100000 in
theorem furrowref14_over.calls  (r1 : List (S90)) (r2 : Int) (w : World) (h : furrowref14_over.f  = some (r1, r2)) :
  Calls Tryz.prog 49 #[] w fun e w' => ∃ v0_ : Value, e = .returned (.agg #[v0_, .int .i64 r2]) ∧ Kd.R k90 90 w' w.heap.size (fun _ => True) v0_ r1 ∧ Below w.heap.size w w' := by
 have hu42 := Tryz.underlying42
 have HB := mk0 (Below.refl w.heap.size w)
 have H : ((furrowref4_At.f (⟨#[102, 111, 114, 109]⟩ : ByteArray) 0 5).bind fun af => (some (af.1, af.2))) = some (r1, r2) := h
 clear h
 replace H := Option.bind_eq_some_iff.mp H
 obtain ⟨⟨ab, ac⟩, ag, H⟩ := H
 dsimp only at H
 have A1 := mk0 ag
 clear ag
 simp only [Option.some.injEq, Prod.mk.injEq] at H
 obtain ⟨rfl, rfl⟩ := H
 go_enter Tryz.func49, Tryz.ntmps49
 go_wp2_with (first | ((with_reducible refine gate_dst (N := 0) rfl ?_); refine bxE 0 #[.slice none 0 0, .int .i64 0] 42 ?_; intro ae hg w2 hbox hb; have aa := mk0 (hbox); have al := gE (uL HB.out) hg; replace HB := hbB (uL HB.out) hb; clear hb hbox hg) | ((with_reducible refine gate_dst (N := 1) rfl ?_); refine gsM (some 1) Tryz.func23 #[.string (⟨#[102, 111, 114, 109]⟩ : ByteArray), .int .i64 0, .int .i64 5] ?_; (with_reducible refine (furrowref4_At.calls (⟨#[102, 111, 114, 109]⟩ : ByteArray) 0 5 ab ac _ A1.out).mono ?_); rintro e w3 ⟨am, rfl, ho0, hb⟩; refine ⟨_, rfl, ?_⟩; have ah := mk0 (Kd.R_lower ho0 (below_size bH)); replace aa := bB aa hb; replace HB := hbB bH hb; (try clear hb ho0); obtain ⟨ai, aj, ak⟩ := Kd.R_slice ah.out; subst ak; obtain ⟨ao, ap, aq, ar⟩ := cL2 aa))
 refine bodyPost_ret (results_cell_row rfl _ _ ae 42 #[.slice ai ab.length aj, .int .i64 ac] (0, 0) _ rfl (kB) Tryz.underlying42 rfl (by kernel_rfl)) rfl ?_
 exact ⟨_, rE, uR (Kd.R_mono (Kd.R_far (p := ⟨ae, 1, none⟩) (Kd.R_far (p := ⟨ae, 0, none⟩) (Kd.R_types ah.out aa.out (by decide)) (fun _ hk => hk.2) (.slice ai ab.length aj)) (fun _ hk => hk.2) (.int .i64 ac)) (fun _ hk => trivial)), bH⟩

/-! ### furrowref4_Mul: function 76 -/
mutual
def furrowref4_Mul.j0 : Nat → Int → Int → Bool → Option (Int × Bool)
 | 0, _, _, _ => none
 | k + 1, x0, x1, x12 => if x12 = true then (some (0, true)) else (if x0 = (-1) then (if x1 = (-9223372036854775808) then (furrowref4_Mul.j1 k x0 x1 true) else (if x1 = (-1) then (furrowref4_Mul.j1 k x0 x1 (x0 == (-9223372036854775808))) else (furrowref4_Mul.j1 k x0 x1 false))) else (if x1 = (-1) then (furrowref4_Mul.j1 k x0 x1 (x0 == (-9223372036854775808))) else (furrowref4_Mul.j1 k x0 x1 false)))
def furrowref4_Mul.j1 : Nat → Int → Int → Bool → Option (Int × Bool)
 | 0, _, _, _ => none
 | k + 1, x0, x1, x26 => if x26 = true then (some (0, false)) else (if x1 = 0 then (none) else (if (wrap64 (Int.tdiv (wrap64 (x0 * x1)) x1)) = x0 then (some (wrap64 (x0 * x1), true)) else (some (0, false))))
end
def furrowref4_Mul.f (k : Nat) (a0 : Int) (a1 : Int) : Option (Int × Bool) := if a0 = 0 then (furrowref4_Mul.j0 k a0 a1 true) else (furrowref4_Mul.j0 k a0 a1 (a1 == 0))
theorem furrowref4_Mul.mono_l : ∀ k, (∀ y0 y1 y2, LeO (furrowref4_Mul.j0 k y0 y1 y2) (furrowref4_Mul.j0 (k + 1) y0 y1 y2)) ∧ (∀ y0 y1 y2, LeO (furrowref4_Mul.j1 k y0 y1 y2) (furrowref4_Mul.j1 (k + 1) y0 y1 y2))
 | 0 => by refine ⟨?_, ?_⟩ <;> intros <;> exact fun r h => by simp [furrowref4_Mul.j0, furrowref4_Mul.j1] at h
 | k + 1 => by
  obtain ⟨i0_, i1_⟩ := furrowref4_Mul.mono_l k; refine ⟨?_, ?_⟩ <;> intros
  ·unfold furrowref4_Mul.j0; exact lO_
  ·unfold furrowref4_Mul.j1; exact lO_
theorem furrowref4_Mul.mono : ∀ a0 a1 k, LeO (furrowref4_Mul.f k a0 a1) (furrowref4_Mul.f (k + 1) a0 a1) := by
 intro a0 a1 k
 obtain ⟨i0_, i1_⟩ := furrowref4_Mul.mono_l k; unfold furrowref4_Mul.f; exact lO_
set_option maxHeartbeats 8000000 in
set_option maxRecDepth 100000 in
theorem furrowref4_Mul.calls (k : Nat) (a0 : Int) (a1 : Int) (r1 : Int) (r2 : Bool) (w : World) (h : furrowref4_Mul.f k a0 a1 = some (r1, r2)) :
  Calls Tryz.prog 76 #[.int .i64 a0, .int .i64 a1] w fun e w' => e = .returned (.tuple #[.int .i64 r1, .bool r2]) ∧ Drawn0 w w' := by
 have H : (if a0 = 0 then (furrowref4_Mul.j0 k a0 a1 true) else (furrowref4_Mul.j0 k a0 a1 (a1 == 0))) = some (r1, r2) := h
 clear h
 have aj := mk0 H
 clear H
 go_enter Tryz.func76, Tryz.ntmps76
 go_upto_region 1 with (fail)
 go_cut [12] (fun v12 wc => ∃ (kq : Nat) (ag : Bool), v12 = .bool ag ∧ Aside0 (furrowref4_Mul.j0 kq a0 a1 ag = some (r1, r2)) ∧ Aside0 (kq ≤ k) ∧ Drawn0 w wc)
 case first =>
  have H := aj.out; clear aj
  by_cases c4 : a0 = 0
  ·rw [if_pos c4] at H
   obtain ⟨aa, am⟩ := yQ c4; clear c4; (first | rw [aa] | (simp only [i64_w, i32_w]; rw [aa]) | skip); have H' := mk0 H; clear H; go_wp2
   go_meet
   case rel => exact ⟨_, (true), eK, H', ⟨by first | omega | exact Nat.le_refl _⟩, by repeat (first | exact Drawn0.refl _ | apply Drawn0.step)⟩
  ·rw [if_neg c4] at H
   obtain ⟨aa, am⟩ := nQ c4; (first | rw [aa] | (simp only [i64_w, i32_w]; rw [aa]) | skip); have H' := mk0 H; clear H; go_wp2
   go_meet
   case rel => exact ⟨_, ((a1 == 0)), eK, H', ⟨by first | omega | exact Nat.le_refl _⟩, by repeat (first | exact Drawn0.refl _ | apply Drawn0.step)⟩
 case rest =>
  clear aj; obtain ⟨kq, ag, rfl, HA, ab, ⟨mc2, rfl⟩⟩ := hcut
  cases kq with
  | zero => exact absurd HA.out (by simp [furrowref4_Mul.j0])
  | succ kj2 =>
   have H := HA.out; clear HA; simp only [furrowref4_Mul.j0] at H
   by_cases c5 : ag = true
   ·subst c5
    replace H := iT H; simp only [Option.some.injEq, Prod.mk.injEq] at H; obtain ⟨rfl, rfl⟩ := H; go_wp2
    go_ret2
    exact ⟨eK, by repeat (first | exact Drawn0.refl _ | apply Drawn0.step)⟩
   ·replace c5 := Bool.eq_false_iff.mpr c5
    subst c5; replace H := iF H; have ak := mk0 H; clear H
    go_upto_region 3 with (fail)
    go_cut [26] (fun v26 wc => ∃ (kq : Nat) (ah : Bool), v26 = .bool ah ∧ Aside0 (furrowref4_Mul.j1 kq a0 a1 ah = some (r1, r2)) ∧ Aside0 (kq ≤ kj2) ∧ Drawn0 w wc)
    case first =>
     have H := ak.out; clear ak
     by_cases c7 : a0 = (-1)
     ·rw [if_pos c7] at H
      obtain ⟨ac, ao⟩ := yQ c7; clear c7; (first | rw [ac] | (simp only [i64_w, i32_w]; rw [ac]) | skip)
      by_cases c8 : a1 = (-9223372036854775808)
      ·rw [if_pos c8] at H
       obtain ⟨ap, aq⟩ := yQ c8; clear c8; have H' := mk0 H; clear H; go_wp2
       go_meet
       case rel => exact ⟨_, (true), eK, H', ⟨by have := ab.out; first | omega | exact Nat.le_refl _⟩, by repeat (first | exact Drawn0.refl _ | apply Drawn0.step)⟩
      ·rw [if_neg c8] at H
       obtain ⟨ap, aq⟩ := nQ c8
       by_cases c9 : a1 = (-1)
       ·rw [if_pos c9] at H
        obtain ⟨ar, au⟩ := yQ c9; clear c9; have H' := mk0 H; clear H; go_wp2
        go_meet
        case rel => exact ⟨_, ((a0 == (-9223372036854775808))), eK, H', ⟨by have := ab.out; first | omega | exact Nat.le_refl _⟩, by repeat (first | exact Drawn0.refl _ | apply Drawn0.step)⟩
       ·rw [if_neg c9] at H
        obtain ⟨ar, au⟩ := nQ c9; have H' := mk0 H; clear H; go_wp2
        go_meet
        case rel => exact ⟨_, (false), eK, H', ⟨by have := ab.out; first | omega | exact Nat.le_refl _⟩, by repeat (first | exact Drawn0.refl _ | apply Drawn0.step)⟩
     ·rw [if_neg c7] at H
      obtain ⟨ac, ao⟩ := nQ c7; (first | rw [ac] | (simp only [i64_w, i32_w]; rw [ac]) | skip)
      by_cases ae : a1 = (-1)
      ·rw [if_pos ae] at H
       obtain ⟨av, aw⟩ := yQ ae; clear ae; have H' := mk0 H; clear H; go_wp2
       go_meet
       case rel => exact ⟨_, ((a0 == (-9223372036854775808))), eK, H', ⟨by have := ab.out; first | omega | exact Nat.le_refl _⟩, by repeat (first | exact Drawn0.refl _ | apply Drawn0.step)⟩
      ·rw [if_neg ae] at H
       obtain ⟨av, aw⟩ := nQ ae; have H' := mk0 H; clear H; go_wp2
       go_meet
       case rel => exact ⟨_, (false), eK, H', ⟨by have := ab.out; first | omega | exact Nat.le_refl _⟩, by repeat (first | exact Drawn0.refl _ | apply Drawn0.step)⟩
    case rest =>
     clear ak; (try clear c5); obtain ⟨kq, ah, rfl, HA, az, ⟨mc5, rfl⟩⟩ := hcut
     cases kq with
     | zero => exact absurd HA.out (by simp [furrowref4_Mul.j1])
     | succ kj5 =>
      have H := HA.out; clear HA; simp only [furrowref4_Mul.j1] at H
      by_cases ai : ah = true
      ·subst ai
       replace H := iT H; simp only [Option.some.injEq, Prod.mk.injEq] at H; obtain ⟨rfl, rfl⟩ := H; go_wp2
       go_ret2
       exact ⟨eK, by repeat (first | exact Drawn0.refl _ | apply Drawn0.step)⟩
      ·replace ai := Bool.eq_false_iff.mpr ai
       subst ai; replace H := iF H
       by_cases al : a1 = 0
       ·exact nI H al
       ·rw [if_neg al] at H
        obtain ⟨aA, aC⟩ := nQ al
        by_cases af : (wrap64 (Int.tdiv (wrap64 (a0 * a1)) a1)) = a0
        ·rw [if_pos af] at H
         obtain ⟨ax, ay⟩ := yQ af; clear af; simp only [Option.some.injEq, Prod.mk.injEq] at H; obtain ⟨rfl, rfl⟩ := H; go_wp2
         go_ret2
         exact ⟨eK, by repeat (first | exact Drawn0.refl _ | apply Drawn0.step)⟩
        ·rw [if_neg af] at H
         obtain ⟨ax, ay⟩ := nQ af; simp only [Option.some.injEq, Prod.mk.injEq] at H; obtain ⟨rfl, rfl⟩ := H; go_wp2
         go_ret2
         exact ⟨eK, by repeat (first | exact Drawn0.refl _ | apply Drawn0.step)⟩


/-! ### furrowref14_Scale: function 47 -/
def furrowref14_Scale.l0 : Nat → Int → Int → List Int → Int → List Int → Int → Option (List Int × Int × (List (S90)) × Int)
 | 0, _, _, _, _, _, _ => none
 | k + 1, x1, x7, x602000, x602001, x609000, x609001 => if x7 < (x602000.length : Int) then (if 0 ≤ x7 then ((furrowref4_Mul.f k (rd x602000 x7) x1).bind fun bt610 => (if bt610.2 = true then (if x7 < (x609000.length : Int) then (furrowref14_Scale.l0 k x1 (wrap64 (x7 + 1)) x602000 x602001 (x609000.set (x7 : Int).toNat bt610.1) x609001) else (none)) else ((furrowref14_over.f).bind fun bt613 => (some (([] : List Int), 0, bt613.1, bt613.2))))) else (none)) else ((furrowref4_Mul.f k x602001 x1).bind fun bt617 => (if bt617.2 = true then (some (x609000, bt617.1, ([] : List (S90)), 0)) else ((furrowref14_over.f).bind fun bt619 => (some (([] : List Int), 0, bt619.1, bt619.2)))))
def furrowref14_Scale.f (k : Nat) (l0_0 : List Int) (a0_1 : Int) (a1 : Int) : Option (List Int × Int × (List (S90)) × Int) := (furrowref14_Const.f (l0_0.length : Int) 0).bind fun bt604 => (furrowref14_Scale.l0 k a1 0 l0_0 a0_1 bt604.1 bt604.2)
theorem furrowref14_Scale.mono_l : ∀ k, (∀ y0 y1 y2 y3 y4 y5, LeO (furrowref14_Scale.l0 k y0 y1 y2 y3 y4 y5) (furrowref14_Scale.l0 (k + 1) y0 y1 y2 y3 y4 y5))
 | 0 => fun _ _ _ _ _ _ r h => by simp [furrowref14_Scale.l0] at h
 | k + 1 => by
  have ih0 := furrowref14_Scale.mono_l k
  ·intro y0 y1 y2 y3 y4 y5
   unfold furrowref14_Scale.l0
   repeat' first
   | (with_reducible exact ih0 _ _ _ _ _ _)
   | (with_reducible exact furrowref4_Mul.mono _ _ _)
   | (with_reducible exact LeO.refl _)
   | (with_reducible exact LeO.none _)
   | (with_reducible refine LeO.ite ?_ ?_)
   | (with_reducible refine LeO.bind ?_ (fun _ => ?_))
   | exact ih0 _ _ _ _ _ _
   | exact furrowref4_Mul.mono _ _ _
   | exact LeO.none _
   | refine LeO.ite ?_ ?_
   | refine LeO.bind ?_ (fun _ => ?_)
theorem furrowref14_Scale.mono : ∀ a0 a1 a2 k, LeO (furrowref14_Scale.f k a0 a1 a2) (furrowref14_Scale.f (k + 1) a0 a1 a2) := by
 intro a0 a1 a2 k
 have ih0 := furrowref14_Scale.mono_l k
 unfold furrowref14_Scale.f
 repeat' first
   | (with_reducible exact ih0 _ _ _ _ _ _)
   | (with_reducible exact furrowref4_Mul.mono _ _ _)
   | (with_reducible exact LeO.refl _)
   | (with_reducible exact LeO.none _)
   | (with_reducible refine LeO.ite ?_ ?_)
   | (with_reducible refine LeO.bind ?_ (fun _ => ?_))
   | exact ih0 _ _ _ _ _ _
   | exact furrowref4_Mul.mono _ _ _
   | exact LeO.none _
   | refine LeO.ite ?_ ?_
   | refine LeO.bind ?_ (fun _ => ?_)
set_option maxHeartbeats 8000000 in
set_option maxRecDepth 100000 in
theorem furrowref14_Scale.calls (k : Nat) (A0_0 : Option Addr) (c0_0 : Nat) (l0_0 : List Int) (a0_1 : Int) (a1 : Int) (r1 : List Int) (r2 : Int) (r3 : List (S90)) (r4 : Int) (w : World) (hr0_0 : Kd.C (Kd.int .i64) w A0_0 l0_0.length l0_0) (hc0_0 : l0_0.length ≤ c0_0) (h : furrowref14_Scale.f k l0_0 a0_1 a1 = some (r1, r2, r3, r4)) :
  Calls Tryz.prog 47 #[.agg #[.slice A0_0 l0_0.length c0_0, .int .i64 a0_1], .int .i64 a1] w fun e w' => ∃ v0_ v2_ : Value, e = .returned (.tuple #[.agg #[v0_, .int .i64 r2], .agg #[v2_, .int .i64 r4]]) ∧ Kd.R (Kd.int .i64) 2 w' w.heap.size (fun _ => True) v0_ r1 ∧ Kd.R k90 90 w' w.heap.size (fun _ => True) v2_ r3 ∧ Below w.heap.size w w' := by
 have hu39 := Tryz.underlying39
 have hu42 := Tryz.underlying42
 have bo := mk0 hr0_0
 have cl := mk0 hc0_0
 clear hr0_0 hc0_0
 have HB := mk0 (Below.refl w.heap.size w)
 have H : ((furrowref14_Const.f (l0_0.length : Int) 0).bind fun bp => (furrowref14_Scale.l0 k a1 0 l0_0 a0_1 bp.1 bp.2)) = some (r1, r2, r3, r4) := h
 clear h
 replace H := Option.bind_eq_some_iff.mp H
 obtain ⟨⟨aK, ak⟩, bq, H⟩ := H
 dsimp only at H
 have A3 := mk0 bq
 clear bq
 have H' := mk0 H
 clear H
 go_enter Tryz.func47, Tryz.ntmps47
 go_wp2_with (first | ((with_reducible refine gate_dst (N := 2) rfl ?_); refine bxE 2 #[.slice A0_0 l0_0.length c0_0, .int .i64 a0_1] 39 ?_; intro au hg w4 hbox hb; have ab := mk0 (hbox); have cm := gE (uL HB.out) hg; replace HB := hbB (uL HB.out) hb; clear hb hbox hg) | ((with_reducible refine gate_dst (N := 4) rfl ?_); refine bxE 4 #[.slice none 0 0, .int .i64 0] 39 ?_; intro ag hg w5 hbox hb; have aa := mk0 (hbox); have cn := gE bH hg; replace HB := hbB bH hb; have av := nL ab hg; have aw := nG ab hg; replace ab := bB ab hb; clear hb hbox hg) | ((with_reducible refine gate_dst (N := 5) rfl ?_); refine bxE 5 #[.slice none 0 0, .int .i64 0] 42 ?_; intro ah hg w6 hbox hb; have ac := mk0 (hbox); have cp := gE bH hg; replace HB := hbB bH hb; have ax := nL ab hg; have ay := nG ab hg; replace ab := bB ab hb; have aW := nL aa hg; have aX := nG aa hg; replace aa := bB aa hb; clear hb hbox hg; have cq := av.out; have cr := aw.out; have ct := ax.out; have cu := ay.out; obtain ⟨bV, bW, bX, bY⟩ := cL2 ab) | ((with_reducible refine gate_dst (N := 15) rfl ?_); refine gsM (some 15) Tryz.func27 #[.int .i64 (l0_0.length : Int), .int .i64 0] ?_; (with_reducible refine (furrowref14_Const.calls (l0_0.length : Int) 0 aK ak _ A3.out).mono ?_); rintro e cv ⟨cw, rfl, ho0, hb⟩; refine ⟨_, rfl, ?_⟩; have aM := mk0 (Kd.R_lower ho0 (below_size bH)); replace ab := bB ab hb; replace aa := bB aa hb; replace ac := bB ac hb; replace HB := hbB bH hb; (try clear hb ho0)) | ((with_reducible refine gate_dst (N := 6) rfl ?_); refine bxE 6 #[.slice none 0 0, .int .i64 0] 39 ?_; intro al hg cx hbox hb; replace aM := rB aM hb; have af := mk0 (hbox); have cy := gE bH hg; replace HB := hbB bH hb; have az := nL ab hg; have aA := nG ab hg; replace ab := bB ab hb; have aC := nL aa hg; have aD := nG aa hg; replace aa := bB aa hb; have aE := nL ac hg; have aG := nG ac hg; replace ac := bB ac hb; clear hb hbox hg; obtain ⟨br, bs, bZ⟩ := Kd.R_slice aM.out; subst bZ; have cz := aA.out; have cA := az.out; have cD := aD.out; have cE := aC.out; have cF := aG.out; have cG := aE.out; obtain ⟨b4, b5, b6, b7⟩ := cL2 af))
 go_loopg [7] k (fun kq v7 w' => ∃ (x7_1 : Int) (am : Int) (ao : Int) (ai : List Int) (aj : Value), v7 = .int .i64 x7_1 ∧ Aside0 (furrowref14_Scale.l0 kq a1 x7_1 l0_0 a0_1 ai ak = some (r1, r2, r3, r4)) ∧ Aside0 (kq ≤ k) ∧ Aside0 (Kd.R (Kd.int .i64) 2 w' w.heap.size (fun _ => True) aj ai) ∧ Aside0 (w'.heap[au]? = some (.cells #[(.slice A0_0 l0_0.length c0_0), .int .i64 a0_1] 39 (0, 0))) ∧ Aside0 (w'.heap[ag]? = some (.cells #[(.slice none 0 0), .int .i64 am] 39 (0, 0))) ∧ Aside0 (w'.heap[ah]? = some (.cells #[(.slice none 0 0), .int .i64 ao] 42 (0, 0))) ∧ Aside0 (w'.heap[al]? = some (.cells #[aj, .int .i64 ak] 39 (0, 0))) ∧ Aside0 (Below w.heap.size w w'))
 case atStart => exact ⟨(0), (0), (0), (aK), (.slice br aK.length bs), eK, H', ⟨Nat.le_refl _⟩, ⟨uR (Kd.R_mono (Kd.R_far (p := ⟨al, 1, none⟩) (Kd.R_far (p := ⟨al, 0, none⟩) (Kd.R_types aM.out af.out (by decide)) (fun _ hk => hk.2) (.slice br aK.length bs)) (fun _ hk => hk.2) (.int .i64 ak)) (fun _ hk => trivial))⟩, ⟨kB⟩, ⟨kB⟩, ⟨kB⟩, ⟨kB⟩, ⟨bH⟩⟩
 case round =>
  clear H'; (try clear b4 b5 bV bW b6 b7 bX bY); obtain ⟨x7_1, am, ao, ai, aj, rfl, HA, bu, ae, ab, aa, ac, af, HB⟩ := hrel
  cases gk with
  | zero => exact absurd HA.out (by simp [furrowref14_Scale.l0])
  | succ k1 =>
   have H := HA.out; clear HA; simp only [furrowref14_Scale.l0] at H
   by_cases ar : x7_1 < (l0_0.length : Int)
   ·rw [if_pos ar] at H
    have b8 := decide_eq_true ar; clear ar
    by_cases aN : 0 ≤ x7_1
    ·rw [if_pos aN] at H
     have cH := decide_eq_true aN; clear aN; replace H := Option.bind_eq_some_iff.mp H; obtain ⟨⟨aH, b9⟩, bv, H⟩ := H; dsimp only at H; have bw := mk0 bv; clear bv
     by_cases aQ : b9 = true
     ·subst aQ
      replace H := iT H
      by_cases aT : x7_1 < (ai.length : Int)
      ·rw [if_pos aT] at H
       have cI := decide_eq_true aT; clear aT; obtain ⟨aY, aZ⟩ : ∃ y_ : List Int, y_ = (ai.set (x7_1 : Int).toNat aH) := ⟨_, rfl⟩; (replace H : (furrowref14_Scale.l0 k1 a1 (wrap64 (x7_1 + 1)) l0_0 a0_1 aY ak) = some (r1, r2, r3, r4) := by (try rw [aZ]); first | with_reducible exact H | with_reducible exact oN H | exact H); have cd := mk0 aZ; clear aZ; have H' := mk0 H; clear H; have cJ := av.out; have cK := aw.out; have cL := ax.out; have cM := ay.out; have cN := az.out; have cO := aA.out; obtain ⟨cP, cR, cS, cT⟩ := cL2 ab; have ap : 0 ≤ (x7_1 : Int) := dY; have aq : x7_1 < (l0_0.length : Int) := dY; obtain ⟨a_, bf, aI⟩ := Kd.at_int bo.out x7_1 ap aq
       cases bf
       replace aI := oC HB aI; replace ap := eq_true ap; replace aq := eq_true aq
       go_wp2_with (first | ((with_reducible refine gate_dst (N := 30) rfl ?_); refine gsM (some 30) Tryz.func76 #[.int .i64 (rd l0_0 x7_1), .int .i64 a1] ?_; (with_reducible refine (furrowref4_Mul.calls k1 (rd l0_0 x7_1) a1 aH true _ bw.out).mono ?_); rintro e w' ⟨rfl, ⟨nd, rfl⟩⟩; refine ⟨_, rfl, ?_⟩; (try (rw [drewN_self wr]; generalize hq_ : World.drewN wr _ = wr; have n0_ : Aside0 (Kd.R (Kd.int .i64) 2 wr w.heap.size (fun _ => True) aj ai) := ⟨by rw [← hq_]; exact (uR ae.out)⟩; have n1_ : Aside0 (wr.heap[au]? = some (.cells #[.slice (some a_) l0_0.length c0_0, .int .i64 a0_1] 39 (0, 0))) := ⟨by rw [← hq_]; exact (uB ab.out)⟩; have n2_ : Aside0 (wr.heap[ag]? = some (.cells #[.slice none 0 0, .int .i64 am] 39 (0, 0))) := ⟨by rw [← hq_]; exact (uB aa.out)⟩; have n3_ : Aside0 (wr.heap[ah]? = some (.cells #[.slice none 0 0, .int .i64 ao] 42 (0, 0))) := ⟨by rw [← hq_]; exact (uB ac.out)⟩; have n4_ : Aside0 (wr.heap[al]? = some (.cells #[aj, .int .i64 ak] 39 (0, 0))) := ⟨by rw [← hq_]; exact (uB af.out)⟩; have n5_ : Aside0 (Below w.heap.size w wr) := ⟨by rw [← hq_]; exact bH⟩; clear ae ab aa ac af HB hq_; have ae := n0_; have ab := n1_; have aa := n2_; have ac := n3_; have af := n4_; have HB := n5_; clear n0_ n1_ n2_ n3_ n4_ n5_)); have cU := aD.out; have cV := aC.out; have cW := aG.out; have cX := aE.out; obtain ⟨cY, cZ, c_, da⟩ := cL2 af; have bg : 0 ≤ (x7_1 : Int) := dY; have bh : (x7_1 : Int) < ((ai.length : Int) : Int) := dY; obtain ⟨aU, bz, bC, bE, gl22, cl22, bF⟩ := Kd.R_form ae.out (by omega); (first | cases bC | (injection bC with ea_ en_ ec_; (first | subst ea_ | (injection ea_ with ea_; subst ea_)); subst ec_; clear en_)); have ce := mk0 bE; have GG22 := mk0 bF; clear bE gl22 bF; obtain ⟨db, dc⟩ := Kd.R_celln 0 ae.out (x7_1 : Int) bg bh; replace bg := eq_true bg; replace bh := eq_true bh; obtain ⟨hy30_, hz30_⟩ := Kd.R_celln 0 ae.out (x7_1 : Int) (dY) (dY); have bi := Kd.R_putg ae.out (x7_1 : Int) aH) | ((with_reducible refine gate_store (t := 2) (p := 41) rfl ?_); refine store_event (t := 2) (p := 41) (v := ?vo_w31) (w1 := (wr.setCell ⟨aU, (x7_1 : Int).toNat, none⟩ (.int .i64 aH))) ?hg ?ho ?hn ?hr ?_; (case ho => rfl); (case hg => rfl); (case hn => rfl); (case hr => first | (go_simp; done) | (go_simp; rfl)); intro bj hw; have hg : wr.grownBy bj (some aU) := (by rw [hw]; exact bi.2); have hp_ : Kd.R (Kd.int .i64) 2 bj w.heap.size (fun _ => True) (.slice (some ⟨aU, 0, none⟩) ai.length bz) aY := (by rw [hw, cd.out]; exact bi.1); clear bi; replace ab := (gB ab hg (Kd.R_ne ae.out ab.out (by decide))); replace aa := (gB aa hg (Kd.R_ne ae.out aa.out (by decide))); replace ac := (gB ac hg (Kd.R_ne ae.out ac.out (by decide))); replace af := (gB af hg (Kd.R_ne ae.out af.out (by decide))); replace ae := mk0 (hp_); replace HB := mk0 ((by rw [hw]; exact below_set (HB.out) ce.out : Below w.heap.size w bj)); clear hg hw hp_))
       go_roundg k1
       case measure => have := bu.out; omega
       case rel => exact ⟨(wrap64 (x7_1 + 1)), (am), (ao), (aY), (.slice (some ⟨aU, 0, none⟩) ai.length bz), eK, H', ⟨by have := bu.out; omega⟩, ⟨uR ae.out⟩, ⟨uB ab.out⟩, ⟨uB aa.out⟩, ⟨uB ac.out⟩, ⟨uB af.out⟩, ⟨bH⟩⟩
      ·exact nO H aT
     ·replace aQ := Bool.eq_false_iff.mpr aQ
      subst aQ; replace H := iF H; replace H := Option.bind_eq_some_iff.mp H; obtain ⟨⟨bk, bl⟩, bG, H⟩ := H; dsimp only at H; have cf := mk0 bG; clear bG; simp only [Option.some.injEq, Prod.mk.injEq] at H; obtain ⟨rfl, rfl, rfl, rfl⟩ := H; have dd := av.out; have de := aw.out; have df := ax.out; have dh := ay.out; have di := az.out; have dj := aA.out; obtain ⟨dl, dn, dp, dq⟩ := cL2 ab; have ap : 0 ≤ (x7_1 : Int) := dY; have aq : x7_1 < (l0_0.length : Int) := dY; obtain ⟨a_, bf, aI⟩ := Kd.at_int bo.out x7_1 ap aq
      cases bf
      replace aI := oC HB aI; replace ap := eq_true ap; replace aq := eq_true aq
      go_wp2_with (first | ((with_reducible refine gate_dst (N := 30) rfl ?_); refine gsM (some 30) Tryz.func76 #[.int .i64 (rd l0_0 x7_1), .int .i64 a1] ?_; (with_reducible refine (furrowref4_Mul.calls k1 (rd l0_0 x7_1) a1 aH false _ bw.out).mono ?_); rintro e w' ⟨rfl, ⟨nd, rfl⟩⟩; refine ⟨_, rfl, ?_⟩; (try (rw [drewN_self wr]; generalize hq_ : World.drewN wr _ = wr; have n0_ : Aside0 (Kd.R (Kd.int .i64) 2 wr w.heap.size (fun _ => True) aj ai) := ⟨by rw [← hq_]; exact (uR ae.out)⟩; have n1_ : Aside0 (wr.heap[au]? = some (.cells #[.slice (some a_) l0_0.length c0_0, .int .i64 a0_1] 39 (0, 0))) := ⟨by rw [← hq_]; exact (uB ab.out)⟩; have n2_ : Aside0 (wr.heap[ag]? = some (.cells #[.slice none 0 0, .int .i64 am] 39 (0, 0))) := ⟨by rw [← hq_]; exact (uB aa.out)⟩; have n3_ : Aside0 (wr.heap[ah]? = some (.cells #[.slice none 0 0, .int .i64 ao] 42 (0, 0))) := ⟨by rw [← hq_]; exact (uB ac.out)⟩; have n4_ : Aside0 (wr.heap[al]? = some (.cells #[aj, .int .i64 ak] 39 (0, 0))) := ⟨by rw [← hq_]; exact (uB af.out)⟩; have n5_ : Aside0 (Below w.heap.size w wr) := ⟨by rw [← hq_]; exact bH⟩; clear ae ab aa ac af HB hq_; have ae := n0_; have ab := n1_; have aa := n2_; have ac := n3_; have af := n4_; have HB := n5_; clear n0_ n1_ n2_ n3_ n4_ n5_)); clear ae) | ((with_reducible refine gate_dst (N := 36) rfl ?_); refine gsM (some 36) Tryz.func49 #[] ?_; (with_reducible refine (furrowref14_over.calls  bk bl _ cf.out).mono ?_); rintro e dr ⟨dt, rfl, ho0, hb⟩; refine ⟨_, rfl, ?_⟩; have bI := mk0 (Kd.R_lower ho0 (below_size bH)); replace aa := bB aa hb; replace ac := bB ac hb; replace HB := hbB bH hb; (try clear hb ho0); have du := aW.out; have dv := aX.out; have dw := aC.out; have dz := aD.out; obtain ⟨dA, dB, dC, dD⟩ := cL2 aa; obtain ⟨bJ, bK, cg⟩ := Kd.R_slice bI.out; subst cg; have dE := aE.out; have dF := aG.out; obtain ⟨dG, dH, dI, dJ⟩ := cL2 ac))
      refine bodyPost_ret (results_cc rfl _ _ ag ah 39 42 #[.slice none 0 0, .int .i64 0] #[.slice bJ bk.length bK, .int .i64 bl] (0, 0) (0, 0) _ _ rfl (kB) Tryz.underlying39 rfl (by kernel_rfl) rfl (kB) Tryz.underlying42 rfl (by kernel_rfl)) rfl ?_; exact ⟨_, _, rE, nK, uR (Kd.R_mono (Kd.R_far (p := ⟨ah, 1, none⟩) (Kd.R_far (p := ⟨ah, 0, none⟩) (Kd.R_far (p := ⟨ag, 1, none⟩) (Kd.R_far (p := ⟨ag, 0, none⟩) (Kd.R_types (Kd.R_types bI.out aa.out (by decide)) ac.out (by decide)) (fun _ hk => hk.1.2) (.slice none 0 0)) (fun _ hk => hk.1.2) (.int .i64 0)) (fun _ hk => hk.2) (.slice bJ bk.length bK)) (fun _ hk => hk.2) (.int .i64 bl)) (fun _ hk => trivial)), bH⟩
    ·exact nO H aN
   ·rw [if_neg ar] at H
    have b8 := decide_eq_false ar; clear ar; replace H := Option.bind_eq_some_iff.mp H; obtain ⟨⟨aJ, ch⟩, bL, H⟩ := H; dsimp only at H; have bM := mk0 bL; clear bL
    by_cases aV : ch = true
    ·subst aV
     replace H := iT H; simp only [Option.some.injEq, Prod.mk.injEq] at H; obtain ⟨rfl, rfl, rfl, rfl⟩ := H; have dK := av.out; have dL := aw.out; have dM := ax.out; have dN := ay.out; have dO := az.out; have dP := aA.out; obtain ⟨dQ, dR, dS, dT⟩ := cL2 ab
     go_wp2_with (first | ((with_reducible refine gate_dst (N := 46) rfl ?_); refine gsM (some 46) Tryz.func76 #[.int .i64 a0_1, .int .i64 a1] ?_; (with_reducible refine (furrowref4_Mul.calls k1 a0_1 a1 aJ true _ bM.out).mono ?_); rintro e w' ⟨rfl, ⟨nd, rfl⟩⟩; refine ⟨_, rfl, ?_⟩; (try (rw [drewN_self wr]; generalize hq_ : World.drewN wr _ = wr; have n0_ : Aside0 (Kd.R (Kd.int .i64) 2 wr w.heap.size (fun _ => True) aj ai) := ⟨by rw [← hq_]; exact (uR ae.out)⟩; have n1_ : Aside0 (wr.heap[au]? = some (.cells #[.slice A0_0 l0_0.length c0_0, .int .i64 a0_1] 39 (0, 0))) := ⟨by rw [← hq_]; exact (uB ab.out)⟩; have n2_ : Aside0 (wr.heap[ag]? = some (.cells #[.slice none 0 0, .int .i64 am] 39 (0, 0))) := ⟨by rw [← hq_]; exact (uB aa.out)⟩; have n3_ : Aside0 (wr.heap[ah]? = some (.cells #[.slice none 0 0, .int .i64 ao] 42 (0, 0))) := ⟨by rw [← hq_]; exact (uB ac.out)⟩; have n4_ : Aside0 (wr.heap[al]? = some (.cells #[aj, .int .i64 ak] 39 (0, 0))) := ⟨by rw [← hq_]; exact (uB af.out)⟩; have n5_ : Aside0 (Below w.heap.size w wr) := ⟨by rw [← hq_]; exact bH⟩; clear ae ab aa ac af HB hq_; have ae := n0_; have ab := n1_; have aa := n2_; have ac := n3_; have af := n4_; have HB := n5_; clear n0_ n1_ n2_ n3_ n4_ n5_)); have dU := aD.out; have dV := aC.out; have dW := aG.out; have dX := aE.out; obtain ⟨dZ, d6, d7, d8⟩ := cL2 af; obtain ⟨bO, bP, ci⟩ := Kd.R_slice ae.out; subst ci; have d9 := aW.out; have d_ := aX.out; obtain ⟨ea, eb, ec, ed⟩ := cL2 aa; obtain ⟨ee, ef, eh, ei⟩ := cL2 ac))
     refine bodyPost_ret (results_cc rfl _ _ ag ah 39 42 #[.slice bO ai.length bP, .int .i64 aJ] #[.slice none 0 0, .int .i64 0] (0, 0) (0, 0) _ _ rfl (kB) Tryz.underlying39 rfl (by kernel_rfl) rfl (kB) Tryz.underlying42 rfl (by kernel_rfl)) rfl ?_; exact ⟨_, _, rE, uR (Kd.R_mono (Kd.R_far (p := ⟨ah, 1, none⟩) (Kd.R_far (p := ⟨ah, 0, none⟩) (Kd.R_far (p := ⟨ag, 1, none⟩) (Kd.R_far (p := ⟨ag, 0, none⟩) (Kd.R_far (p := ⟨al, 1, none⟩) (Kd.R_types (Kd.R_types (Kd.R_types ae.out af.out (by decide)) aa.out (by decide)) ac.out (by decide)) (fun _ hk => hk.1.1.2) (.int .i64 aJ)) (fun _ hk => hk.1.2) (.slice bO ai.length bP)) (fun _ hk => hk.1.2) (.int .i64 aJ)) (fun _ hk => hk.2) (.slice none 0 0)) (fun _ hk => hk.2) (.int .i64 0)) (fun _ hk => trivial)), nK, bH⟩
    ·replace aV := Bool.eq_false_iff.mpr aV
     subst aV; replace H := iF H; replace H := Option.bind_eq_some_iff.mp H; obtain ⟨⟨bm, bn⟩, bQ, H⟩ := H; dsimp only at H; have cj := mk0 bQ; clear bQ; simp only [Option.some.injEq, Prod.mk.injEq] at H; obtain ⟨rfl, rfl, rfl, rfl⟩ := H; have ej := av.out; have em := aw.out; have eo := ax.out; have ep := ay.out; have eu := az.out; have ew := aA.out; obtain ⟨ez, eA, eB, eC⟩ := cL2 ab
     go_wp2_with (first | ((with_reducible refine gate_dst (N := 46) rfl ?_); refine gsM (some 46) Tryz.func76 #[.int .i64 a0_1, .int .i64 a1] ?_; (with_reducible refine (furrowref4_Mul.calls k1 a0_1 a1 aJ false _ bM.out).mono ?_); rintro e w' ⟨rfl, ⟨nd, rfl⟩⟩; refine ⟨_, rfl, ?_⟩; (try (rw [drewN_self wr]; generalize hq_ : World.drewN wr _ = wr; have n0_ : Aside0 (Kd.R (Kd.int .i64) 2 wr w.heap.size (fun _ => True) aj ai) := ⟨by rw [← hq_]; exact (uR ae.out)⟩; have n1_ : Aside0 (wr.heap[au]? = some (.cells #[.slice A0_0 l0_0.length c0_0, .int .i64 a0_1] 39 (0, 0))) := ⟨by rw [← hq_]; exact (uB ab.out)⟩; have n2_ : Aside0 (wr.heap[ag]? = some (.cells #[.slice none 0 0, .int .i64 am] 39 (0, 0))) := ⟨by rw [← hq_]; exact (uB aa.out)⟩; have n3_ : Aside0 (wr.heap[ah]? = some (.cells #[.slice none 0 0, .int .i64 ao] 42 (0, 0))) := ⟨by rw [← hq_]; exact (uB ac.out)⟩; have n4_ : Aside0 (wr.heap[al]? = some (.cells #[aj, .int .i64 ak] 39 (0, 0))) := ⟨by rw [← hq_]; exact (uB af.out)⟩; have n5_ : Aside0 (Below w.heap.size w wr) := ⟨by rw [← hq_]; exact bH⟩; clear ae ab aa ac af HB hq_; have ae := n0_; have ab := n1_; have aa := n2_; have ac := n3_; have af := n4_; have HB := n5_; clear n0_ n1_ n2_ n3_ n4_ n5_)); clear ae) | ((with_reducible refine gate_dst (N := 52) rfl ?_); refine gsM (some 52) Tryz.func49 #[] ?_; (with_reducible refine (furrowref14_over.calls  bm bn _ cj.out).mono ?_); rintro e eD ⟨eE, rfl, ho0, hb⟩; refine ⟨_, rfl, ?_⟩; have bR := mk0 (Kd.R_lower ho0 (below_size bH)); replace aa := bB aa hb; replace ac := bB ac hb; replace HB := hbB bH hb; (try clear hb ho0); have eF := aW.out; have eG := aX.out; have eH := aC.out; have eI := aD.out; obtain ⟨eJ, eL, eM, eN⟩ := cL2 aa; obtain ⟨bT, bU, ck⟩ := Kd.R_slice bR.out; subst ck; have eO := aE.out; have eP := aG.out; obtain ⟨eQ, eR, eS, eT⟩ := cL2 ac))
     refine bodyPost_ret (results_cc rfl _ _ ag ah 39 42 #[.slice none 0 0, .int .i64 0] #[.slice bT bm.length bU, .int .i64 bn] (0, 0) (0, 0) _ _ rfl (kB) Tryz.underlying39 rfl (by kernel_rfl) rfl (kB) Tryz.underlying42 rfl (by kernel_rfl)) rfl ?_; exact ⟨_, _, rE, nK, uR (Kd.R_mono (Kd.R_far (p := ⟨ah, 1, none⟩) (Kd.R_far (p := ⟨ah, 0, none⟩) (Kd.R_far (p := ⟨ag, 1, none⟩) (Kd.R_far (p := ⟨ag, 0, none⟩) (Kd.R_types (Kd.R_types bR.out aa.out (by decide)) ac.out (by decide)) (fun _ hk => hk.1.2) (.slice none 0 0)) (fun _ hk => hk.1.2) (.int .i64 0)) (fun _ hk => hk.2) (.slice bT bm.length bU)) (fun _ hk => hk.2) (.int .i64 bn)) (fun _ hk => trivial)), bH⟩

/-! ### furrowref14_scaled: function 30 -/
def furrowref14_scaled.f (k : Nat) (l0_0 : List Int) (a0_1 : Int) (a1 : Int) : Option (List Int × Int × (List (S90)) × Int) := (furrowref14_Scale.f k l0_0 a0_1 a1).bind fun bt626 => ((furrowref4_Within.f (⟨#[108, 105, 102, 116]⟩ : ByteArray) 0 bt626.2.2.1 bt626.2.2.2).bind fun bt636 => (some (bt626.1, bt626.2.1, bt636.1, bt636.2)))
theorem furrowref14_scaled.mono : ∀ a0 a1 a2 k, LeO (furrowref14_scaled.f k a0 a1 a2) (furrowref14_scaled.f (k + 1) a0 a1 a2) := by
 intro a0 a1 a2 k
 have m0_ := @furrowref14_Scale.mono; unfold furrowref14_scaled.f; exact lO_
set_option maxHeartbeats 8000000 in
set_option maxRecDepth 100000 in
theorem furrowref14_scaled.calls (k : Nat) (A0_0 : Option Addr) (c0_0 : Nat) (l0_0 : List Int) (a0_1 : Int) (a1 : Int) (r1 : List Int) (r2 : Int) (r3 : List (S90)) (r4 : Int) (w : World) (hr0_0 : Kd.C (Kd.int .i64) w A0_0 l0_0.length l0_0) (hc0_0 : l0_0.length ≤ c0_0) (h : furrowref14_scaled.f k l0_0 a0_1 a1 = some (r1, r2, r3, r4)) :
  Calls Tryz.prog 30 #[.agg #[.slice A0_0 l0_0.length c0_0, .int .i64 a0_1], .int .i64 a1] w fun e w' => ∃ v0_ v2_ : Value, e = .returned (.tuple #[.agg #[v0_, .int .i64 r2], .agg #[v2_, .int .i64 r4]]) ∧ Kd.R (Kd.int .i64) 2 w' w.heap.size (fun k_ => (w.heap.size ≤ k_)) v0_ r1 ∧ Kd.V k90 90 w' w.heap.size (fun k_ => (w.heap.size ≤ k_) ∧ some k_ ≠ (v0_ : Value).ownBlock) v2_ r3 ∧ Below w.heap.size w w' := by
 have hu39 := Tryz.underlying39
 have hu42 := Tryz.underlying42
 have bj := mk0 hr0_0
 have bk := mk0 hc0_0
 clear hr0_0 hc0_0
 have HB := mk0 (Below.refl w.heap.size w)
 have H : ((furrowref14_Scale.f k l0_0 a0_1 a1).bind fun aD => ((furrowref4_Within.f (⟨#[108, 105, 102, 116]⟩ : ByteArray) 0 aD.2.2.1 aD.2.2.2).bind fun a_ => (some (aD.1, aD.2.1, a_.1, a_.2)))) = some (r1, r2, r3, r4) := h
 clear h
 replace H := Option.bind_eq_some_iff.mp H
 obtain ⟨⟨aj, ar, ak, au⟩, bf, H⟩ := H
 dsimp only at H
 have A3 := mk0 bf
 clear bf
 replace H := Option.bind_eq_some_iff.mp H
 obtain ⟨⟨aE, aG⟩, bg, H⟩ := H
 dsimp only at H
 have A4 := mk0 bg
 clear bg
 simp only [Option.some.injEq, Prod.mk.injEq] at H
 obtain ⟨rfl, rfl, rfl, rfl⟩ := H
 go_enter Tryz.func30, Tryz.ntmps30
 try go_wp2_with (first | ((with_reducible refine gate_dst (N := 2) rfl ?_); refine bxE 2 #[.slice A0_0 l0_0.length c0_0, .int .i64 a0_1] 39 ?_; intro aK hg w5 hbox hb; have ab := mk0 (hbox); have bv := gE (uL HB.out) hg; replace HB := hbB (uL HB.out) hb; clear hb hbox hg) | ((with_reducible refine gate_dst (N := 4) rfl ?_); refine bxE 4 #[.slice none 0 0, .int .i64 0] 39 ?_; intro al hg w6 hbox hb; have aa := mk0 (hbox); have bw := gE bH hg; replace HB := hbB bH hb; have aM := nL ab hg; have aN := nG ab hg; replace ab := bB ab hb; clear hb hbox hg) | ((with_reducible refine gate_dst (N := 5) rfl ?_); refine bxE 5 #[.slice none 0 0, .int .i64 0] 42 ?_; intro am hg w7 hbox hb; have ac := mk0 (hbox); have bz := gE bH hg; replace HB := hbB bH hb; have aQ := nL ab hg; have aT := nG ab hg; replace ab := bB ab hb; have aH := nL aa hg; have aI := nG aa hg; replace aa := bB aa hb; clear hb hbox hg; have bC := aM.out; have bE := aN.out; have bF := aQ.out; have bG := aT.out; obtain ⟨bI, bJ, bK, bL⟩ := cL2 ab) | ((with_reducible refine gate_dst (N := 11) rfl ?_); refine gsM (some 11) Tryz.func47 #[.agg #[.slice A0_0 l0_0.length c0_0, .int .i64 a0_1], .int .i64 a1] ?_; (with_reducible refine (furrowref14_Scale.calls k _ _ l0_0 a0_1 a1 aj ar ak au _ ?side1 ?side2 A3.out).mono ?_); (case side1 => exact uC (Kd.C_below bj.out HB.out)); (case side2 => exact bk.out); rintro e bM ⟨bO, bP, rfl, ho0, ho1, hb⟩; refine ⟨_, rfl, ?_⟩; have ah := mk0 (Kd.R_lower (Kd.R_newM (M := fun k_ => (w.heap.size ≤ k_)) ho0 (below_size bH) (fun k_ h_ => h_)) (below_size bH)); have ao := mk0 (Kd.R_lower (Kd.R_newM (M := fun k_ => (w.heap.size ≤ k_)) ho1 (below_size bH) (fun k_ h_ => h_)) (below_size bH)); replace ab := bB ab hb; replace aa := bB aa hb; replace ac := bB ac hb; replace HB := hbB bH hb; (try clear hb ho0 ho1)) | ((with_reducible refine gate_dst (N := 6) rfl ?_); refine bxE 6 #[.slice none 0 0, .int .i64 0] 39 ?_; intro ae hg bQ hbox hb; replace ah := rB ah hb; replace ao := rB ao hb; have af := mk0 (hbox); have bR := gE bH hg; replace HB := hbB bH hb; have bl := nL ab hg; have bm := nG ab hg; replace ab := bB ab hb; have aU := nL aa hg; have ay := nG aa hg; replace aa := bB aa hb; have aV := nL ac hg; have az := nG ac hg; replace ac := bB ac hb; clear hb hbox hg) | ((with_reducible refine gate_dst (N := 7) rfl ?_); refine bxE 7 #[.slice none 0 0, .int .i64 0] 42 ?_; intro ag hg ax hbox hb; replace ah := rB ah hb; replace ao := rB ao hb; have ai := mk0 (hbox); have bT := gE bH hg; replace HB := hbB bH hb; have bn := nL ab hg; have bo := nG ab hg; replace ab := bB ab hb; have aW := nL aa hg; have aA := nG aa hg; replace aa := bB aa hb; have aX := nL ac hg; have aC := nG ac hg; replace ac := bB ac hb; have bp := nL af hg; have bq := nG af hg; replace af := bB af hb; clear hb hbox hg; obtain ⟨ap, aq, br⟩ := Kd.R_slice ah.out; subst br; have bU := bm.out; have bV := bl.out; have bW := ay.out; have bX := aU.out; have bY := az.out; have bZ := aV.out; have b4 := bp.out; have b5 := bq.out; obtain ⟨b6, b7, b8, b9⟩ := cL2 af; obtain ⟨av, aw, bs⟩ := Kd.R_slice ao.out; subst bs; have cd := bo.out; have ce := bn.out; have cf := aA.out; have cg := aW.out; have ch := aC.out; have ci := aX.out; obtain ⟨cj, ck, cl, cm⟩ := cL2 ai))
 have n0_ : Aside0 (Kd.R (Kd.int .i64) 2 ((((ax.setCell ⟨ae, 0, none⟩ (.slice ap aj.length aq)).setCell ⟨ae, 1, none⟩ (.int .i64 ar)).setCell ⟨ag, 0, none⟩ (.slice av ak.length aw)).setCell ⟨ag, 1, none⟩ (.int .i64 au)) w.heap.size (fun k_ => (w.heap.size ≤ k_)) (.slice ap aj.length aq) aj) := ⟨uR (Kd.R_mono (Kd.R_far (p := ⟨ag, 1, none⟩) (Kd.R_far (p := ⟨ag, 0, none⟩) (Kd.R_far (p := ⟨ae, 1, none⟩) (Kd.R_far (p := ⟨ae, 0, none⟩) (Kd.R_types (Kd.R_types ah.out af.out (by decide)) ai.out (by decide)) (fun _ hk => hk.1.2) (.slice ap aj.length aq)) (fun _ hk => hk.1.2) (.int .i64 ar)) (fun _ hk => hk.2) (.slice av ak.length aw)) (fun _ hk => hk.2) (.int .i64 au)) (fun _ hk => hk.1.1.1))⟩
 have n1_ : Aside0 (Kd.R k90 90 ((((ax.setCell ⟨ae, 0, none⟩ (.slice ap aj.length aq)).setCell ⟨ae, 1, none⟩ (.int .i64 ar)).setCell ⟨ag, 0, none⟩ (.slice av ak.length aw)).setCell ⟨ag, 1, none⟩ (.int .i64 au)) w.heap.size (fun k_ => (w.heap.size ≤ k_)) (.slice av ak.length aw) ak) := ⟨uR (Kd.R_mono (Kd.R_far (p := ⟨ag, 1, none⟩) (Kd.R_far (p := ⟨ag, 0, none⟩) (Kd.R_far (p := ⟨ae, 1, none⟩) (Kd.R_far (p := ⟨ae, 0, none⟩) (Kd.R_types (Kd.R_types ao.out af.out (by decide)) ai.out (by decide)) (fun _ hk => hk.1.2) (.slice ap aj.length aq)) (fun _ hk => hk.1.2) (.int .i64 ar)) (fun _ hk => hk.2) (.slice av ak.length aw)) (fun _ hk => hk.2) (.int .i64 au)) (fun _ hk => hk.1.1.1))⟩
 have n2_ : Aside0 (((((ax.setCell ⟨ae, 0, none⟩ (.slice ap aj.length aq)).setCell ⟨ae, 1, none⟩ (.int .i64 ar)).setCell ⟨ag, 0, none⟩ (.slice av ak.length aw)).setCell ⟨ag, 1, none⟩ (.int .i64 au)).heap[aK]? = some (.cells #[.slice A0_0 l0_0.length c0_0, .int .i64 a0_1] 39 (0, 0))) := ⟨kB⟩
 have n3_ : Aside0 (((((ax.setCell ⟨ae, 0, none⟩ (.slice ap aj.length aq)).setCell ⟨ae, 1, none⟩ (.int .i64 ar)).setCell ⟨ag, 0, none⟩ (.slice av ak.length aw)).setCell ⟨ag, 1, none⟩ (.int .i64 au)).heap[al]? = some (.cells #[.slice none 0 0, .int .i64 0] 39 (0, 0))) := ⟨kB⟩
 have n4_ : Aside0 (((((ax.setCell ⟨ae, 0, none⟩ (.slice ap aj.length aq)).setCell ⟨ae, 1, none⟩ (.int .i64 ar)).setCell ⟨ag, 0, none⟩ (.slice av ak.length aw)).setCell ⟨ag, 1, none⟩ (.int .i64 au)).heap[am]? = some (.cells #[.slice none 0 0, .int .i64 0] 42 (0, 0))) := ⟨kB⟩
 have n5_ : Aside0 (((((ax.setCell ⟨ae, 0, none⟩ (.slice ap aj.length aq)).setCell ⟨ae, 1, none⟩ (.int .i64 ar)).setCell ⟨ag, 0, none⟩ (.slice av ak.length aw)).setCell ⟨ag, 1, none⟩ (.int .i64 au)).heap[ae]? = some (.cells #[.slice ap aj.length aq, .int .i64 ar] 39 (0, 0))) := ⟨kB⟩
 have n6_ : Aside0 (((((ax.setCell ⟨ae, 0, none⟩ (.slice ap aj.length aq)).setCell ⟨ae, 1, none⟩ (.int .i64 ar)).setCell ⟨ag, 0, none⟩ (.slice av ak.length aw)).setCell ⟨ag, 1, none⟩ (.int .i64 au)).heap[ag]? = some (.cells #[.slice av ak.length aw, .int .i64 au] 42 (0, 0))) := ⟨kB⟩
 have n7_ : Aside0 (Below w.heap.size w ((((ax.setCell ⟨ae, 0, none⟩ (.slice ap aj.length aq)).setCell ⟨ae, 1, none⟩ (.int .i64 ar)).setCell ⟨ag, 0, none⟩ (.slice av ak.length aw)).setCell ⟨ag, 1, none⟩ (.int .i64 au))) := ⟨bH⟩
 (try clear ah)
 (try clear ao)
 (try clear ab)
 (try clear aa)
 (try clear ac)
 (try clear af)
 (try clear ai)
 (try clear HB)
 generalize ((((ax.setCell ⟨ae, 0, none⟩ (.slice ap aj.length aq)).setCell ⟨ae, 1, none⟩ (.int .i64 ar)).setCell ⟨ag, 0, none⟩ (.slice av ak.length aw)).setCell ⟨ag, 1, none⟩ (.int .i64 au)) = bu at n0_ n1_ n2_ n3_ n4_ n5_ n6_ n7_ ⊢
 have ah := n0_
 have ao := n1_
 have ab := n2_
 have aa := n3_
 have ac := n4_
 have af := n5_
 have ai := n6_
 have HB := n7_
 clear n0_ n1_ n2_ n3_ n4_ n5_ n6_ n7_
 replace ah := mk0 (Kd.R_drew ah.out)
 replace ao := mk0 (Kd.R_drew ao.out)
 replace ab := mk0 (blk_drew ab.out)
 replace aa := mk0 (blk_drew aa.out)
 replace ac := mk0 (blk_drew ac.out)
 replace af := mk0 (blk_drew af.out)
 replace ai := mk0 (blk_drew ai.out)
 replace HB := mk0 (below_drew1 HB.out)
 refine start_ (n := 5) (S := fun w' => w'.cell? ⟨ae, 0, none⟩ = some (.slice ap aj.length aq) ∧ w'.cell? ⟨ae, 1, none⟩ = some (.int .i64 ar) ∧ w'.cell? ⟨ag, 0, none⟩ = some (.slice av ak.length aw) ∧ w'.cell? ⟨ag, 1, none⟩ = some (.int .i64 au)) (ds := []) (bts 5 0) (by kernel_rfl) rfl rfl ⟨(blk_cell af.out 0).trans rfl, (blk_cell af.out 1).trans rfl, (blk_cell ai.out 0).trans rfl, (blk_cell ai.out 1).trans rfl⟩ (fun hHeld => ?_)
 generalize bu.drew = cn at ah ao ab aa ac af ai HB hHeld ⊢
 refine take_ (i := 0) (N := some 14) (v := ?_) (a' := ?_) (bts 5 1) rfl rfl (by kernel_rfl) (fun _ _ _ h => h) (Or.inl ⟨by rfl, ?_⟩) hHeld ?_ ?_
 rotate_left
 ·rintro w' ⟨s0, s1, s2, s3⟩
  go_simp; (with_reducible rfl)
 rotate_left
 ·simp only [AP, i64_w, i32_w]
  rfl
 refine take_ (i := 1) (N := some 15) (v := ?_) (a' := ?_) (bts 5 3) rfl rfl (by kernel_rfl) (fun _ _ _ h => h) (Or.inl ⟨by rfl, ?_⟩) hHeld ?_ ?_
 rotate_left
 ·rintro w' ⟨s0, s1, s2, s3⟩
  go_simp; (with_reducible rfl)
 rotate_left
 ·simp only [AP, i64_w, i32_w]
  rfl
 refine one_ (i := 2) (N := some 16) (bts 5 7) rfl rfl (by kernel_rfl) (by decide) (fun K hK => ?_)
 refine goes_ Tryz.func34 (by kernel_rfl) rfl #[.string (⟨#[108, 105, 102, 116]⟩ : ByteArray), .int .i64 0, .agg #[.slice av ak.length aw, .int .i64 au]] (by rfl) rfl rfl (by (try simp only [List.map_toArray, List.map_cons, List.map_nil]); first | done | rfl | (simp only [List.length_drop, List.length_take]; rfl)) ?_
 with_reducible refine (furrowref4_Within.calls (⟨#[108, 105, 102, 116]⟩ : ByteArray) 0 (fun k_ => some k_ = (.slice av ak.length aw : Value).ownBlock) _ _ ak au aE aG _ ?side1 A4.out).mono ?_
 (case side1 => exact Kd.R_V (Kd.R_tight rfl (Kd.R_types (Kd.R_types (Kd.R_types (Kd.R_types (Kd.R_types (Kd.R_apart' (ao.out) (Kd.R_typed ah.out) (by decide)) ab.out (by decide)) aa.out (by decide)) ac.out (by decide)) af.out (by decide)) ai.out (by decide))))
 rintro e aJ ⟨cp, rfl, ho0, hb⟩
 refine ⟨_, rfl, ?_⟩
 have bh := mk0 (Kd.V_lower (Kd.V_mono (ok' := fun k_ => (w.heap.size ≤ k_) ∧ some k_ ≠ (.slice ap aj.length aq : Value).ownBlock ∧ k_ ≠ aK ∧ k_ ≠ al ∧ k_ ≠ am ∧ k_ ≠ ae ∧ k_ ≠ ag) ho0 (fun k_ hk_ => ⟨Or.elim hk_ (fun hs_ => ((Kd.R_types (Kd.R_types (Kd.R_types (Kd.R_types (Kd.R_types (Kd.R_apart' (ao.out) (Kd.R_typed ah.out) (by decide)) ab.out (by decide)) aa.out (by decide)) ac.out (by decide)) af.out (by decide)) ai.out (by decide)).1 k_ hs_.symm).1.1.1.1.1.1) (fun hn_ => (Nat.le_trans (below_size bH) hn_)), Or.elim hk_ (fun hs_ => ((Kd.R_types (Kd.R_types (Kd.R_types (Kd.R_types (Kd.R_types (Kd.R_apart' (ao.out) (Kd.R_typed ah.out) (by decide)) ab.out (by decide)) aa.out (by decide)) ac.out (by decide)) af.out (by decide)) ai.out (by decide)).1 k_ hs_.symm).1.1.1.1.1.2) (fun hn_ => (Kd.fresh' (Kd.R_lt (uR ah.out)) k_ hn_)), Or.elim hk_ (fun hs_ => ((Kd.R_types (Kd.R_types (Kd.R_types (Kd.R_types (Kd.R_types (Kd.R_apart' (ao.out) (Kd.R_typed ah.out) (by decide)) ab.out (by decide)) aa.out (by decide)) ac.out (by decide)) af.out (by decide)) ai.out (by decide)).1 k_ hs_.symm).1.1.1.1.2) (fun hn_ => (Kd.freshB (g := aK) (o := .cells #[.slice A0_0 l0_0.length c0_0, .int .i64 a0_1] 39 (0, 0)) (uB ab.out) k_ hn_)), Or.elim hk_ (fun hs_ => ((Kd.R_types (Kd.R_types (Kd.R_types (Kd.R_types (Kd.R_types (Kd.R_apart' (ao.out) (Kd.R_typed ah.out) (by decide)) ab.out (by decide)) aa.out (by decide)) ac.out (by decide)) af.out (by decide)) ai.out (by decide)).1 k_ hs_.symm).1.1.1.2) (fun hn_ => (Kd.freshB (g := al) (o := .cells #[.slice none 0 0, .int .i64 0] 39 (0, 0)) (uB aa.out) k_ hn_)), Or.elim hk_ (fun hs_ => ((Kd.R_types (Kd.R_types (Kd.R_types (Kd.R_types (Kd.R_types (Kd.R_apart' (ao.out) (Kd.R_typed ah.out) (by decide)) ab.out (by decide)) aa.out (by decide)) ac.out (by decide)) af.out (by decide)) ai.out (by decide)).1 k_ hs_.symm).1.1.2) (fun hn_ => (Kd.freshB (g := am) (o := .cells #[.slice none 0 0, .int .i64 0] 42 (0, 0)) (uB ac.out) k_ hn_)), Or.elim hk_ (fun hs_ => ((Kd.R_types (Kd.R_types (Kd.R_types (Kd.R_types (Kd.R_types (Kd.R_apart' (ao.out) (Kd.R_typed ah.out) (by decide)) ab.out (by decide)) aa.out (by decide)) ac.out (by decide)) af.out (by decide)) ai.out (by decide)).1 k_ hs_.symm).1.2) (fun hn_ => (Kd.freshB (g := ae) (o := .cells #[.slice ap aj.length aq, .int .i64 ar] 39 (0, 0)) (uB af.out) k_ hn_)), Or.elim hk_ (fun hs_ => ((Kd.R_types (Kd.R_types (Kd.R_types (Kd.R_types (Kd.R_types (Kd.R_apart' (ao.out) (Kd.R_typed ah.out) (by decide)) ab.out (by decide)) aa.out (by decide)) ac.out (by decide)) af.out (by decide)) ai.out (by decide)).1 k_ hs_.symm).2) (fun hn_ => (Kd.freshB (g := ag) (o := .cells #[.slice av ak.length aw, .int .i64 au] 42 (0, 0)) (uB ai.out) k_ hn_))⟩)) (below_size bH))
 replace ah := rB ah hb
 replace aa := bB aa hb
 replace ac := bB ac hb
 replace af := bB af hb
 replace ai := bB ai hb
 replace HB := hbB bH hb
 (try clear hb)
 (try clear hk)
 (try clear ho0)
 obtain ⟨aY, aZ, bi⟩ := Kd.V_slice bh.out
 (first | subst bi | (injection bi with f1_ f2_ f3_; have f4_ := f1_.symm; have f5_ := f3_.symm; clear f1_ f2_ f3_; subst f4_; subst f5_))
 refine hK.out _ _ ⟨(blk_cell af.out 0).trans rfl, (blk_cell af.out 1).trans rfl, (blk_cell ai.out 0).trans rfl, (blk_cell ai.out 1).trans rfl⟩ (fun hHeld => ?_)
 clear hK K
 refine norm_ (a' := ?_) ?_ ?_
 rotate_left
 ·show Act.put _ (some 16) _ = _
  simp only [AP, i64_w, i32_w]; rfl
 refine one_ (i := 3) (N := none) (bts 5 15) rfl rfl (by kernel_rfl) (by decide) (fun K hK => ?_)
 have hs28 : aJ.cell? ⟨al, 0, none⟩ = some (.slice none 0 0) := (blk_cell aa.out 0).trans rfl
 have hfs28 := blk_frozen aa.out 0
 have cq := aM.out
 have cr := aI.out
 have ct := ay.out
 have cu := aA.out
 have cv := aN.out
 have cw := aH.out
 have cx := aU.out
 have cy := aW.out
 have hs29 : aJ.cell? ⟨al, 1, none⟩ = some (.int .i64 0) := (blk_cell aa.out 1).trans rfl
 have hfs29 := blk_frozen aa.out 1
 have cz := aM.out
 have cA := aI.out
 have cD := ay.out
 have cE := aA.out
 have cF := aN.out
 have cG := aH.out
 have cH := aU.out
 have cI := aW.out
 refine skip_ (w1 := ?_) (by rfl) rfl ?_ ?_
 rotate_left
 ·go_simp
  rfl
 refine hK.out _ _ ⟨((cell_far (p := ⟨al, _, none⟩) ay.out _).trans (((cell_far (p := ⟨al, _, none⟩) ay.out _).trans (hHeld.1)))), ((cell_far (p := ⟨al, _, none⟩) ay.out _).trans (((cell_far (p := ⟨al, _, none⟩) ay.out _).trans (hHeld.2.1)))), ((cell_far (p := ⟨al, _, none⟩) aA.out _).trans (((cell_far (p := ⟨al, _, none⟩) aA.out _).trans (hHeld.2.2.1)))), ((cell_far (p := ⟨al, _, none⟩) aA.out _).trans (((cell_far (p := ⟨al, _, none⟩) aA.out _).trans (hHeld.2.2.2))))⟩ (fun hHeld => ?_)
 clear hK K
 refine one_ (i := 4) (N := none) (bts 5 31) rfl rfl (by kernel_rfl) (by decide) (fun K hK => ?_)
 have hs31 : aJ.cell? ⟨am, 0, none⟩ = some (.slice none 0 0) := (blk_cell ac.out 0).trans rfl
 have hfs31 := blk_frozen ac.out 0
 have cJ := aQ.out
 have cK := aH.out
 have cL := az.out
 have cM := aC.out
 have cN := aT.out
 have cO := aI.out
 have cP := aV.out
 have cR := aX.out
 have hs32 : aJ.cell? ⟨am, 1, none⟩ = some (.int .i64 0) := (blk_cell ac.out 1).trans rfl
 have hfs32 := blk_frozen ac.out 1
 have cS := aQ.out
 have cT := aH.out
 have cU := az.out
 have cV := aC.out
 have cW := aT.out
 have cX := aI.out
 have cY := aV.out
 have cZ := aX.out
 refine skip_ (w1 := ?_) (by rfl) rfl ?_ ?_
 rotate_left
 ·go_simp
  rfl
 refine hK.out _ _ ⟨((cell_far (p := ⟨am, _, none⟩) az.out _).trans (((cell_far (p := ⟨am, _, none⟩) az.out _).trans (hHeld.1)))), ((cell_far (p := ⟨am, _, none⟩) az.out _).trans (((cell_far (p := ⟨am, _, none⟩) az.out _).trans (hHeld.2.1)))), ((cell_far (p := ⟨am, _, none⟩) aC.out _).trans (((cell_far (p := ⟨am, _, none⟩) aC.out _).trans (hHeld.2.2.1)))), ((cell_far (p := ⟨am, _, none⟩) aC.out _).trans (((cell_far (p := ⟨am, _, none⟩) aC.out _).trans (hHeld.2.2.2))))⟩ (fun hHeld => ?_)
 clear hK K
 refine done_ (by kernel_rfl) ?_
 try go_wp2
 refine bodyPost_ret (results_cc rfl _ _ al am 39 42 #[.slice ap aj.length aq, .int .i64 ar] #[.slice aY aE.length aZ, .int .i64 aG] (0, 0) (0, 0) _ _ rfl (kB) Tryz.underlying39 rfl (by kernel_rfl) rfl (kB) Tryz.underlying42 rfl (by kernel_rfl)) rfl ?_
 exact ⟨_, _, rE, uR (Kd.R_mono (Kd.R_far (p := ⟨am, 1, none⟩) (Kd.R_far (p := ⟨am, 0, none⟩) (Kd.R_far (p := ⟨al, 1, none⟩) (Kd.R_far (p := ⟨al, 0, none⟩) (Kd.R_types (Kd.R_types ah.out aa.out (by decide)) ac.out (by decide)) (fun _ hk => hk.1.2) (.slice ap aj.length aq)) (fun _ hk => hk.1.2) (.int .i64 ar)) (fun _ hk => hk.2) (.slice aY aE.length aZ)) (fun _ hk => hk.2) (.int .i64 aG)) (fun _ hk => hk.1.1)), uV (Kd.V_mono (Kd.V_far (p := ⟨am, 1, none⟩) (Kd.V_far (p := ⟨am, 0, none⟩) (Kd.V_far (p := ⟨al, 1, none⟩) (Kd.V_far (p := ⟨al, 0, none⟩) (Kd.V_mono (Kd.V_mono bh.out (fun k_ hk => (⟨hk, hk.2.2.2.1⟩ : _ ∧ k_ ≠ al))) (fun k_ hk => (⟨hk, hk.1.2.2.2.2.1⟩ : _ ∧ k_ ≠ am))) (fun _ hk => hk.1.2) (.slice ap aj.length aq)) (fun _ hk => hk.1.2) (.int .i64 ar)) (fun _ hk => hk.2) (.slice aY aE.length aZ)) (fun _ hk => hk.2) (.int .i64 aG)) (fun _ hk => ⟨hk.1.1.1, hk.1.1.2.1⟩)), bH⟩


/-! ### furrowref14_constant: function 31 -/
def furrowref14_constant.l0 : Nat → Int → List Int → Int → Option (Bool)
 | 0, _, _, _ => none
 | k + 1, x3, x641000, x641001 => if x3 < (x641000.length : Int) then (if 0 ≤ x3 then (if (rd x641000 x3) = 0 then (furrowref14_constant.l0 k (wrap64 (x3 + 1)) x641000 x641001) else (some false)) else (none)) else (some true)
def furrowref14_constant.f (k : Nat) (l0_0 : List Int) (a0_1 : Int) : Option (Bool) := furrowref14_constant.l0 k 0 l0_0 a0_1
theorem furrowref14_constant.mono_l : ∀ k, (∀ y0 y1 y2, LeO (furrowref14_constant.l0 k y0 y1 y2) (furrowref14_constant.l0 (k + 1) y0 y1 y2))
 | 0 => fun _ _ _ r h => by simp [furrowref14_constant.l0] at h
 | k + 1 => by
  have ih0 := furrowref14_constant.mono_l k
  ·intro y0 y1 y2
   unfold furrowref14_constant.l0
   repeat' first
   | (with_reducible exact ih0 _ _ _)
   | (with_reducible exact LeO.refl _)
   | (with_reducible exact LeO.none _)
   | (with_reducible refine LeO.ite ?_ ?_)
   | (with_reducible refine LeO.bind ?_ (fun _ => ?_))
   | exact ih0 _ _ _
   | exact LeO.none _
   | refine LeO.ite ?_ ?_
   | refine LeO.bind ?_ (fun _ => ?_)
theorem furrowref14_constant.mono : ∀ a0 a1 k, LeO (furrowref14_constant.f k a0 a1) (furrowref14_constant.f (k + 1) a0 a1) := by
 intro a0 a1 k
 have ih0 := furrowref14_constant.mono_l k
 unfold furrowref14_constant.f
 repeat' first
   | (with_reducible exact ih0 _ _ _)
   | (with_reducible exact LeO.refl _)
   | (with_reducible exact LeO.none _)
   | (with_reducible refine LeO.ite ?_ ?_)
   | (with_reducible refine LeO.bind ?_ (fun _ => ?_))
   | exact ih0 _ _ _
   | exact LeO.none _
   | refine LeO.ite ?_ ?_
   | refine LeO.bind ?_ (fun _ => ?_)
set_option maxHeartbeats 8000000 in
set_option maxRecDepth 100000 in
theorem furrowref14_constant.calls (k : Nat) (A0_0 : Option Addr) (c0_0 : Nat) (l0_0 : List Int) (a0_1 : Int) (r : Bool) (w : World) (hr0_0 : Kd.C (Kd.int .i64) w A0_0 l0_0.length l0_0) (hc0_0 : l0_0.length ≤ c0_0) (h : furrowref14_constant.f k l0_0 a0_1 = some r) :
  Calls Tryz.prog 31 #[.agg #[.slice A0_0 l0_0.length c0_0, .int .i64 a0_1]] w fun e w' => e = .returned (.bool r) ∧ Below w.heap.size w w' := by
 have hu39 := Tryz.underlying39
 have ag := mk0 hr0_0
 have ao := mk0 hc0_0
 clear hr0_0 hc0_0
 have HB := mk0 (Below.refl w.heap.size w)
 have H : (furrowref14_constant.l0 k 0 l0_0 a0_1) = some r := h
 clear h
 have H' := mk0 H
 clear H
 go_enter Tryz.func31, Tryz.ntmps31
 go_wp2_with (first | ((with_reducible refine gate_dst (N := 1) rfl ?_); refine bxE 1 #[.slice A0_0 l0_0.length c0_0, .int .i64 a0_1] 39 ?_; intro ai hg w2 hbox hb; have ac := mk0 (hbox); have ap := gE (uL HB.out) hg; replace HB := hbB (uL HB.out) hb; clear hb hbox hg))
 go_loopg [3] k (fun kq v3 w' => ∃ (x3_1 : Int), v3 = .int .i64 x3_1 ∧ Aside0 (furrowref14_constant.l0 kq x3_1 l0_0 a0_1 = some r) ∧ Aside0 (kq ≤ k) ∧ Aside0 (w'.heap[ai]? = some (.cells #[(.slice A0_0 l0_0.length c0_0), .int .i64 a0_1] 39 (0, 0))) ∧ Aside0 (Below w.heap.size w w'))
 case atStart => exact ⟨(0), eK, H', ⟨Nat.le_refl _⟩, ⟨uB ac.out⟩, ⟨bH⟩⟩
 case round =>
  clear H'; obtain ⟨x3_1, rfl, HA, ah, ac, HB⟩ := hrel
  cases gk with
  | zero => exact absurd HA.out (by simp [furrowref14_constant.l0])
  | succ k1 =>
   have H := HA.out; clear HA; simp only [furrowref14_constant.l0] at H
   by_cases c3 : x3_1 < (l0_0.length : Int)
   ·rw [if_pos c3] at H
    have aj := decide_eq_true c3; clear c3
    by_cases c4 : 0 ≤ x3_1
    ·rw [if_pos c4] at H
     have aq := decide_eq_true c4; clear c4
     by_cases c5 : (rd l0_0 x3_1) = 0
     ·rw [if_pos c5] at H
      obtain ⟨ak, al⟩ := yQ c5; clear c5; have H' := mk0 H; clear H; obtain ⟨ar, au, av, aw⟩ := cL2 ac; have aa : 0 ≤ (x3_1 : Int) := dY; have ab : x3_1 < (l0_0.length : Int) := dY; obtain ⟨am, af, ae⟩ := Kd.at_int ag.out x3_1 aa ab
      cases af
      replace ae := oC HB ae; replace aa := eq_true aa; replace ab := eq_true ab; go_wp2
      go_roundg k1
      case measure => have := ah.out; omega
      case rel => exact ⟨(wrap64 (x3_1 + 1)), eK, H', ⟨by have := ah.out; omega⟩, ⟨uB ac.out⟩, ⟨bH⟩⟩
     ·rw [if_neg c5] at H
      obtain ⟨ak, al⟩ := nQ c5; obtain rfl := Option.some.inj H; obtain ⟨ax, ay, az, aA⟩ := cL2 ac; have aa : 0 ≤ (x3_1 : Int) := dY; have ab : x3_1 < (l0_0.length : Int) := dY; obtain ⟨am, af, ae⟩ := Kd.at_int ag.out x3_1 aa ab
      cases af
      replace ae := oC HB ae; replace aa := eq_true aa; replace ab := eq_true ab; go_wp2; go_ret; exact ⟨rE, bH⟩
    ·exact nO H c4
   ·rw [if_neg c3] at H
    have aj := decide_eq_false c3; clear c3; obtain rfl := Option.some.inj H; obtain ⟨aC, aD, aE, aG⟩ := cL2 ac; go_wp2; go_ret; exact ⟨rE, bH⟩

/-! ### furrowref4_Sub: function 48 -/
def furrowref4_Sub.f (a0 : Int) (a1 : Int) : Option (Int × Bool) := if a1 < 0 then (if (wrap64 (a0 - a1)) < a0 then (some (0, false)) else (if a1 > 0 then (if (wrap64 (a0 - a1)) > a0 then (some (0, false)) else (some (wrap64 (a0 - a1), true))) else (some (wrap64 (a0 - a1), true)))) else (if a1 > 0 then (if (wrap64 (a0 - a1)) > a0 then (some (0, false)) else (some (wrap64 (a0 - a1), true))) else (some (wrap64 (a0 - a1), true)))
set_option maxHeartbeats 8000000 in
set_option maxRecDepth 100000 in
theorem furrowref4_Sub.calls (a0 : Int) (a1 : Int) (r1 : Int) (r2 : Bool) (w : World) (h : furrowref4_Sub.f a0 a1 = some (r1, r2)) :
  Calls Tryz.prog 48 #[.int .i64 a0, .int .i64 a1] w fun e w' => e = .returned (.tuple #[.int .i64 r1, .bool r2]) ∧ Drawn0 w w' := by
 have H : (if a1 < 0 then (if (wrap64 (a0 - a1)) < a0 then (some (0, false)) else (if a1 > 0 then (if (wrap64 (a0 - a1)) > a0 then (some (0, false)) else (some (wrap64 (a0 - a1), true))) else (some (wrap64 (a0 - a1), true)))) else (if a1 > 0 then (if (wrap64 (a0 - a1)) > a0 then (some (0, false)) else (some (wrap64 (a0 - a1), true))) else (some (wrap64 (a0 - a1), true)))) = some (r1, r2) := h
 clear h
 by_cases c3 : a1 < 0
 ·rw [if_pos c3] at H
  have c3b0 := decide_eq_true c3; clear c3
  by_cases c4 : (wrap64 (a0 - a1)) < a0
  ·rw [if_pos c4] at H
   have c4b0 := decide_eq_true c4; clear c4; simp only [Option.some.injEq, Prod.mk.injEq] at H; obtain ⟨rfl, rfl⟩ := H; go_enter Tryz.func48, Tryz.ntmps48; go_wp2
   go_ret2
   exact ⟨eK, by repeat (first | exact Drawn0.refl _ | apply Drawn0.step)⟩
  ·rw [if_neg c4] at H
   have c4b0 := decide_eq_false c4; clear c4
   by_cases c5 : a1 > 0
   ·rw [if_pos c5] at H
    have c5b0 := decide_eq_true c5; clear c5
    by_cases c6 : (wrap64 (a0 - a1)) > a0
    ·rw [if_pos c6] at H
     have c6b0 := decide_eq_true c6; clear c6; simp only [Option.some.injEq, Prod.mk.injEq] at H; obtain ⟨rfl, rfl⟩ := H; go_enter Tryz.func48, Tryz.ntmps48; go_wp2
     go_ret2
     exact ⟨eK, by repeat (first | exact Drawn0.refl _ | apply Drawn0.step)⟩
    ·rw [if_neg c6] at H
     have c6b0 := decide_eq_false c6; clear c6; simp only [Option.some.injEq, Prod.mk.injEq] at H; obtain ⟨rfl, rfl⟩ := H; go_enter Tryz.func48, Tryz.ntmps48; go_wp2
     go_ret2
     exact ⟨eK, by repeat (first | exact Drawn0.refl _ | apply Drawn0.step)⟩
   ·rw [if_neg c5] at H
    have c5b0 := decide_eq_false c5; clear c5; simp only [Option.some.injEq, Prod.mk.injEq] at H; obtain ⟨rfl, rfl⟩ := H; go_enter Tryz.func48, Tryz.ntmps48; go_wp2
    go_ret2
    exact ⟨eK, by repeat (first | exact Drawn0.refl _ | apply Drawn0.step)⟩
 ·rw [if_neg c3] at H
  have c3b0 := decide_eq_false c3; clear c3
  by_cases c7 : a1 > 0
  ·rw [if_pos c7] at H
   have c7b0 := decide_eq_true c7; clear c7
   by_cases c8 : (wrap64 (a0 - a1)) > a0
   ·rw [if_pos c8] at H
    have c8b0 := decide_eq_true c8; clear c8; simp only [Option.some.injEq, Prod.mk.injEq] at H; obtain ⟨rfl, rfl⟩ := H; go_enter Tryz.func48, Tryz.ntmps48; go_wp2
    go_ret2
    exact ⟨eK, by repeat (first | exact Drawn0.refl _ | apply Drawn0.step)⟩
   ·rw [if_neg c8] at H
    have c8b0 := decide_eq_false c8; clear c8; simp only [Option.some.injEq, Prod.mk.injEq] at H; obtain ⟨rfl, rfl⟩ := H; go_enter Tryz.func48, Tryz.ntmps48; go_wp2
    go_ret2
    exact ⟨eK, by repeat (first | exact Drawn0.refl _ | apply Drawn0.step)⟩
  ·rw [if_neg c7] at H
   have c7b0 := decide_eq_false c7; clear c7; simp only [Option.some.injEq, Prod.mk.injEq] at H; obtain ⟨rfl, rfl⟩ := H; go_enter Tryz.func48, Tryz.ntmps48; go_wp2
   go_ret2
   exact ⟨eK, by repeat (first | exact Drawn0.refl _ | apply Drawn0.step)⟩


/-! ### furrowref14_taken: function 32 -/
def furrowref14_taken.l0 : Nat → Int → List Int → Int → List Int → Int → List Int → Int → Option (List Int × Int × (List (S90)) × Int)
 | 0, _, _, _, _, _, _, _ => none
 | k + 1, x7, x643000, x643001, x644000, x644001, x651000, x651001 => if x7 < (x643000.length : Int) then (if 0 ≤ x7 then (if x7 < (x644000.length : Int) then ((furrowref4_Sub.f (rd x643000 x7) (rd x644000 x7)).bind fun bt653 => (if bt653.2 = true then (if x7 < (x651000.length : Int) then (furrowref14_taken.l0 k (wrap64 (x7 + 1)) x643000 x643001 x644000 x644001 (x651000.set (x7 : Int).toNat bt653.1) x651001) else (none)) else ((furrowref14_over.f).bind fun bt656 => ((furrowref4_Within.f (⟨#[108, 105, 102, 116]⟩ : ByteArray) 0 bt656.1 bt656.2).bind fun bt660 => (some (([] : List Int), 0, bt660.1, bt660.2)))))) else (none)) else (none)) else ((furrowref4_Sub.f x643001 x644001).bind fun bt664 => (if bt664.2 = true then (some (x651000, bt664.1, ([] : List (S90)), 0)) else ((furrowref14_over.f).bind fun bt666 => ((furrowref4_Within.f (⟨#[108, 105, 102, 116]⟩ : ByteArray) 0 bt666.1 bt666.2).bind fun bt670 => (some (([] : List Int), 0, bt670.1, bt670.2))))))
def furrowref14_taken.f (k : Nat) (l0_0 : List Int) (a0_1 : Int) (l1_0 : List Int) (a1_1 : Int) : Option (List Int × Int × (List (S90)) × Int) := (furrowref14_Const.f (l0_0.length : Int) 0).bind fun bt646 => (furrowref14_taken.l0 k 0 l0_0 a0_1 l1_0 a1_1 bt646.1 bt646.2)
theorem furrowref14_taken.mono_l : ∀ k, (∀ y0 y1 y2 y3 y4 y5 y6, LeO (furrowref14_taken.l0 k y0 y1 y2 y3 y4 y5 y6) (furrowref14_taken.l0 (k + 1) y0 y1 y2 y3 y4 y5 y6))
 | 0 => fun _ _ _ _ _ _ _ r h => by simp [furrowref14_taken.l0] at h
 | k + 1 => by
  have ih0 := furrowref14_taken.mono_l k
  ·intro y0 y1 y2 y3 y4 y5 y6
   unfold furrowref14_taken.l0
   repeat' first
   | (with_reducible exact ih0 _ _ _ _ _ _ _)
   | (with_reducible exact LeO.refl _)
   | (with_reducible exact LeO.none _)
   | (with_reducible refine LeO.ite ?_ ?_)
   | (with_reducible refine LeO.bind ?_ (fun _ => ?_))
   | exact ih0 _ _ _ _ _ _ _
   | exact LeO.none _
   | refine LeO.ite ?_ ?_
   | refine LeO.bind ?_ (fun _ => ?_)
theorem furrowref14_taken.mono : ∀ a0 a1 a2 a3 k, LeO (furrowref14_taken.f k a0 a1 a2 a3) (furrowref14_taken.f (k + 1) a0 a1 a2 a3) := by
 intro a0 a1 a2 a3 k
 have ih0 := furrowref14_taken.mono_l k
 unfold furrowref14_taken.f
 repeat' first
   | (with_reducible exact ih0 _ _ _ _ _ _ _)
   | (with_reducible exact LeO.refl _)
   | (with_reducible exact LeO.none _)
   | (with_reducible refine LeO.ite ?_ ?_)
   | (with_reducible refine LeO.bind ?_ (fun _ => ?_))
   | exact ih0 _ _ _ _ _ _ _
   | exact LeO.none _
   | refine LeO.ite ?_ ?_
   | refine LeO.bind ?_ (fun _ => ?_)
set_option maxHeartbeats 8000000 in
set_option maxRecDepth 100000 in
theorem furrowref14_taken.calls (k : Nat) (A0_0 : Option Addr) (c0_0 : Nat) (l0_0 : List Int) (a0_1 : Int) (A1_0 : Option Addr) (c1_0 : Nat) (l1_0 : List Int) (a1_1 : Int) (r1 : List Int) (r2 : Int) (r3 : List (S90)) (r4 : Int) (w : World) (hr0_0 : Kd.C (Kd.int .i64) w A0_0 l0_0.length l0_0) (hc0_0 : l0_0.length ≤ c0_0) (hr1_0 : Kd.C (Kd.int .i64) w A1_0 l1_0.length l1_0) (hc1_0 : l1_0.length ≤ c1_0) (h : furrowref14_taken.f k l0_0 a0_1 l1_0 a1_1 = some (r1, r2, r3, r4)) :
  Calls Tryz.prog 32 #[.agg #[.slice A0_0 l0_0.length c0_0, .int .i64 a0_1], .agg #[.slice A1_0 l1_0.length c1_0, .int .i64 a1_1]] w fun e w' => ∃ v0_ v2_ : Value, e = .returned (.tuple #[.agg #[v0_, .int .i64 r2], .agg #[v2_, .int .i64 r4]]) ∧ Kd.R (Kd.int .i64) 2 w' w.heap.size (fun k_ => (w.heap.size ≤ k_)) v0_ r1 ∧ Kd.V k90 90 w' w.heap.size (fun k_ => (w.heap.size ≤ k_) ∧ some k_ ≠ (v0_ : Value).ownBlock) v2_ r3 ∧ Below w.heap.size w w' := by
 have hu39 := Tryz.underlying39
 have hu42 := Tryz.underlying42
 have cA := mk0 hr0_0
 have eG := mk0 hc0_0
 clear hr0_0 hc0_0
 have cD := mk0 hr1_0
 have eH := mk0 hc1_0
 clear hr1_0 hc1_0
 have HB := mk0 (Below.refl w.heap.size w)
 have H : ((furrowref14_Const.f (l0_0.length : Int) 0).bind fun cE => (furrowref14_taken.l0 k 0 l0_0 a0_1 l1_0 a1_1 cE.1 cE.2)) = some (r1, r2, r3, r4) := h
 clear h
 replace H := Option.bind_eq_some_iff.mp H
 obtain ⟨⟨aV, aD⟩, cF, H⟩ := H
 dsimp only at H
 have A3 := mk0 cF
 clear cF
 have H' := mk0 H
 clear H
 go_enter Tryz.func32, Tryz.ntmps32
 go_wp2_with (first | ((with_reducible refine gate_dst (N := 2) rfl ?_); refine bxE 2 #[.slice A0_0 l0_0.length c0_0, .int .i64 a0_1] 39 ?_; intro cj hg w4 hbox hb; have aa := mk0 (hbox); have cG := gE (uL HB.out) hg; replace HB := hbB (uL HB.out) hb; clear hb hbox hg) | ((with_reducible refine gate_dst (N := 3) rfl ?_); refine bxE 3 #[.slice A1_0 l1_0.length c1_0, .int .i64 a1_1] 39 ?_; intro ck hg w5 hbox hb; have ab := mk0 (hbox); have cH := gE bH hg; replace HB := hbB bH hb; have aE := nL aa hg; have aG := nG aa hg; replace aa := bB aa hb; clear hb hbox hg) | ((with_reducible refine gate_dst (N := 4) rfl ?_); refine bxE 4 #[.slice none 0 0, .int .i64 0] 39 ?_; intro ah hg w6 hbox hb; have ac := mk0 (hbox); have cI := gE bH hg; replace HB := hbB bH hb; have aH := nL aa hg; have aI := nG aa hg; replace aa := bB aa hb; have bh := nL ab hg; have bi := nG ab hg; replace ab := bB ab hb; clear hb hbox hg) | ((with_reducible refine gate_dst (N := 5) rfl ?_); refine bxE 5 #[.slice none 0 0, .int .i64 0] 42 ?_; intro ai hg w7 hbox hb; have ae := mk0 (hbox); have cJ := gE bH hg; replace HB := hbB bH hb; have aJ := nL aa hg; have aK := nG aa hg; replace aa := bB aa hb; have bj := nL ab hg; have bk := nG ab hg; replace ab := bB ab hb; have ax := nL ac hg; have ay := nG ac hg; replace ac := bB ac hb; clear hb hbox hg; have cK := aE.out; have cL := aG.out; have cM := aH.out; have cN := aI.out; have cO := aJ.out; have cP := aK.out; obtain ⟨cl, cm, cn, cp⟩ := cL2 aa) | (go_at_call 27; (with_reducible refine (furrowref14_Const.calls (l0_0.length : Int) 0 aV aD _ A3.out).mono ?_); rintro e cR ⟨cS, rfl, ho0, hb⟩; have av := mk0 (Kd.R_lower (Kd.R_newM (M := fun k_ => (w.heap.size ≤ k_)) ho0 (below_size bH) (fun k_ h_ => h_)) (below_size bH)); replace aa := bB aa hb; replace ab := bB ab hb; replace ac := bB ac hb; replace ae := bB ae hb; replace HB := hbB bH hb; (try clear hb ho0); obtain ⟨bl, bm, bF⟩ := Kd.R_slice av.out; subst bF) | ((with_reducible refine gate_dst (N := 6) rfl ?_); refine bxS 6 #[.slice bl aV.length bm, .int .i64 aD] 39 ?_; intro b4 hg cT hbox hb; replace av := rB av hb; have af := mk0 (hbox); have cU := gE bH hg; replace HB := hbB bH hb; have bn := nL aa hg; have bo := nG aa hg; replace aa := bB aa hb; have bp := nL ab hg; have bq := nG ab hg; replace ab := bB ab hb; have am := nL ac hg; have ao := nG ac hg; replace ac := bB ac hb; have ap := nL ae hg; have aq := nG ae hg; replace ae := bB ae hb; clear hb hbox hg))
 go_loopg [7] k (fun kq v7 w' => ∃ (x7_1 : Int) (aM : Int) (aN : Int) (ar : List Int) (cq : Value), v7 = .int .i64 x7_1 ∧ Aside0 (furrowref14_taken.l0 kq x7_1 l0_0 a0_1 l1_0 a1_1 ar aD = some (r1, r2, r3, r4)) ∧ Aside0 (kq ≤ k) ∧ Aside0 (Kd.R (Kd.int .i64) 2 w' w.heap.size (fun k_ => (w.heap.size ≤ k_)) cq ar) ∧ Aside0 (w'.heap[cj]? = some (.cells #[(.slice A0_0 l0_0.length c0_0), .int .i64 a0_1] 39 (0, 0))) ∧ Aside0 (w'.heap[ck]? = some (.cells #[(.slice A1_0 l1_0.length c1_0), .int .i64 a1_1] 39 (0, 0))) ∧ Aside0 (w'.heap[ah]? = some (.cells #[(.slice none 0 0), .int .i64 aM] 39 (0, 0))) ∧ Aside0 (w'.heap[ai]? = some (.cells #[(.slice none 0 0), .int .i64 aN] 42 (0, 0))) ∧ Aside0 (w'.heap[b4]? = some (.cells #[cq, .int .i64 aD] 39 (0, 0))) ∧ Aside0 (Below w.heap.size w w'))
 case atStart => exact ⟨(0), (0), (0), (aV), (.slice bl aV.length bm), eK, H', ⟨Nat.le_refl _⟩, ⟨uR (Kd.R_mono av.out (fun _ hk => hk.1))⟩, ⟨uB aa.out⟩, ⟨uB ab.out⟩, ⟨uB ac.out⟩, ⟨uB ae.out⟩, ⟨uB af.out⟩, ⟨bH⟩⟩
 case round =>
  clear H'; (try clear cl cm cn cp); obtain ⟨x7_1, aM, aN, ar, cq, rfl, HA, cV, ag, aa, ab, ac, ae, af, HB⟩ := hrel
  cases gk with
  | zero => exact absurd HA.out (by simp [furrowref14_taken.l0])
  | succ k1 =>
   have H := HA.out; clear HA; simp only [furrowref14_taken.l0] at H
   by_cases br : x7_1 < (l0_0.length : Int)
   ·rw [if_pos br] at H
    have eB := decide_eq_true br; clear br
    by_cases b5 : 0 ≤ x7_1
    ·rw [if_pos b5] at H
     have eI := decide_eq_true b5; clear b5
     by_cases b6 : x7_1 < (l1_0.length : Int)
     ·rw [if_pos b6] at H
      have eJ := decide_eq_true b6; clear b6; replace H := Option.bind_eq_some_iff.mp H; obtain ⟨⟨al, eC⟩, cW, H⟩ := H; dsimp only at H; have bs := mk0 cW; clear cW
      by_cases b7 : eC = true
      ·subst b7
       replace H := iT H
       by_cases b8 : x7_1 < (ar.length : Int)
       ·rw [if_pos b8] at H
        have eL := decide_eq_true b8; clear b8; obtain ⟨bG, cr⟩ : ∃ y_ : List Int, y_ = (ar.set (x7_1 : Int).toNat al) := ⟨_, rfl⟩; (replace H : (furrowref14_taken.l0 k1 (wrap64 (x7_1 + 1)) l0_0 a0_1 l1_0 a1_1 bG aD) = some (r1, r2, r3, r4) := by (try rw [cr]); first | with_reducible exact H | with_reducible exact oN H | exact H); have ct := mk0 cr; clear cr; have H' := mk0 H; clear H; have eM := aE.out; have eN := aG.out; have eO := aH.out; have eP := aI.out; have eQ := aJ.out; have eR := aK.out; have eS := bn.out; have eT := bo.out; obtain ⟨eU, eV, eW, eX⟩ := cL2 aa; have aZ : 0 ≤ (x7_1 : Int) := dY; have a_ : x7_1 < (l0_0.length : Int) := dY; obtain ⟨eD, cu, bI⟩ := Kd.at_int cA.out x7_1 aZ a_
        cases cu
        replace bI := oC HB bI; replace aZ := eq_true aZ; replace a_ := eq_true a_; have eY := bh.out; have eZ := bi.out; have e6 := bj.out; have e7 := bk.out; have e8 := bp.out; have e9 := bq.out; obtain ⟨fa, fb, fc, fd⟩ := cL2 ab; have bf : 0 ≤ (x7_1 : Int) := dY; have bg : x7_1 < (l1_0.length : Int) := dY; obtain ⟨eE, cv, bJ⟩ := Kd.at_int cD.out x7_1 bf bg
        cases cv
        replace bJ := oC HB bJ; replace bf := eq_true bf; replace bg := eq_true bg
        go_wp2_with (first | (go_at_call 48; (with_reducible refine (furrowref4_Sub.calls (rd l0_0 x7_1) (rd l1_0 x7_1) al true _ bs.out).mono ?_); rintro e w' ⟨rfl, ⟨nd, rfl⟩⟩; (try first | exact ⟨rfl, _, World.drewN_drewN _ _ _⟩ | exact ⟨rfl, _, Eq.trans (World.drewN_drewN _ _ _) (congrArg (World.drewN _) (Nat.add_assoc _ _ _))⟩); have cX := ao.out; have cY := am.out; have cZ := aq.out; have c_ := ap.out; obtain ⟨da, db, dc, dd⟩ := cL2 af; have az : 0 ≤ (x7_1 : Int) := dY; have aA : (x7_1 : Int) < ((ar.length : Int) : Int) := dY; obtain ⟨aw, bu, aW, aX, gl21, cl21, aY⟩ := Kd.R_form ag.out (by omega); (first | cases aW | (injection aW with ea_ en_ ec_; (first | subst ea_ | (injection ea_ with ea_; subst ea_)); subst ec_; clear en_)); have bK := mk0 aX; have GG21 := mk0 aY; clear aX gl21 aY; obtain ⟨de, df⟩ := Kd.R_celln 0 ag.out (x7_1 : Int) az aA; replace az := eq_true az; replace aA := eq_true aA; obtain ⟨hy34_, hz34_⟩ := Kd.R_celln 0 ag.out (x7_1 : Int) (dY) (dY); have au := Kd.R_putg ag.out (x7_1 : Int) al) | ((with_reducible refine gate_store (t := 2) (p := 46) rfl ?_); (try (rw [drewN_self wr]; generalize hq_ : World.drewN wr _ = wr; have n0_ := mk0 (Kd.R_at hq_ ag.out); have n1_ := mk0 (blk_at hq_ aa.out); have n2_ := mk0 (blk_at hq_ ab.out); have n3_ := mk0 (blk_at hq_ ac.out); have n4_ := mk0 (blk_at hq_ ae.out); have n5_ := mk0 (blk_at hq_ af.out); have n6_ := mk0 (below_at hq_ HB.out); clear hq_ ag aa ab ac ae af HB; have ag := n0_; have aa := n1_; have ab := n2_; have ac := n3_; have ae := n4_; have af := n5_; have HB := n6_; clear n0_ n1_ n2_ n3_ n4_ n5_ n6_; (try (obtain ⟨hy34_, hz34_⟩ := Kd.R_celln 0 ag.out (x7_1 : Int) (dY) (dY))); (try (have au := Kd.R_putg ag.out (x7_1 : Int) al)))); refine store_event (t := 2) (p := 46) (v := ?vo_w35) (w1 := (wr.setCell ⟨aw, (x7_1 : Int).toNat, none⟩ (.int .i64 al))) ?hg ?ho ?hn ?hr ?_; (case ho => rfl); (case hg => rfl); (case hn => rfl); (case hr => first | (go_simp; done) | (go_simp; rfl)); intro aC hw; have hg : wr.grownBy aC (some aw) := (by rw [hw]; exact au.2); have hp_ : Kd.R (Kd.int .i64) 2 aC w.heap.size (fun k_ => (w.heap.size ≤ k_)) (.slice (some ⟨aw, 0, none⟩) ar.length bu) bG := (by rw [hw, ct.out]; exact au.1); clear au; replace aa := (gB aa hg (Kd.R_ne ag.out aa.out (by decide))); replace ab := (gB ab hg (Kd.R_ne ag.out ab.out (by decide))); replace ac := (gB ac hg (Kd.R_ne ag.out ac.out (by decide))); replace ae := (gB ae hg (Kd.R_ne ag.out ae.out (by decide))); replace af := (gB af hg (Kd.R_ne ag.out af.out (by decide))); replace ag := mk0 (hp_); replace HB := mk0 ((by rw [hw]; exact below_set (HB.out) bK.out : Below w.heap.size w aC)); clear hg hw hp_))
        (repeat (go_quiet (first | (go_at_call 48; (with_reducible refine (furrowref4_Sub.calls (rd l0_0 x7_1) (rd l1_0 x7_1) al true _ bs.out).mono ?_); rintro e w' ⟨rfl, ⟨nd, rfl⟩⟩; (try first | exact ⟨rfl, _, World.drewN_drewN _ _ _⟩ | exact ⟨rfl, _, Eq.trans (World.drewN_drewN _ _ _) (congrArg (World.drewN _) (Nat.add_assoc _ _ _))⟩); have cX := ao.out; have cY := am.out; have cZ := aq.out; have c_ := ap.out; obtain ⟨da, db, dc, dd⟩ := cL2 af; have az : 0 ≤ (x7_1 : Int) := dY; have aA : (x7_1 : Int) < ((ar.length : Int) : Int) := dY; obtain ⟨aw, bu, aW, aX, gl21, cl21, aY⟩ := Kd.R_form ag.out (by omega); (first | cases aW | (injection aW with ea_ en_ ec_; (first | subst ea_ | (injection ea_ with ea_; subst ea_)); subst ec_; clear en_)); have bK := mk0 aX; have GG21 := mk0 aY; clear aX gl21 aY; obtain ⟨de, df⟩ := Kd.R_celln 0 ag.out (x7_1 : Int) az aA; replace az := eq_true az; replace aA := eq_true aA; obtain ⟨hy34_, hz34_⟩ := Kd.R_celln 0 ag.out (x7_1 : Int) (dY) (dY); have au := Kd.R_putg ag.out (x7_1 : Int) al) | ((with_reducible refine gate_store (t := 2) (p := 46) rfl ?_); (try (rw [drewN_self wr]; generalize hq_ : World.drewN wr _ = wr; have n0_ := mk0 (Kd.R_at hq_ ag.out); have n1_ := mk0 (blk_at hq_ aa.out); have n2_ := mk0 (blk_at hq_ ab.out); have n3_ := mk0 (blk_at hq_ ac.out); have n4_ := mk0 (blk_at hq_ ae.out); have n5_ := mk0 (blk_at hq_ af.out); have n6_ := mk0 (below_at hq_ HB.out); clear hq_ ag aa ab ac ae af HB; have ag := n0_; have aa := n1_; have ab := n2_; have ac := n3_; have ae := n4_; have af := n5_; have HB := n6_; clear n0_ n1_ n2_ n3_ n4_ n5_ n6_; (try (obtain ⟨hy34_, hz34_⟩ := Kd.R_celln 0 ag.out (x7_1 : Int) (dY) (dY))); (try (have au := Kd.R_putg ag.out (x7_1 : Int) al)))); refine store_event (t := 2) (p := 46) (v := ?vo_w35) (w1 := (wr.setCell ⟨aw, (x7_1 : Int).toNat, none⟩ (.int .i64 al))) ?hg ?ho ?hn ?hr ?_; (case ho => rfl); (case hg => rfl); (case hn => rfl); (case hr => first | (go_simp; done) | (go_simp; rfl)); intro aC hw; have hg : wr.grownBy aC (some aw) := (by rw [hw]; exact au.2); have hp_ : Kd.R (Kd.int .i64) 2 aC w.heap.size (fun k_ => (w.heap.size ≤ k_)) (.slice (some ⟨aw, 0, none⟩) ar.length bu) bG := (by rw [hw, ct.out]; exact au.1); clear au; replace aa := (gB aa hg (Kd.R_ne ag.out aa.out (by decide))); replace ab := (gB ab hg (Kd.R_ne ag.out ab.out (by decide))); replace ac := (gB ac hg (Kd.R_ne ag.out ac.out (by decide))); replace ae := (gB ae hg (Kd.R_ne ag.out ae.out (by decide))); replace af := (gB af hg (Kd.R_ne ag.out af.out (by decide))); replace ag := mk0 (hp_); replace HB := mk0 ((by rw [hw]; exact below_set (HB.out) bK.out : Below w.heap.size w aC)); clear hg hw hp_)); try go_wp2_with (first | (go_at_call 48; (with_reducible refine (furrowref4_Sub.calls (rd l0_0 x7_1) (rd l1_0 x7_1) al true _ bs.out).mono ?_); rintro e w' ⟨rfl, ⟨nd, rfl⟩⟩; (try first | exact ⟨rfl, _, World.drewN_drewN _ _ _⟩ | exact ⟨rfl, _, Eq.trans (World.drewN_drewN _ _ _) (congrArg (World.drewN _) (Nat.add_assoc _ _ _))⟩); have cX := ao.out; have cY := am.out; have cZ := aq.out; have c_ := ap.out; obtain ⟨da, db, dc, dd⟩ := cL2 af; have az : 0 ≤ (x7_1 : Int) := dY; have aA : (x7_1 : Int) < ((ar.length : Int) : Int) := dY; obtain ⟨aw, bu, aW, aX, gl21, cl21, aY⟩ := Kd.R_form ag.out (by omega); (first | cases aW | (injection aW with ea_ en_ ec_; (first | subst ea_ | (injection ea_ with ea_; subst ea_)); subst ec_; clear en_)); have bK := mk0 aX; have GG21 := mk0 aY; clear aX gl21 aY; obtain ⟨de, df⟩ := Kd.R_celln 0 ag.out (x7_1 : Int) az aA; replace az := eq_true az; replace aA := eq_true aA; obtain ⟨hy34_, hz34_⟩ := Kd.R_celln 0 ag.out (x7_1 : Int) (dY) (dY); have au := Kd.R_putg ag.out (x7_1 : Int) al) | ((with_reducible refine gate_store (t := 2) (p := 46) rfl ?_); (try (rw [drewN_self wr]; generalize hq_ : World.drewN wr _ = wr; have n0_ := mk0 (Kd.R_at hq_ ag.out); have n1_ := mk0 (blk_at hq_ aa.out); have n2_ := mk0 (blk_at hq_ ab.out); have n3_ := mk0 (blk_at hq_ ac.out); have n4_ := mk0 (blk_at hq_ ae.out); have n5_ := mk0 (blk_at hq_ af.out); have n6_ := mk0 (below_at hq_ HB.out); clear hq_ ag aa ab ac ae af HB; have ag := n0_; have aa := n1_; have ab := n2_; have ac := n3_; have ae := n4_; have af := n5_; have HB := n6_; clear n0_ n1_ n2_ n3_ n4_ n5_ n6_; (try (obtain ⟨hy34_, hz34_⟩ := Kd.R_celln 0 ag.out (x7_1 : Int) (dY) (dY))); (try (have au := Kd.R_putg ag.out (x7_1 : Int) al)))); refine store_event (t := 2) (p := 46) (v := ?vo_w35) (w1 := (wr.setCell ⟨aw, (x7_1 : Int).toNat, none⟩ (.int .i64 al))) ?hg ?ho ?hn ?hr ?_; (case ho => rfl); (case hg => rfl); (case hn => rfl); (case hr => first | (go_simp; done) | (go_simp; rfl)); intro aC hw; have hg : wr.grownBy aC (some aw) := (by rw [hw]; exact au.2); have hp_ : Kd.R (Kd.int .i64) 2 aC w.heap.size (fun k_ => (w.heap.size ≤ k_)) (.slice (some ⟨aw, 0, none⟩) ar.length bu) bG := (by rw [hw, ct.out]; exact au.1); clear au; replace aa := (gB aa hg (Kd.R_ne ag.out aa.out (by decide))); replace ab := (gB ab hg (Kd.R_ne ag.out ab.out (by decide))); replace ac := (gB ac hg (Kd.R_ne ag.out ac.out (by decide))); replace ae := (gB ae hg (Kd.R_ne ag.out ae.out (by decide))); replace af := (gB af hg (Kd.R_ne ag.out af.out (by decide))); replace ag := mk0 (hp_); replace HB := mk0 ((by rw [hw]; exact below_set (HB.out) bK.out : Below w.heap.size w aC)); clear hg hw hp_))))
        go_roundg k1
        case measure => have := cV.out; omega
        case rel => exact ⟨(wrap64 (x7_1 + 1)), (aM), (aN), (bG), (.slice (some ⟨aw, 0, none⟩) ar.length bu), eK, H', ⟨by have := cV.out; omega⟩, ⟨uR ag.out⟩, ⟨uB aa.out⟩, ⟨uB ab.out⟩, ⟨uB ac.out⟩, ⟨uB ae.out⟩, ⟨uB af.out⟩, ⟨bH⟩⟩
       ·exact nO H b8
      ·replace b7 := Bool.eq_false_iff.mpr b7
       subst b7; replace H := iF H; replace H := Option.bind_eq_some_iff.mp H; obtain ⟨⟨aQ, bv⟩, dh, H⟩ := H; dsimp only at H; have cw := mk0 dh; clear dh; replace H := Option.bind_eq_some_iff.mp H; obtain ⟨⟨bL, bM⟩, di, H⟩ := H; dsimp only at H; have cx := mk0 di; clear di; simp only [Option.some.injEq, Prod.mk.injEq] at H; obtain ⟨rfl, rfl, rfl, rfl⟩ := H; have fe := aE.out; have ff := aG.out; have fh := aH.out; have fi := aI.out; have fj := aJ.out; have fk := aK.out; have fm := bn.out; have fo := bo.out; obtain ⟨fp, fq, ft, fu⟩ := cL2 aa; have aZ : 0 ≤ (x7_1 : Int) := dY; have a_ : x7_1 < (l0_0.length : Int) := dY; obtain ⟨eD, cu, bI⟩ := Kd.at_int cA.out x7_1 aZ a_
       cases cu
       replace bI := oC HB bI; replace aZ := eq_true aZ; replace a_ := eq_true a_; have fv := bh.out; have fw := bi.out; have fx := bj.out; have fy := bk.out; have fz := bp.out; have fA := bq.out; obtain ⟨fC, fD, fE, fF⟩ := cL2 ab; have bf : 0 ≤ (x7_1 : Int) := dY; have bg : x7_1 < (l1_0.length : Int) := dY; obtain ⟨eE, cv, bJ⟩ := Kd.at_int cD.out x7_1 bf bg
       cases cv
       replace bJ := oC HB bJ; replace bf := eq_true bf; replace bg := eq_true bg
       go_wp2_with (first | (go_at_call 48; (with_reducible refine (furrowref4_Sub.calls (rd l0_0 x7_1) (rd l1_0 x7_1) al false _ bs.out).mono ?_); rintro e w' ⟨rfl, ⟨nd, rfl⟩⟩; (try first | exact ⟨rfl, _, World.drewN_drewN _ _ _⟩ | exact ⟨rfl, _, Eq.trans (World.drewN_drewN _ _ _) (congrArg (World.drewN _) (Nat.add_assoc _ _ _))⟩); clear ag) | (go_at_call 49; (with_reducible refine (furrowref14_over.calls  aQ bv _ cw.out).mono ?_); rintro e dj ⟨dl, rfl, ho0, hb⟩; have aj := mk0 (Kd.R_lower (Kd.R_newM (M := fun k_ => (w.heap.size ≤ k_)) ho0 (below_size bH) (fun k_ h_ => h_)) (below_size bH)); replace aa := bB aa hb; replace ab := bB ab hb; replace ac := bB ac hb; replace ae := bB ae hb; replace af := bB af hb; replace HB := hbB bH hb; (try clear hb ho0); obtain ⟨bO, bP, bQ⟩ := Kd.R_slice aj.out; subst bQ) | (go_at_call 34; (with_reducible refine (furrowref4_Within.calls (⟨#[108, 105, 102, 116]⟩ : ByteArray) 0 (fun k_ => some k_ = (.slice bO aQ.length bP : Value).ownBlock) _ _ aQ bv bL bM _ ?side1 cx.out).mono ?_); (case side1 => exact Kd.R_V (Kd.R_tight rfl aj.out)); rintro e dn ⟨dp, rfl, ho0, hb⟩; have bw := mk0 (Kd.V_lower (Kd.V_mono (ok' := fun k_ => (w.heap.size ≤ k_) ∧ k_ ≠ ah ∧ k_ ≠ ai) ho0 (fun k_ hk_ => ⟨Or.elim hk_ (fun hs_ => ((Kd.R_types (Kd.R_types (Kd.R_types (Kd.R_types (Kd.R_types (aj.out) aa.out (by decide)) ab.out (by decide)) ac.out (by decide)) ae.out (by decide)) af.out (by decide)).1 k_ hs_.symm).1.1.1.1.1.1) (fun hn_ => (Nat.le_trans (below_size bH) hn_)), Or.elim hk_ (fun hs_ => ((Kd.R_types (Kd.R_types (Kd.R_types (Kd.R_types (Kd.R_types (aj.out) aa.out (by decide)) ab.out (by decide)) ac.out (by decide)) ae.out (by decide)) af.out (by decide)).1 k_ hs_.symm).1.1.2) (fun hn_ => (Kd.freshB (g := ah) (o := .cells #[.slice none 0 0, .int .i64 aM] 39 (0, 0)) (uB ac.out) k_ hn_)), Or.elim hk_ (fun hs_ => ((Kd.R_types (Kd.R_types (Kd.R_types (Kd.R_types (Kd.R_types (aj.out) aa.out (by decide)) ab.out (by decide)) ac.out (by decide)) ae.out (by decide)) af.out (by decide)).1 k_ hs_.symm).1.2) (fun hn_ => (Kd.freshB (g := ai) (o := .cells #[.slice none 0 0, .int .i64 aN] 42 (0, 0)) (uB ae.out) k_ hn_))⟩)) (below_size bH)); replace aj := rB aj hb; replace aa := bB aa hb; replace ab := bB ab hb; replace ac := bB ac hb; replace ae := bB ae hb; replace af := bB af hb; replace HB := hbB bH hb; (try clear hb ho0); have dq := ax.out; have dr := ay.out; have dt := am.out; have du := ao.out; obtain ⟨dv, dw, dz, dA⟩ := cL2 ac; obtain ⟨b9, cd, bR⟩ := Kd.V_slice bw.out; subst bR; have dB := ap.out; have dC := aq.out; obtain ⟨dD, dE, dF, dG⟩ := cL2 ae))
       (repeat (go_quiet (first | (go_at_call 48; (with_reducible refine (furrowref4_Sub.calls (rd l0_0 x7_1) (rd l1_0 x7_1) al false _ bs.out).mono ?_); rintro e w' ⟨rfl, ⟨nd, rfl⟩⟩; (try first | exact ⟨rfl, _, World.drewN_drewN _ _ _⟩ | exact ⟨rfl, _, Eq.trans (World.drewN_drewN _ _ _) (congrArg (World.drewN _) (Nat.add_assoc _ _ _))⟩); clear ag) | (go_at_call 49; (with_reducible refine (furrowref14_over.calls  aQ bv _ cw.out).mono ?_); rintro e dj ⟨dl, rfl, ho0, hb⟩; have aj := mk0 (Kd.R_lower (Kd.R_newM (M := fun k_ => (w.heap.size ≤ k_)) ho0 (below_size bH) (fun k_ h_ => h_)) (below_size bH)); replace aa := bB aa hb; replace ab := bB ab hb; replace ac := bB ac hb; replace ae := bB ae hb; replace af := bB af hb; replace HB := hbB bH hb; (try clear hb ho0); obtain ⟨bO, bP, bQ⟩ := Kd.R_slice aj.out; subst bQ) | (go_at_call 34; (with_reducible refine (furrowref4_Within.calls (⟨#[108, 105, 102, 116]⟩ : ByteArray) 0 (fun k_ => some k_ = (.slice bO aQ.length bP : Value).ownBlock) _ _ aQ bv bL bM _ ?side1 cx.out).mono ?_); (case side1 => exact Kd.R_V (Kd.R_tight rfl aj.out)); rintro e dn ⟨dp, rfl, ho0, hb⟩; have bw := mk0 (Kd.V_lower (Kd.V_mono (ok' := fun k_ => (w.heap.size ≤ k_) ∧ k_ ≠ ah ∧ k_ ≠ ai) ho0 (fun k_ hk_ => ⟨Or.elim hk_ (fun hs_ => ((Kd.R_types (Kd.R_types (Kd.R_types (Kd.R_types (Kd.R_types (aj.out) aa.out (by decide)) ab.out (by decide)) ac.out (by decide)) ae.out (by decide)) af.out (by decide)).1 k_ hs_.symm).1.1.1.1.1.1) (fun hn_ => (Nat.le_trans (below_size bH) hn_)), Or.elim hk_ (fun hs_ => ((Kd.R_types (Kd.R_types (Kd.R_types (Kd.R_types (Kd.R_types (aj.out) aa.out (by decide)) ab.out (by decide)) ac.out (by decide)) ae.out (by decide)) af.out (by decide)).1 k_ hs_.symm).1.1.2) (fun hn_ => (Kd.freshB (g := ah) (o := .cells #[.slice none 0 0, .int .i64 aM] 39 (0, 0)) (uB ac.out) k_ hn_)), Or.elim hk_ (fun hs_ => ((Kd.R_types (Kd.R_types (Kd.R_types (Kd.R_types (Kd.R_types (aj.out) aa.out (by decide)) ab.out (by decide)) ac.out (by decide)) ae.out (by decide)) af.out (by decide)).1 k_ hs_.symm).1.2) (fun hn_ => (Kd.freshB (g := ai) (o := .cells #[.slice none 0 0, .int .i64 aN] 42 (0, 0)) (uB ae.out) k_ hn_))⟩)) (below_size bH)); replace aj := rB aj hb; replace aa := bB aa hb; replace ab := bB ab hb; replace ac := bB ac hb; replace ae := bB ae hb; replace af := bB af hb; replace HB := hbB bH hb; (try clear hb ho0); have dq := ax.out; have dr := ay.out; have dt := am.out; have du := ao.out; obtain ⟨dv, dw, dz, dA⟩ := cL2 ac; obtain ⟨b9, cd, bR⟩ := Kd.V_slice bw.out; subst bR; have dB := ap.out; have dC := aq.out; obtain ⟨dD, dE, dF, dG⟩ := cL2 ae)); try go_wp2_with (first | (go_at_call 48; (with_reducible refine (furrowref4_Sub.calls (rd l0_0 x7_1) (rd l1_0 x7_1) al false _ bs.out).mono ?_); rintro e w' ⟨rfl, ⟨nd, rfl⟩⟩; (try first | exact ⟨rfl, _, World.drewN_drewN _ _ _⟩ | exact ⟨rfl, _, Eq.trans (World.drewN_drewN _ _ _) (congrArg (World.drewN _) (Nat.add_assoc _ _ _))⟩); clear ag) | (go_at_call 49; (with_reducible refine (furrowref14_over.calls  aQ bv _ cw.out).mono ?_); rintro e dj ⟨dl, rfl, ho0, hb⟩; have aj := mk0 (Kd.R_lower (Kd.R_newM (M := fun k_ => (w.heap.size ≤ k_)) ho0 (below_size bH) (fun k_ h_ => h_)) (below_size bH)); replace aa := bB aa hb; replace ab := bB ab hb; replace ac := bB ac hb; replace ae := bB ae hb; replace af := bB af hb; replace HB := hbB bH hb; (try clear hb ho0); obtain ⟨bO, bP, bQ⟩ := Kd.R_slice aj.out; subst bQ) | (go_at_call 34; (with_reducible refine (furrowref4_Within.calls (⟨#[108, 105, 102, 116]⟩ : ByteArray) 0 (fun k_ => some k_ = (.slice bO aQ.length bP : Value).ownBlock) _ _ aQ bv bL bM _ ?side1 cx.out).mono ?_); (case side1 => exact Kd.R_V (Kd.R_tight rfl aj.out)); rintro e dn ⟨dp, rfl, ho0, hb⟩; have bw := mk0 (Kd.V_lower (Kd.V_mono (ok' := fun k_ => (w.heap.size ≤ k_) ∧ k_ ≠ ah ∧ k_ ≠ ai) ho0 (fun k_ hk_ => ⟨Or.elim hk_ (fun hs_ => ((Kd.R_types (Kd.R_types (Kd.R_types (Kd.R_types (Kd.R_types (aj.out) aa.out (by decide)) ab.out (by decide)) ac.out (by decide)) ae.out (by decide)) af.out (by decide)).1 k_ hs_.symm).1.1.1.1.1.1) (fun hn_ => (Nat.le_trans (below_size bH) hn_)), Or.elim hk_ (fun hs_ => ((Kd.R_types (Kd.R_types (Kd.R_types (Kd.R_types (Kd.R_types (aj.out) aa.out (by decide)) ab.out (by decide)) ac.out (by decide)) ae.out (by decide)) af.out (by decide)).1 k_ hs_.symm).1.1.2) (fun hn_ => (Kd.freshB (g := ah) (o := .cells #[.slice none 0 0, .int .i64 aM] 39 (0, 0)) (uB ac.out) k_ hn_)), Or.elim hk_ (fun hs_ => ((Kd.R_types (Kd.R_types (Kd.R_types (Kd.R_types (Kd.R_types (aj.out) aa.out (by decide)) ab.out (by decide)) ac.out (by decide)) ae.out (by decide)) af.out (by decide)).1 k_ hs_.symm).1.2) (fun hn_ => (Kd.freshB (g := ai) (o := .cells #[.slice none 0 0, .int .i64 aN] 42 (0, 0)) (uB ae.out) k_ hn_))⟩)) (below_size bH)); replace aj := rB aj hb; replace aa := bB aa hb; replace ab := bB ab hb; replace ac := bB ac hb; replace ae := bB ae hb; replace af := bB af hb; replace HB := hbB bH hb; (try clear hb ho0); have dq := ax.out; have dr := ay.out; have dt := am.out; have du := ao.out; obtain ⟨dv, dw, dz, dA⟩ := cL2 ac; obtain ⟨b9, cd, bR⟩ := Kd.V_slice bw.out; subst bR; have dB := ap.out; have dC := aq.out; obtain ⟨dD, dE, dF, dG⟩ := cL2 ae))))
       refine bodyPost_ret (results_cc rfl _ _ ah ai 39 42 #[.slice none 0 0, .int .i64 0] #[.slice b9 bL.length cd, .int .i64 bM] (0, 0) (0, 0) _ _ rfl (kB) Tryz.underlying39 rfl (by kernel_rfl) rfl (kB) Tryz.underlying42 rfl (by kernel_rfl)) rfl ?_; exact ⟨_, _, rE, nK, uV (Kd.V_mono (Kd.V_far (p := ⟨ai, 1, none⟩) (Kd.V_far (p := ⟨ai, 0, none⟩) (Kd.V_far (p := ⟨ah, 1, none⟩) (Kd.V_far (p := ⟨ah, 0, none⟩) (Kd.V_mono (Kd.V_mono bw.out (fun k_ hk => (⟨hk, hk.2.1⟩ : _ ∧ k_ ≠ ah))) (fun k_ hk => (⟨hk, hk.1.2.2⟩ : _ ∧ k_ ≠ ai))) (fun _ hk => hk.1.2) (.slice none 0 0)) (fun _ hk => hk.1.2) (.int .i64 0)) (fun _ hk => hk.2) (.slice b9 bL.length cd)) (fun _ hk => hk.2) (.int .i64 bM)) (fun _ hk => ⟨hk.1.1.1, (by simp [Value.ownBlock])⟩)), bH⟩
     ·exact nO H b6
    ·exact nO H b5
   ·rw [if_neg br] at H
    have eB := decide_eq_false br; clear br; replace H := Option.bind_eq_some_iff.mp H; obtain ⟨⟨aT, eF⟩, dH, H⟩ := H; dsimp only at H; have bz := mk0 dH; clear dH
    by_cases ce : eF = true
    ·subst ce
     replace H := iT H; simp only [Option.some.injEq, Prod.mk.injEq] at H; obtain ⟨rfl, rfl, rfl, rfl⟩ := H; have fG := aE.out; have fH := aG.out; have fI := aH.out; have fJ := aI.out; have fK := aJ.out; have fL := aK.out; have fM := bn.out; have fN := bo.out; obtain ⟨fO, fP, fQ, fR⟩ := cL2 aa; have fS := bh.out; have fT := bi.out; have fU := bj.out; have fV := bk.out; have fW := bp.out; have fX := bq.out; obtain ⟨fY, fZ, f5, f_⟩ := cL2 ab
     go_wp2_with (first | (go_at_call 48; (with_reducible refine (furrowref4_Sub.calls a0_1 a1_1 aT true _ bz.out).mono ?_); rintro e w' ⟨rfl, ⟨nd, rfl⟩⟩; (try first | exact ⟨rfl, _, World.drewN_drewN _ _ _⟩ | exact ⟨rfl, _, Eq.trans (World.drewN_drewN _ _ _) (congrArg (World.drewN _) (Nat.add_assoc _ _ _))⟩); have dI := ao.out; have dJ := am.out; have dK := aq.out; have dL := ap.out; obtain ⟨dM, dN, dO, dP⟩ := cL2 af; obtain ⟨cf, cg, bT⟩ := Kd.R_slice ag.out; subst bT; have dQ := ax.out; have dR := ay.out; obtain ⟨dS, dT, dU, dV⟩ := cL2 ac; obtain ⟨dW, dX, dZ, d6⟩ := cL2 ae))
     refine bodyPost_ret (results_cc rfl _ _ ah ai 39 42 #[.slice cf ar.length cg, .int .i64 aT] #[.slice none 0 0, .int .i64 0] (0, 0) (0, 0) _ _ rfl (kB) Tryz.underlying39 rfl (by kernel_rfl) rfl (kB) Tryz.underlying42 rfl (by kernel_rfl)) rfl ?_; exact ⟨_, _, rE, uR (Kd.R_mono (Kd.R_far (p := ⟨ai, 1, none⟩) (Kd.R_far (p := ⟨ai, 0, none⟩) (Kd.R_far (p := ⟨ah, 1, none⟩) (Kd.R_far (p := ⟨ah, 0, none⟩) (Kd.R_far (p := ⟨b4, 1, none⟩) (Kd.R_types (Kd.R_types (Kd.R_types ag.out af.out (by decide)) ac.out (by decide)) ae.out (by decide)) (fun _ hk => hk.1.1.2) (.int .i64 aT)) (fun _ hk => hk.1.2) (.slice cf ar.length cg)) (fun _ hk => hk.1.2) (.int .i64 aT)) (fun _ hk => hk.2) (.slice none 0 0)) (fun _ hk => hk.2) (.int .i64 0)) (fun _ hk => hk.1.1.1)), nK, bH⟩
    ·replace ce := Bool.eq_false_iff.mpr ce
     subst ce; replace H := iF H; replace H := Option.bind_eq_some_iff.mp H; obtain ⟨⟨aU, bC⟩, d7, H⟩ := H; dsimp only at H; have cy := mk0 d7; clear d7; replace H := Option.bind_eq_some_iff.mp H; obtain ⟨⟨bU, bV⟩, d8, H⟩ := H; dsimp only at H; have cz := mk0 d8; clear d8; simp only [Option.some.injEq, Prod.mk.injEq] at H; obtain ⟨rfl, rfl, rfl, rfl⟩ := H; have gc := aE.out; have ge := aG.out; have gf := aH.out; have gg := aI.out; have gh := aJ.out; have gi := aK.out; have gj := bn.out; have gl := bo.out; obtain ⟨gn, gp, gq, gr⟩ := cL2 aa; have gt := bh.out; have gu := bi.out; have gv := bj.out; have gw := bk.out; have gx := bp.out; have gy := bq.out; obtain ⟨gz, gA, gC, gD⟩ := cL2 ab
     go_wp2_with (first | (go_at_call 48; (with_reducible refine (furrowref4_Sub.calls a0_1 a1_1 aT false _ bz.out).mono ?_); rintro e w' ⟨rfl, ⟨nd, rfl⟩⟩; (try first | exact ⟨rfl, _, World.drewN_drewN _ _ _⟩ | exact ⟨rfl, _, Eq.trans (World.drewN_drewN _ _ _) (congrArg (World.drewN _) (Nat.add_assoc _ _ _))⟩); clear ag) | (go_at_call 49; (with_reducible refine (furrowref14_over.calls  aU bC _ cy.out).mono ?_); rintro e d9 ⟨d_, rfl, ho0, hb⟩; have ak := mk0 (Kd.R_lower (Kd.R_newM (M := fun k_ => (w.heap.size ≤ k_)) ho0 (below_size bH) (fun k_ h_ => h_)) (below_size bH)); replace aa := bB aa hb; replace ab := bB ab hb; replace ac := bB ac hb; replace ae := bB ae hb; replace af := bB af hb; replace HB := hbB bH hb; (try clear hb ho0); obtain ⟨bW, bX, bY⟩ := Kd.R_slice ak.out; subst bY) | (go_at_call 34; (with_reducible refine (furrowref4_Within.calls (⟨#[108, 105, 102, 116]⟩ : ByteArray) 0 (fun k_ => some k_ = (.slice bW aU.length bX : Value).ownBlock) _ _ aU bC bU bV _ ?side1 cz.out).mono ?_); (case side1 => exact Kd.R_V (Kd.R_tight rfl ak.out)); rintro e ea ⟨eb, rfl, ho0, hb⟩; have bE := mk0 (Kd.V_lower (Kd.V_mono (ok' := fun k_ => (w.heap.size ≤ k_) ∧ k_ ≠ ah ∧ k_ ≠ ai) ho0 (fun k_ hk_ => ⟨Or.elim hk_ (fun hs_ => ((Kd.R_types (Kd.R_types (Kd.R_types (Kd.R_types (Kd.R_types (ak.out) aa.out (by decide)) ab.out (by decide)) ac.out (by decide)) ae.out (by decide)) af.out (by decide)).1 k_ hs_.symm).1.1.1.1.1.1) (fun hn_ => (Nat.le_trans (below_size bH) hn_)), Or.elim hk_ (fun hs_ => ((Kd.R_types (Kd.R_types (Kd.R_types (Kd.R_types (Kd.R_types (ak.out) aa.out (by decide)) ab.out (by decide)) ac.out (by decide)) ae.out (by decide)) af.out (by decide)).1 k_ hs_.symm).1.1.2) (fun hn_ => (Kd.freshB (g := ah) (o := .cells #[.slice none 0 0, .int .i64 aM] 39 (0, 0)) (uB ac.out) k_ hn_)), Or.elim hk_ (fun hs_ => ((Kd.R_types (Kd.R_types (Kd.R_types (Kd.R_types (Kd.R_types (ak.out) aa.out (by decide)) ab.out (by decide)) ac.out (by decide)) ae.out (by decide)) af.out (by decide)).1 k_ hs_.symm).1.2) (fun hn_ => (Kd.freshB (g := ai) (o := .cells #[.slice none 0 0, .int .i64 aN] 42 (0, 0)) (uB ae.out) k_ hn_))⟩)) (below_size bH)); replace ak := rB ak hb; replace aa := bB aa hb; replace ab := bB ab hb; replace ac := bB ac hb; replace ae := bB ae hb; replace af := bB af hb; replace HB := hbB bH hb; (try clear hb ho0); have ec := ax.out; have ed := ay.out; have ee := am.out; have ef := ao.out; obtain ⟨eh, ei, ej, em⟩ := cL2 ac; obtain ⟨ch, ci, bZ⟩ := Kd.V_slice bE.out; subst bZ; have eo := ap.out; have ep := aq.out; obtain ⟨eu, ew, ez, eA⟩ := cL2 ae))
     refine bodyPost_ret (results_cc rfl _ _ ah ai 39 42 #[.slice none 0 0, .int .i64 0] #[.slice ch bU.length ci, .int .i64 bV] (0, 0) (0, 0) _ _ rfl (kB) Tryz.underlying39 rfl (by kernel_rfl) rfl (kB) Tryz.underlying42 rfl (by kernel_rfl)) rfl ?_; exact ⟨_, _, rE, nK, uV (Kd.V_mono (Kd.V_far (p := ⟨ai, 1, none⟩) (Kd.V_far (p := ⟨ai, 0, none⟩) (Kd.V_far (p := ⟨ah, 1, none⟩) (Kd.V_far (p := ⟨ah, 0, none⟩) (Kd.V_mono (Kd.V_mono bE.out (fun k_ hk => (⟨hk, hk.2.1⟩ : _ ∧ k_ ≠ ah))) (fun k_ hk => (⟨hk, hk.1.2.2⟩ : _ ∧ k_ ≠ ai))) (fun _ hk => hk.1.2) (.slice none 0 0)) (fun _ hk => hk.1.2) (.int .i64 0)) (fun _ hk => hk.2) (.slice ch bU.length ci)) (fun _ hk => hk.2) (.int .i64 bV)) (fun _ hk => ⟨hk.1.1.1, (by simp [Value.ownBlock])⟩)), bH⟩

/-! ### furrowref14_unlike: function 50 -/
def furrowref14_unlike.f  : Option ((List (S90)) × Int) := (furrowref4_At.f (⟨#[102, 111, 114, 109]⟩ : ByteArray) 0 1).bind fun bt675 => (some (bt675.1, bt675.2))
set_option maxHeartbeats 8000000 in
set_option maxRecDepth 100000 in
theorem furrowref14_unlike.calls  (r1 : List (S90)) (r2 : Int) (w : World) (h : furrowref14_unlike.f  = some (r1, r2)) :
  Calls Tryz.prog 50 #[] w fun e w' => ∃ v0_ : Value, e = .returned (.agg #[v0_, .int .i64 r2]) ∧ Kd.R k90 90 w' w.heap.size (fun _ => True) v0_ r1 ∧ Below w.heap.size w w' := by
 have hu42 := Tryz.underlying42
 have HB := mk0 (Below.refl w.heap.size w)
 have H : ((furrowref4_At.f (⟨#[102, 111, 114, 109]⟩ : ByteArray) 0 1).bind fun af => (some (af.1, af.2))) = some (r1, r2) := h
 clear h
 replace H := Option.bind_eq_some_iff.mp H
 obtain ⟨⟨ab, ac⟩, ag, H⟩ := H
 dsimp only at H
 have A1 := mk0 ag
 clear ag
 simp only [Option.some.injEq, Prod.mk.injEq] at H
 obtain ⟨rfl, rfl⟩ := H
 go_enter Tryz.func50, Tryz.ntmps50
 go_wp2_with (first | ((with_reducible refine gate_dst (N := 0) rfl ?_); refine bxE 0 #[.slice none 0 0, .int .i64 0] 42 ?_; intro ae hg w2 hbox hb; have aa := mk0 (hbox); have al := gE (uL HB.out) hg; replace HB := hbB (uL HB.out) hb; clear hb hbox hg) | ((with_reducible refine gate_dst (N := 1) rfl ?_); refine gsM (some 1) Tryz.func23 #[.string (⟨#[102, 111, 114, 109]⟩ : ByteArray), .int .i64 0, .int .i64 1] ?_; (with_reducible refine (furrowref4_At.calls (⟨#[102, 111, 114, 109]⟩ : ByteArray) 0 1 ab ac _ A1.out).mono ?_); rintro e w3 ⟨am, rfl, ho0, hb⟩; refine ⟨_, rfl, ?_⟩; have ah := mk0 (Kd.R_lower ho0 (below_size bH)); replace aa := bB aa hb; replace HB := hbB bH hb; (try clear hb ho0); obtain ⟨ai, aj, ak⟩ := Kd.R_slice ah.out; subst ak; obtain ⟨ao, ap, aq, ar⟩ := cL2 aa))
 refine bodyPost_ret (results_cell_row rfl _ _ ae 42 #[.slice ai ab.length aj, .int .i64 ac] (0, 0) _ rfl (kB) Tryz.underlying42 rfl (by kernel_rfl)) rfl ?_
 exact ⟨_, rE, uR (Kd.R_mono (Kd.R_far (p := ⟨ae, 1, none⟩) (Kd.R_far (p := ⟨ae, 0, none⟩) (Kd.R_types ah.out aa.out (by decide)) (fun _ hk => hk.2) (.slice ai ab.length aj)) (fun _ hk => hk.2) (.int .i64 ac)) (fun _ hk => trivial)), bH⟩

/-! ### furrowref4_Add: function 51 -/
def furrowref4_Add.f (a0 : Int) (a1 : Int) : Option (Int × Bool) := if a1 > 0 then (if (wrap64 (a0 + a1)) < a0 then (some (0, false)) else (if a1 < 0 then (if (wrap64 (a0 + a1)) > a0 then (some (0, false)) else (some (wrap64 (a0 + a1), true))) else (some (wrap64 (a0 + a1), true)))) else (if a1 < 0 then (if (wrap64 (a0 + a1)) > a0 then (some (0, false)) else (some (wrap64 (a0 + a1), true))) else (some (wrap64 (a0 + a1), true)))
set_option maxHeartbeats 8000000 in
set_option maxRecDepth 100000 in
theorem furrowref4_Add.calls (a0 : Int) (a1 : Int) (r1 : Int) (r2 : Bool) (w : World) (h : furrowref4_Add.f a0 a1 = some (r1, r2)) :
  Calls Tryz.prog 51 #[.int .i64 a0, .int .i64 a1] w fun e w' => e = .returned (.tuple #[.int .i64 r1, .bool r2]) ∧ Drawn0 w w' := by
 have H : (if a1 > 0 then (if (wrap64 (a0 + a1)) < a0 then (some (0, false)) else (if a1 < 0 then (if (wrap64 (a0 + a1)) > a0 then (some (0, false)) else (some (wrap64 (a0 + a1), true))) else (some (wrap64 (a0 + a1), true)))) else (if a1 < 0 then (if (wrap64 (a0 + a1)) > a0 then (some (0, false)) else (some (wrap64 (a0 + a1), true))) else (some (wrap64 (a0 + a1), true)))) = some (r1, r2) := h
 clear h
 by_cases c3 : a1 > 0
 ·rw [if_pos c3] at H
  have c3b0 := decide_eq_true c3; clear c3
  by_cases c4 : (wrap64 (a0 + a1)) < a0
  ·rw [if_pos c4] at H
   have c4b0 := decide_eq_true c4; clear c4; simp only [Option.some.injEq, Prod.mk.injEq] at H; obtain ⟨rfl, rfl⟩ := H; go_enter Tryz.func51, Tryz.ntmps51; go_wp2
   go_ret2
   exact ⟨eK, by repeat (first | exact Drawn0.refl _ | apply Drawn0.step)⟩
  ·rw [if_neg c4] at H
   have c4b0 := decide_eq_false c4; clear c4
   by_cases c5 : a1 < 0
   ·rw [if_pos c5] at H
    have c5b0 := decide_eq_true c5; clear c5
    by_cases c6 : (wrap64 (a0 + a1)) > a0
    ·rw [if_pos c6] at H
     have c6b0 := decide_eq_true c6; clear c6; simp only [Option.some.injEq, Prod.mk.injEq] at H; obtain ⟨rfl, rfl⟩ := H; go_enter Tryz.func51, Tryz.ntmps51; go_wp2
     go_ret2
     exact ⟨eK, by repeat (first | exact Drawn0.refl _ | apply Drawn0.step)⟩
    ·rw [if_neg c6] at H
     have c6b0 := decide_eq_false c6; clear c6; simp only [Option.some.injEq, Prod.mk.injEq] at H; obtain ⟨rfl, rfl⟩ := H; go_enter Tryz.func51, Tryz.ntmps51; go_wp2
     go_ret2
     exact ⟨eK, by repeat (first | exact Drawn0.refl _ | apply Drawn0.step)⟩
   ·rw [if_neg c5] at H
    have c5b0 := decide_eq_false c5; clear c5; simp only [Option.some.injEq, Prod.mk.injEq] at H; obtain ⟨rfl, rfl⟩ := H; go_enter Tryz.func51, Tryz.ntmps51; go_wp2
    go_ret2
    exact ⟨eK, by repeat (first | exact Drawn0.refl _ | apply Drawn0.step)⟩
 ·rw [if_neg c3] at H
  have c3b0 := decide_eq_false c3; clear c3
  by_cases c7 : a1 < 0
  ·rw [if_pos c7] at H
   have c7b0 := decide_eq_true c7; clear c7
   by_cases c8 : (wrap64 (a0 + a1)) > a0
   ·rw [if_pos c8] at H
    have c8b0 := decide_eq_true c8; clear c8; simp only [Option.some.injEq, Prod.mk.injEq] at H; obtain ⟨rfl, rfl⟩ := H; go_enter Tryz.func51, Tryz.ntmps51; go_wp2
    go_ret2
    exact ⟨eK, by repeat (first | exact Drawn0.refl _ | apply Drawn0.step)⟩
   ·rw [if_neg c8] at H
    have c8b0 := decide_eq_false c8; clear c8; simp only [Option.some.injEq, Prod.mk.injEq] at H; obtain ⟨rfl, rfl⟩ := H; go_enter Tryz.func51, Tryz.ntmps51; go_wp2
    go_ret2
    exact ⟨eK, by repeat (first | exact Drawn0.refl _ | apply Drawn0.step)⟩
  ·rw [if_neg c7] at H
   have c7b0 := decide_eq_false c7; clear c7; simp only [Option.some.injEq, Prod.mk.injEq] at H; obtain ⟨rfl, rfl⟩ := H; go_enter Tryz.func51, Tryz.ntmps51; go_wp2
   go_ret2
   exact ⟨eK, by repeat (first | exact Drawn0.refl _ | apply Drawn0.step)⟩


/-! ### furrowref14_Add: function 33 -/
def furrowref14_Add.l0 : Nat → Int → List Int → Int → List Int → Int → List Int → Int → Option (List Int × Int × (List (S90)) × Int)
 | 0, _, _, _, _, _, _, _ => none
 | k + 1, x7, x680000, x680001, x681000, x681001, x692000, x692001 => if x7 < (x680000.length : Int) then (if 0 ≤ x7 then (if x7 < (x681000.length : Int) then ((furrowref4_Add.f (rd x680000 x7) (rd x681000 x7)).bind fun bt694 => (if bt694.2 = true then (if x7 < (x692000.length : Int) then (furrowref14_Add.l0 k (wrap64 (x7 + 1)) x680000 x680001 x681000 x681001 (x692000.set (x7 : Int).toNat bt694.1) x692001) else (none)) else ((furrowref14_over.f).bind fun bt697 => (some (([] : List Int), 0, bt697.1, bt697.2))))) else (none)) else (none)) else ((furrowref4_Add.f x680001 x681001).bind fun bt701 => (if bt701.2 = true then (some (x692000, bt701.1, ([] : List (S90)), 0)) else ((furrowref14_over.f).bind fun bt703 => (some (([] : List Int), 0, bt703.1, bt703.2)))))
def furrowref14_Add.f (k : Nat) (l0_0 : List Int) (a0_1 : Int) (l1_0 : List Int) (a1_1 : Int) : Option (List Int × Int × (List (S90)) × Int) := if (l0_0.length : Int) = (l1_0.length : Int) then ((furrowref14_Const.f (l0_0.length : Int) 0).bind fun bt687 => (furrowref14_Add.l0 k 0 l0_0 a0_1 l1_0 a1_1 bt687.1 bt687.2)) else ((furrowref14_unlike.f).bind fun bt683 => (some (([] : List Int), 0, bt683.1, bt683.2)))
theorem furrowref14_Add.mono_l : ∀ k, (∀ y0 y1 y2 y3 y4 y5 y6, LeO (furrowref14_Add.l0 k y0 y1 y2 y3 y4 y5 y6) (furrowref14_Add.l0 (k + 1) y0 y1 y2 y3 y4 y5 y6))
 | 0 => fun _ _ _ _ _ _ _ r h => by simp [furrowref14_Add.l0] at h
 | k + 1 => by
  have ih0 := furrowref14_Add.mono_l k
  ·intro y0 y1 y2 y3 y4 y5 y6
   unfold furrowref14_Add.l0
   repeat' first
   | (with_reducible exact ih0 _ _ _ _ _ _ _)
   | (with_reducible exact LeO.refl _)
   | (with_reducible exact LeO.none _)
   | (with_reducible refine LeO.ite ?_ ?_)
   | (with_reducible refine LeO.bind ?_ (fun _ => ?_))
   | exact ih0 _ _ _ _ _ _ _
   | exact LeO.none _
   | refine LeO.ite ?_ ?_
   | refine LeO.bind ?_ (fun _ => ?_)
theorem furrowref14_Add.mono : ∀ a0 a1 a2 a3 k, LeO (furrowref14_Add.f k a0 a1 a2 a3) (furrowref14_Add.f (k + 1) a0 a1 a2 a3) := by
 intro a0 a1 a2 a3 k
 have ih0 := furrowref14_Add.mono_l k
 unfold furrowref14_Add.f
 repeat' first
   | (with_reducible exact ih0 _ _ _ _ _ _ _)
   | (with_reducible exact LeO.refl _)
   | (with_reducible exact LeO.none _)
   | (with_reducible refine LeO.ite ?_ ?_)
   | (with_reducible refine LeO.bind ?_ (fun _ => ?_))
   | exact ih0 _ _ _ _ _ _ _
   | exact LeO.none _
   | refine LeO.ite ?_ ?_
   | refine LeO.bind ?_ (fun _ => ?_)
set_option maxHeartbeats 8000000 in
set_option maxRecDepth 100000 in
theorem furrowref14_Add.calls (k : Nat) (A0_0 : Option Addr) (c0_0 : Nat) (l0_0 : List Int) (a0_1 : Int) (A1_0 : Option Addr) (c1_0 : Nat) (l1_0 : List Int) (a1_1 : Int) (r1 : List Int) (r2 : Int) (r3 : List (S90)) (r4 : Int) (w : World) (hr0_0 : Kd.C (Kd.int .i64) w A0_0 l0_0.length l0_0) (hc0_0 : l0_0.length ≤ c0_0) (hr1_0 : Kd.C (Kd.int .i64) w A1_0 l1_0.length l1_0) (hc1_0 : l1_0.length ≤ c1_0) (h : furrowref14_Add.f k l0_0 a0_1 l1_0 a1_1 = some (r1, r2, r3, r4)) :
  Calls Tryz.prog 33 #[.agg #[.slice A0_0 l0_0.length c0_0, .int .i64 a0_1], .agg #[.slice A1_0 l1_0.length c1_0, .int .i64 a1_1]] w fun e w' => ∃ v0_ v2_ : Value, e = .returned (.tuple #[.agg #[v0_, .int .i64 r2], .agg #[v2_, .int .i64 r4]]) ∧ Kd.R (Kd.int .i64) 2 w' w.heap.size (fun _ => True) v0_ r1 ∧ Kd.R k90 90 w' w.heap.size (fun _ => True) v2_ r3 ∧ Below w.heap.size w w' := by
 have hu39 := Tryz.underlying39
 have hu42 := Tryz.underlying42
 have cH := mk0 hr0_0
 have fD := mk0 hc0_0
 clear hr0_0 hc0_0
 have cI := mk0 hr1_0
 have fE := mk0 hc1_0
 clear hr1_0 hc1_0
 have HB := mk0 (Below.refl w.heap.size w)
 have H : (if (l0_0.length : Int) = (l1_0.length : Int) then ((furrowref14_Const.f (l0_0.length : Int) 0).bind fun cJ => (furrowref14_Add.l0 k 0 l0_0 a0_1 l1_0 a1_1 cJ.1 cJ.2)) else ((furrowref14_unlike.f).bind fun cK => (some (([] : List Int), 0, cK.1, cK.2)))) = some (r1, r2, r3, r4) := h
 clear h
 by_cases c3 : (l0_0.length : Int) = (l1_0.length : Int)
 ·rw [if_pos c3] at H
  obtain ⟨cL, cM⟩ := yQ c3; (have cN : (l0_0.length == l1_0.length) = true := by first | simpa using c3 | (simp at c3 ⊢; omega)); clear c3; replace H := Option.bind_eq_some_iff.mp H; obtain ⟨⟨bi, aZ⟩, cO, H⟩ := H; dsimp only at H; have A4 := mk0 cO; clear cO; have H' := mk0 H; clear H; go_enter Tryz.func33, Tryz.ntmps33
  go_wp2_with (first | ((with_reducible refine gate_dst (N := 2) rfl ?_); refine bxE 2 #[.slice A0_0 l0_0.length c0_0, .int .i64 a0_1] 39 ?_; intro bj hg w5 hbox hb; have aa := mk0 (hbox); have bu := gE (uL HB.out) hg; replace HB := hbB (uL HB.out) hb; clear hb hbox hg) | ((with_reducible refine gate_dst (N := 3) rfl ?_); refine bxE 3 #[.slice A1_0 l1_0.length c1_0, .int .i64 a1_1] 39 ?_; intro bk hg w6 hbox hb; have ab := mk0 (hbox); have bv := gE bH hg; replace HB := hbB bH hb; have ar := nL aa hg; have au := nG aa hg; replace aa := bB aa hb; clear hb hbox hg) | ((with_reducible refine gate_dst (N := 4) rfl ?_); refine bxE 4 #[.slice none 0 0, .int .i64 0] 39 ?_; intro ah hg w7 hbox hb; have ac := mk0 (hbox); have bw := gE bH hg; replace HB := hbB bH hb; have av := nL aa hg; have aw := nG aa hg; replace aa := bB aa hb; have ax := nL ab hg; have ay := nG ab hg; replace ab := bB ab hb; clear hb hbox hg) | ((with_reducible refine gate_dst (N := 5) rfl ?_); refine bxE 5 #[.slice none 0 0, .int .i64 0] 42 ?_; intro ai hg w8 hbox hb; have ae := mk0 (hbox); have bz := gE bH hg; replace HB := hbB bH hb; have az := nL aa hg; have aA := nG aa hg; replace aa := bB aa hb; have aC := nL ab hg; have aD := nG ab hg; replace ab := bB ab hb; have aj := nL ac hg; have ak := nG ac hg; replace ac := bB ac hb; clear hb hbox hg; have cP := ar.out; have cR := au.out; have cS := av.out; have cT := aw.out; have cU := az.out; have cV := aA.out; obtain ⟨ch, ci, cj, ck⟩ := cL2 aa; have cW := ax.out; have cX := ay.out; have cY := aC.out; have cZ := aD.out; obtain ⟨cl, cm, cn, cp⟩ := cL2 ab) | (go_at_call 27; (with_reducible refine (furrowref14_Const.calls (l0_0.length : Int) 0 bi aZ _ A4.out).mono ?_); rintro e c_ ⟨da, rfl, ho0, hb⟩; have aH := mk0 (Kd.R_lower ho0 (below_size bH)); replace aa := bB aa hb; replace ab := bB ab hb; replace ac := bB ac hb; replace ae := bB ae hb; replace HB := hbB bH hb; (try clear hb ho0)) | ((with_reducible refine gate_dst (N := 6) rfl ?_); refine bxE 6 #[.slice none 0 0, .int .i64 0] 39 ?_; intro bl hg db hbox hb; replace aH := rB aH hb; have ag := mk0 (hbox); have dc := gE bH hg; replace HB := hbB bH hb; have aN := nL aa hg; have aQ := nG aa hg; replace aa := bB aa hb; have aT := nL ab hg; have aU := nG ab hg; replace ab := bB ab hb; have al := nL ac hg; have am := nG ac hg; replace ac := bB ac hb; have ao := nL ae hg; have ap := nG ae hg; replace ae := bB ae hb; clear hb hbox hg; obtain ⟨bV, bW, bC⟩ := Kd.R_slice aH.out; subst bC; have dd := aQ.out; have de := aN.out; have df := aU.out; have dh := aT.out; have di := am.out; have dj := al.out; have dl := ap.out; have dn := ao.out; obtain ⟨cq, cr, ct, cu⟩ := cL2 ag))
  go_loopg [7] k (fun kq v7 w' => ∃ (x7_1 : Int) (cv : Int) (cw : Int) (aE : List Int) (cx : Value), v7 = .int .i64 x7_1 ∧ Aside0 (furrowref14_Add.l0 kq x7_1 l0_0 a0_1 l1_0 a1_1 aE aZ = some (r1, r2, r3, r4)) ∧ Aside0 (kq ≤ k) ∧ Aside0 (Kd.R (Kd.int .i64) 2 w' w.heap.size (fun _ => True) cx aE) ∧ Aside0 (w'.heap[bj]? = some (.cells #[(.slice A0_0 l0_0.length c0_0), .int .i64 a0_1] 39 (0, 0))) ∧ Aside0 (w'.heap[bk]? = some (.cells #[(.slice A1_0 l1_0.length c1_0), .int .i64 a1_1] 39 (0, 0))) ∧ Aside0 (w'.heap[ah]? = some (.cells #[(.slice none 0 0), .int .i64 cv] 39 (0, 0))) ∧ Aside0 (w'.heap[ai]? = some (.cells #[(.slice none 0 0), .int .i64 cw] 42 (0, 0))) ∧ Aside0 (w'.heap[bl]? = some (.cells #[cx, .int .i64 aZ] 39 (0, 0))) ∧ Aside0 (Below w.heap.size w w'))
  case atStart => exact ⟨(0), (0), (0), (bi), (.slice bV bi.length bW), eK, H', ⟨Nat.le_refl _⟩, ⟨uR (Kd.R_mono (Kd.R_far (p := ⟨bl, 1, none⟩) (Kd.R_far (p := ⟨bl, 0, none⟩) (Kd.R_types aH.out ag.out (by decide)) (fun _ hk => hk.2) (.slice bV bi.length bW)) (fun _ hk => hk.2) (.int .i64 aZ)) (fun _ hk => trivial))⟩, ⟨kB⟩, ⟨kB⟩, ⟨kB⟩, ⟨kB⟩, ⟨kB⟩, ⟨bH⟩⟩
  case round =>
   clear H'; (try clear c3 cL cM cN ch ci cl cm cq cr cj ck cn cp ct cu); obtain ⟨x7_1, cv, cw, aE, cx, rfl, HA, dp, af, aa, ab, ac, ae, ag, HB⟩ := hrel
   cases gk with
   | zero => exact absurd HA.out (by simp [furrowref14_Add.l0])
   | succ k1 =>
    have H := HA.out; clear HA; simp only [furrowref14_Add.l0] at H
    by_cases bm : x7_1 < (l0_0.length : Int)
    ·rw [if_pos bm] at H
     have fx := decide_eq_true bm; clear bm
     by_cases bX : 0 ≤ x7_1
     ·rw [if_pos bX] at H
      have fF := decide_eq_true bX; clear bX
      by_cases bY : x7_1 < (l1_0.length : Int)
      ·rw [if_pos bY] at H
       have fG := decide_eq_true bY; clear bY; replace H := Option.bind_eq_some_iff.mp H; obtain ⟨⟨aq, fy⟩, dq, H⟩ := H; dsimp only at H; have bn := mk0 dq; clear dq
       by_cases bZ : fy = true
       ·subst bZ
        replace H := iT H
        by_cases b4 : x7_1 < (aE.length : Int)
        ·rw [if_pos b4] at H
         have fH := decide_eq_true b4; clear b4; obtain ⟨bE, cy⟩ : ∃ y_ : List Int, y_ = (aE.set (x7_1 : Int).toNat aq) := ⟨_, rfl⟩; (replace H : (furrowref14_Add.l0 k1 (wrap64 (x7_1 + 1)) l0_0 a0_1 l1_0 a1_1 bE aZ) = some (r1, r2, r3, r4) := by (try rw [cy]); first | with_reducible exact H | with_reducible exact oN H | exact H); have cz := mk0 cy; clear cy; have H' := mk0 H; clear H; have fI := ar.out; have fJ := au.out; have fK := av.out; have fL := aw.out; have fM := az.out; have fN := aA.out; have fO := aN.out; have fP := aQ.out; obtain ⟨fQ, fR, fS, fT⟩ := cL2 aa; have a_ : 0 ≤ (x7_1 : Int) := dY; have bf : x7_1 < (l0_0.length : Int) := dY; obtain ⟨fz, cA, bF⟩ := Kd.at_int cH.out x7_1 a_ bf
         cases cA
         replace bF := oC HB bF; replace a_ := eq_true a_; replace bf := eq_true bf; have fU := ax.out; have fV := ay.out; have fW := aC.out; have fX := aD.out; have fY := aT.out; have fZ := aU.out; obtain ⟨f5, f_, gc, ge⟩ := cL2 ab; have bg : 0 ≤ (x7_1 : Int) := dY; have bh : x7_1 < (l1_0.length : Int) := dY; obtain ⟨fA, cD, bG⟩ := Kd.at_int cI.out x7_1 bg bh
         cases cD
         replace bG := oC HB bG; replace bg := eq_true bg; replace bh := eq_true bh
         go_wp2_with (first | (go_at_call 51; (with_reducible refine (furrowref4_Add.calls (rd l0_0 x7_1) (rd l1_0 x7_1) aq true _ bn.out).mono ?_); rintro e w' ⟨rfl, ⟨nd, rfl⟩⟩; (try first | exact ⟨rfl, _, World.drewN_drewN _ _ _⟩ | exact ⟨rfl, _, Eq.trans (World.drewN_drewN _ _ _) (congrArg (World.drewN _) (Nat.add_assoc _ _ _))⟩); have dr := am.out; have dt := al.out; have du := ap.out; have dv := ao.out; obtain ⟨dw, dz, dA, dB⟩ := cL2 ag; have aJ : 0 ≤ (x7_1 : Int) := dY; have aK : (x7_1 : Int) < ((aE.length : Int) : Int) := dY; obtain ⟨aI, bo, aW, aX, gl30, cl30, aY⟩ := Kd.R_form af.out (by omega); (first | cases aW | (injection aW with ea_ en_ ec_; (first | subst ea_ | (injection ea_ with ea_; subst ea_)); subst ec_; clear en_)); have bI := mk0 aX; have GG30 := mk0 aY; clear aX gl30 aY; obtain ⟨dC, dD⟩ := Kd.R_celln 0 af.out (x7_1 : Int) aJ aK; replace aJ := eq_true aJ; replace aK := eq_true aK; obtain ⟨hy43_, hz43_⟩ := Kd.R_celln 0 af.out (x7_1 : Int) (dY) (dY); have aG := Kd.R_putg af.out (x7_1 : Int) aq) | ((with_reducible refine gate_store (t := 2) (p := 54) rfl ?_); (try (rw [drewN_self wr]; generalize hq_ : World.drewN wr _ = wr; have n0_ := mk0 (Kd.R_at hq_ af.out); have n1_ := mk0 (blk_at hq_ aa.out); have n2_ := mk0 (blk_at hq_ ab.out); have n3_ := mk0 (blk_at hq_ ac.out); have n4_ := mk0 (blk_at hq_ ae.out); have n5_ := mk0 (blk_at hq_ ag.out); have n6_ := mk0 (below_at hq_ HB.out); clear hq_ af aa ab ac ae ag HB; have af := n0_; have aa := n1_; have ab := n2_; have ac := n3_; have ae := n4_; have ag := n5_; have HB := n6_; clear n0_ n1_ n2_ n3_ n4_ n5_ n6_; (try (obtain ⟨hy43_, hz43_⟩ := Kd.R_celln 0 af.out (x7_1 : Int) (dY) (dY))); (try (have aG := Kd.R_putg af.out (x7_1 : Int) aq)))); refine store_event (t := 2) (p := 54) (v := ?vo_w44) (w1 := (wr.setCell ⟨aI, (x7_1 : Int).toNat, none⟩ (.int .i64 aq))) ?hg ?ho ?hn ?hr ?_; (case ho => rfl); (case hg => rfl); (case hn => rfl); (case hr => first | (go_simp; done) | (go_simp; rfl)); intro aM hw; have hg : wr.grownBy aM (some aI) := (by rw [hw]; exact aG.2); have hp_ : Kd.R (Kd.int .i64) 2 aM w.heap.size (fun _ => True) (.slice (some ⟨aI, 0, none⟩) aE.length bo) bE := (by rw [hw, cz.out]; exact aG.1); clear aG; replace aa := (gB aa hg (Kd.R_ne af.out aa.out (by decide))); replace ab := (gB ab hg (Kd.R_ne af.out ab.out (by decide))); replace ac := (gB ac hg (Kd.R_ne af.out ac.out (by decide))); replace ae := (gB ae hg (Kd.R_ne af.out ae.out (by decide))); replace ag := (gB ag hg (Kd.R_ne af.out ag.out (by decide))); replace af := mk0 (hp_); replace HB := mk0 ((by rw [hw]; exact below_set (HB.out) bI.out : Below w.heap.size w aM)); clear hg hw hp_))
         (repeat (go_quiet (first | (go_at_call 51; (with_reducible refine (furrowref4_Add.calls (rd l0_0 x7_1) (rd l1_0 x7_1) aq true _ bn.out).mono ?_); rintro e w' ⟨rfl, ⟨nd, rfl⟩⟩; (try first | exact ⟨rfl, _, World.drewN_drewN _ _ _⟩ | exact ⟨rfl, _, Eq.trans (World.drewN_drewN _ _ _) (congrArg (World.drewN _) (Nat.add_assoc _ _ _))⟩); have dr := am.out; have dt := al.out; have du := ap.out; have dv := ao.out; obtain ⟨dw, dz, dA, dB⟩ := cL2 ag; have aJ : 0 ≤ (x7_1 : Int) := dY; have aK : (x7_1 : Int) < ((aE.length : Int) : Int) := dY; obtain ⟨aI, bo, aW, aX, gl30, cl30, aY⟩ := Kd.R_form af.out (by omega); (first | cases aW | (injection aW with ea_ en_ ec_; (first | subst ea_ | (injection ea_ with ea_; subst ea_)); subst ec_; clear en_)); have bI := mk0 aX; have GG30 := mk0 aY; clear aX gl30 aY; obtain ⟨dC, dD⟩ := Kd.R_celln 0 af.out (x7_1 : Int) aJ aK; replace aJ := eq_true aJ; replace aK := eq_true aK; obtain ⟨hy43_, hz43_⟩ := Kd.R_celln 0 af.out (x7_1 : Int) (dY) (dY); have aG := Kd.R_putg af.out (x7_1 : Int) aq) | ((with_reducible refine gate_store (t := 2) (p := 54) rfl ?_); (try (rw [drewN_self wr]; generalize hq_ : World.drewN wr _ = wr; have n0_ := mk0 (Kd.R_at hq_ af.out); have n1_ := mk0 (blk_at hq_ aa.out); have n2_ := mk0 (blk_at hq_ ab.out); have n3_ := mk0 (blk_at hq_ ac.out); have n4_ := mk0 (blk_at hq_ ae.out); have n5_ := mk0 (blk_at hq_ ag.out); have n6_ := mk0 (below_at hq_ HB.out); clear hq_ af aa ab ac ae ag HB; have af := n0_; have aa := n1_; have ab := n2_; have ac := n3_; have ae := n4_; have ag := n5_; have HB := n6_; clear n0_ n1_ n2_ n3_ n4_ n5_ n6_; (try (obtain ⟨hy43_, hz43_⟩ := Kd.R_celln 0 af.out (x7_1 : Int) (dY) (dY))); (try (have aG := Kd.R_putg af.out (x7_1 : Int) aq)))); refine store_event (t := 2) (p := 54) (v := ?vo_w44) (w1 := (wr.setCell ⟨aI, (x7_1 : Int).toNat, none⟩ (.int .i64 aq))) ?hg ?ho ?hn ?hr ?_; (case ho => rfl); (case hg => rfl); (case hn => rfl); (case hr => first | (go_simp; done) | (go_simp; rfl)); intro aM hw; have hg : wr.grownBy aM (some aI) := (by rw [hw]; exact aG.2); have hp_ : Kd.R (Kd.int .i64) 2 aM w.heap.size (fun _ => True) (.slice (some ⟨aI, 0, none⟩) aE.length bo) bE := (by rw [hw, cz.out]; exact aG.1); clear aG; replace aa := (gB aa hg (Kd.R_ne af.out aa.out (by decide))); replace ab := (gB ab hg (Kd.R_ne af.out ab.out (by decide))); replace ac := (gB ac hg (Kd.R_ne af.out ac.out (by decide))); replace ae := (gB ae hg (Kd.R_ne af.out ae.out (by decide))); replace ag := (gB ag hg (Kd.R_ne af.out ag.out (by decide))); replace af := mk0 (hp_); replace HB := mk0 ((by rw [hw]; exact below_set (HB.out) bI.out : Below w.heap.size w aM)); clear hg hw hp_)); try go_wp2_with (first | (go_at_call 51; (with_reducible refine (furrowref4_Add.calls (rd l0_0 x7_1) (rd l1_0 x7_1) aq true _ bn.out).mono ?_); rintro e w' ⟨rfl, ⟨nd, rfl⟩⟩; (try first | exact ⟨rfl, _, World.drewN_drewN _ _ _⟩ | exact ⟨rfl, _, Eq.trans (World.drewN_drewN _ _ _) (congrArg (World.drewN _) (Nat.add_assoc _ _ _))⟩); have dr := am.out; have dt := al.out; have du := ap.out; have dv := ao.out; obtain ⟨dw, dz, dA, dB⟩ := cL2 ag; have aJ : 0 ≤ (x7_1 : Int) := dY; have aK : (x7_1 : Int) < ((aE.length : Int) : Int) := dY; obtain ⟨aI, bo, aW, aX, gl30, cl30, aY⟩ := Kd.R_form af.out (by omega); (first | cases aW | (injection aW with ea_ en_ ec_; (first | subst ea_ | (injection ea_ with ea_; subst ea_)); subst ec_; clear en_)); have bI := mk0 aX; have GG30 := mk0 aY; clear aX gl30 aY; obtain ⟨dC, dD⟩ := Kd.R_celln 0 af.out (x7_1 : Int) aJ aK; replace aJ := eq_true aJ; replace aK := eq_true aK; obtain ⟨hy43_, hz43_⟩ := Kd.R_celln 0 af.out (x7_1 : Int) (dY) (dY); have aG := Kd.R_putg af.out (x7_1 : Int) aq) | ((with_reducible refine gate_store (t := 2) (p := 54) rfl ?_); (try (rw [drewN_self wr]; generalize hq_ : World.drewN wr _ = wr; have n0_ := mk0 (Kd.R_at hq_ af.out); have n1_ := mk0 (blk_at hq_ aa.out); have n2_ := mk0 (blk_at hq_ ab.out); have n3_ := mk0 (blk_at hq_ ac.out); have n4_ := mk0 (blk_at hq_ ae.out); have n5_ := mk0 (blk_at hq_ ag.out); have n6_ := mk0 (below_at hq_ HB.out); clear hq_ af aa ab ac ae ag HB; have af := n0_; have aa := n1_; have ab := n2_; have ac := n3_; have ae := n4_; have ag := n5_; have HB := n6_; clear n0_ n1_ n2_ n3_ n4_ n5_ n6_; (try (obtain ⟨hy43_, hz43_⟩ := Kd.R_celln 0 af.out (x7_1 : Int) (dY) (dY))); (try (have aG := Kd.R_putg af.out (x7_1 : Int) aq)))); refine store_event (t := 2) (p := 54) (v := ?vo_w44) (w1 := (wr.setCell ⟨aI, (x7_1 : Int).toNat, none⟩ (.int .i64 aq))) ?hg ?ho ?hn ?hr ?_; (case ho => rfl); (case hg => rfl); (case hn => rfl); (case hr => first | (go_simp; done) | (go_simp; rfl)); intro aM hw; have hg : wr.grownBy aM (some aI) := (by rw [hw]; exact aG.2); have hp_ : Kd.R (Kd.int .i64) 2 aM w.heap.size (fun _ => True) (.slice (some ⟨aI, 0, none⟩) aE.length bo) bE := (by rw [hw, cz.out]; exact aG.1); clear aG; replace aa := (gB aa hg (Kd.R_ne af.out aa.out (by decide))); replace ab := (gB ab hg (Kd.R_ne af.out ab.out (by decide))); replace ac := (gB ac hg (Kd.R_ne af.out ac.out (by decide))); replace ae := (gB ae hg (Kd.R_ne af.out ae.out (by decide))); replace ag := (gB ag hg (Kd.R_ne af.out ag.out (by decide))); replace af := mk0 (hp_); replace HB := mk0 ((by rw [hw]; exact below_set (HB.out) bI.out : Below w.heap.size w aM)); clear hg hw hp_))))
         go_roundg k1
         case measure => have := dp.out; omega
         case rel => exact ⟨(wrap64 (x7_1 + 1)), (cv), (cw), (bE), (.slice (some ⟨aI, 0, none⟩) aE.length bo), eK, H', ⟨by have := dp.out; omega⟩, ⟨uR af.out⟩, ⟨uB aa.out⟩, ⟨uB ab.out⟩, ⟨uB ac.out⟩, ⟨uB ae.out⟩, ⟨uB ag.out⟩, ⟨bH⟩⟩
        ·exact nO H b4
       ·replace bZ := Bool.eq_false_iff.mpr bZ
        subst bZ; replace H := iF H; replace H := Option.bind_eq_some_iff.mp H; obtain ⟨⟨bJ, bK⟩, dE, H⟩ := H; dsimp only at H; have cE := mk0 dE; clear dE; simp only [Option.some.injEq, Prod.mk.injEq] at H; obtain ⟨rfl, rfl, rfl, rfl⟩ := H; have gf := ar.out; have gg := au.out; have gh := av.out; have gi := aw.out; have gj := az.out; have gl := aA.out; have gn := aN.out; have gp := aQ.out; obtain ⟨gq, gr, gt, gu⟩ := cL2 aa; have a_ : 0 ≤ (x7_1 : Int) := dY; have bf : x7_1 < (l0_0.length : Int) := dY; obtain ⟨fz, cA, bF⟩ := Kd.at_int cH.out x7_1 a_ bf
        cases cA
        replace bF := oC HB bF; replace a_ := eq_true a_; replace bf := eq_true bf; have gv := ax.out; have gw := ay.out; have gx := aC.out; have gy := aD.out; have gz := aT.out; have gA := aU.out; obtain ⟨gC, gD, gF, gG⟩ := cL2 ab; have bg : 0 ≤ (x7_1 : Int) := dY; have bh : x7_1 < (l1_0.length : Int) := dY; obtain ⟨fA, cD, bG⟩ := Kd.at_int cI.out x7_1 bg bh
        cases cD
        replace bG := oC HB bG; replace bg := eq_true bg; replace bh := eq_true bh
        go_wp2_with (first | (go_at_call 51; (with_reducible refine (furrowref4_Add.calls (rd l0_0 x7_1) (rd l1_0 x7_1) aq false _ bn.out).mono ?_); rintro e w' ⟨rfl, ⟨nd, rfl⟩⟩; (try first | exact ⟨rfl, _, World.drewN_drewN _ _ _⟩ | exact ⟨rfl, _, Eq.trans (World.drewN_drewN _ _ _) (congrArg (World.drewN _) (Nat.add_assoc _ _ _))⟩); clear af) | (go_at_call 49; (with_reducible refine (furrowref14_over.calls  bJ bK _ cE.out).mono ?_); rintro e dF ⟨dG, rfl, ho0, hb⟩; have bp := mk0 (Kd.R_lower ho0 (below_size bH)); replace aa := bB aa hb; replace ab := bB ab hb; replace ac := bB ac hb; replace ae := bB ae hb; replace ag := bB ag hb; replace HB := hbB bH hb; (try clear hb ho0); have dH := aj.out; have dI := ak.out; have dJ := al.out; have dK := am.out; obtain ⟨dL, dM, dN, dO⟩ := cL2 ac; obtain ⟨b5, b6, bL⟩ := Kd.R_slice bp.out; subst bL; have dP := ao.out; have dQ := ap.out; obtain ⟨dR, dS, dT, dU⟩ := cL2 ae))
        (repeat (go_quiet (first | (go_at_call 51; (with_reducible refine (furrowref4_Add.calls (rd l0_0 x7_1) (rd l1_0 x7_1) aq false _ bn.out).mono ?_); rintro e w' ⟨rfl, ⟨nd, rfl⟩⟩; (try first | exact ⟨rfl, _, World.drewN_drewN _ _ _⟩ | exact ⟨rfl, _, Eq.trans (World.drewN_drewN _ _ _) (congrArg (World.drewN _) (Nat.add_assoc _ _ _))⟩); clear af) | (go_at_call 49; (with_reducible refine (furrowref14_over.calls  bJ bK _ cE.out).mono ?_); rintro e dF ⟨dG, rfl, ho0, hb⟩; have bp := mk0 (Kd.R_lower ho0 (below_size bH)); replace aa := bB aa hb; replace ab := bB ab hb; replace ac := bB ac hb; replace ae := bB ae hb; replace ag := bB ag hb; replace HB := hbB bH hb; (try clear hb hk ho0); have dH := aj.out; have dI := ak.out; have dJ := al.out; have dK := am.out; obtain ⟨dL, dM, dN, dO⟩ := cL2 ac; obtain ⟨b5, b6, bL⟩ := Kd.R_slice bp.out; subst bL; have dP := ao.out; have dQ := ap.out; obtain ⟨dR, dS, dT, dU⟩ := cL2 ae)); try go_wp2_with (first | (go_at_call 51; (with_reducible refine (furrowref4_Add.calls (rd l0_0 x7_1) (rd l1_0 x7_1) aq false _ bn.out).mono ?_); rintro e w' ⟨rfl, ⟨nd, rfl⟩⟩; (try first | exact ⟨rfl, _, World.drewN_drewN _ _ _⟩ | exact ⟨rfl, _, Eq.trans (World.drewN_drewN _ _ _) (congrArg (World.drewN _) (Nat.add_assoc _ _ _))⟩); clear af) | (go_at_call 49; (with_reducible refine (furrowref14_over.calls  bJ bK _ cE.out).mono ?_); rintro e dF ⟨dG, rfl, ho0, hb⟩; have bp := mk0 (Kd.R_lower ho0 (below_size bH)); replace aa := bB aa hb; replace ab := bB ab hb; replace ac := bB ac hb; replace ae := bB ae hb; replace ag := bB ag hb; replace HB := hbB bH hb; (try clear hb hk ho0); have dH := aj.out; have dI := ak.out; have dJ := al.out; have dK := am.out; obtain ⟨dL, dM, dN, dO⟩ := cL2 ac; obtain ⟨b5, b6, bL⟩ := Kd.R_slice bp.out; subst bL; have dP := ao.out; have dQ := ap.out; obtain ⟨dR, dS, dT, dU⟩ := cL2 ae)))); refine bodyPost_ret (results_cc rfl _ _ ah ai 39 42 #[.slice none 0 0, .int .i64 0] #[.slice b5 bJ.length b6, .int .i64 bK] (0, 0) (0, 0) _ _ rfl (kB) Tryz.underlying39 rfl (by kernel_rfl) rfl (kB) Tryz.underlying42 rfl (by kernel_rfl)) rfl ?_; exact ⟨_, _, rE, nK, uR (Kd.R_mono (Kd.R_far (p := ⟨ai, 1, none⟩) (Kd.R_far (p := ⟨ai, 0, none⟩) (Kd.R_far (p := ⟨ah, 1, none⟩) (Kd.R_far (p := ⟨ah, 0, none⟩) (Kd.R_types (Kd.R_types bp.out ac.out (by decide)) ae.out (by decide)) (fun _ hk => hk.1.2) (.slice none 0 0)) (fun _ hk => hk.1.2) (.int .i64 0)) (fun _ hk => hk.2) (.slice b5 bJ.length b6)) (fun _ hk => hk.2) (.int .i64 bK)) (fun _ hk => trivial)), bH⟩
      ·exact nO H bY
     ·exact nO H bX
    ·rw [if_neg bm] at H
     have fx := decide_eq_false bm; clear bm; replace H := Option.bind_eq_some_iff.mp H; obtain ⟨⟨aV, fC⟩, dV, H⟩ := H; dsimp only at H; have bq := mk0 dV; clear dV
     by_cases b7 : fC = true
     ·subst b7
      replace H := iT H; simp only [Option.some.injEq, Prod.mk.injEq] at H; obtain ⟨rfl, rfl, rfl, rfl⟩ := H; have gH := ar.out; have gI := au.out; have gJ := av.out; have gK := aw.out; have gL := az.out; have gM := aA.out; have gN := aN.out; have gO := aQ.out; obtain ⟨gP, gQ, gR, gS⟩ := cL2 aa; have gT := ax.out; have gU := ay.out; have gV := aC.out; have gW := aD.out; have gX := aT.out; have gY := aU.out; obtain ⟨gZ, g6, g7, g8⟩ := cL2 ab
      go_wp2_with (first | (go_at_call 51; (with_reducible refine (furrowref4_Add.calls a0_1 a1_1 aV true _ bq.out).mono ?_); rintro e w' ⟨rfl, ⟨nd, rfl⟩⟩; (try first | exact ⟨rfl, _, World.drewN_drewN _ _ _⟩ | exact ⟨rfl, _, Eq.trans (World.drewN_drewN _ _ _) (congrArg (World.drewN _) (Nat.add_assoc _ _ _))⟩); have dW := am.out; have dX := al.out; have dZ := ap.out; have d6 := ao.out; obtain ⟨d7, d8, d9, d_⟩ := cL2 ag; obtain ⟨b8, b9, bM⟩ := Kd.R_slice af.out; subst bM; have ea := aj.out; have eb := ak.out; obtain ⟨ec, ed, ee, ef⟩ := cL2 ac; obtain ⟨eh, ei, ej, em⟩ := cL2 ae))
      refine bodyPost_ret (results_cc rfl _ _ ah ai 39 42 #[.slice b8 aE.length b9, .int .i64 aV] #[.slice none 0 0, .int .i64 0] (0, 0) (0, 0) _ _ rfl (kB) Tryz.underlying39 rfl (by kernel_rfl) rfl (kB) Tryz.underlying42 rfl (by kernel_rfl)) rfl ?_; exact ⟨_, _, rE, uR (Kd.R_mono (Kd.R_far (p := ⟨ai, 1, none⟩) (Kd.R_far (p := ⟨ai, 0, none⟩) (Kd.R_far (p := ⟨ah, 1, none⟩) (Kd.R_far (p := ⟨ah, 0, none⟩) (Kd.R_far (p := ⟨bl, 1, none⟩) (Kd.R_types (Kd.R_types (Kd.R_types af.out ag.out (by decide)) ac.out (by decide)) ae.out (by decide)) (fun _ hk => hk.1.1.2) (.int .i64 aV)) (fun _ hk => hk.1.2) (.slice b8 aE.length b9)) (fun _ hk => hk.1.2) (.int .i64 aV)) (fun _ hk => hk.2) (.slice none 0 0)) (fun _ hk => hk.2) (.int .i64 0)) (fun _ hk => trivial)), nK, bH⟩
     ·replace b7 := Bool.eq_false_iff.mpr b7
      subst b7; replace H := iF H; replace H := Option.bind_eq_some_iff.mp H; obtain ⟨⟨bO, bP⟩, eo, H⟩ := H; dsimp only at H; have cF := mk0 eo; clear eo; simp only [Option.some.injEq, Prod.mk.injEq] at H; obtain ⟨rfl, rfl, rfl, rfl⟩ := H; have g9 := ar.out; have g_ := au.out; have hD := av.out; have hJ := aw.out; have hU := az.out; have hX := aA.out; have hY := aN.out; have hZ := aQ.out; obtain ⟨ia, ib, ic, ie⟩ := cL2 aa; have ig := ax.out; have ii := ay.out; have ij := aC.out; have ik := aD.out; have il := aT.out; have im := aU.out; obtain ⟨io, ip, iq, ir⟩ := cL2 ab
      go_wp2_with (first | (go_at_call 51; (with_reducible refine (furrowref4_Add.calls a0_1 a1_1 aV false _ bq.out).mono ?_); rintro e w' ⟨rfl, ⟨nd, rfl⟩⟩; (try first | exact ⟨rfl, _, World.drewN_drewN _ _ _⟩ | exact ⟨rfl, _, Eq.trans (World.drewN_drewN _ _ _) (congrArg (World.drewN _) (Nat.add_assoc _ _ _))⟩); clear af) | (go_at_call 49; (with_reducible refine (furrowref14_over.calls  bO bP _ cF.out).mono ?_); rintro e ep ⟨eu, rfl, ho0, hb⟩; have br := mk0 (Kd.R_lower ho0 (below_size bH)); replace aa := bB aa hb; replace ab := bB ab hb; replace ac := bB ac hb; replace ae := bB ae hb; replace ag := bB ag hb; replace HB := hbB bH hb; (try clear hb ho0); have ew := aj.out; have ez := ak.out; have eA := al.out; have eB := am.out; obtain ⟨eC, eD, eE, eF⟩ := cL2 ac; obtain ⟨cd, ce, bQ⟩ := Kd.R_slice br.out; subst bQ; have eG := ao.out; have eH := ap.out; obtain ⟨eI, eJ, eL, eM⟩ := cL2 ae))
      refine bodyPost_ret (results_cc rfl _ _ ah ai 39 42 #[.slice none 0 0, .int .i64 0] #[.slice cd bO.length ce, .int .i64 bP] (0, 0) (0, 0) _ _ rfl (kB) Tryz.underlying39 rfl (by kernel_rfl) rfl (kB) Tryz.underlying42 rfl (by kernel_rfl)) rfl ?_; exact ⟨_, _, rE, nK, uR (Kd.R_mono (Kd.R_far (p := ⟨ai, 1, none⟩) (Kd.R_far (p := ⟨ai, 0, none⟩) (Kd.R_far (p := ⟨ah, 1, none⟩) (Kd.R_far (p := ⟨ah, 0, none⟩) (Kd.R_types (Kd.R_types br.out ac.out (by decide)) ae.out (by decide)) (fun _ hk => hk.1.2) (.slice none 0 0)) (fun _ hk => hk.1.2) (.int .i64 0)) (fun _ hk => hk.2) (.slice cd bO.length ce)) (fun _ hk => hk.2) (.int .i64 bP)) (fun _ hk => trivial)), bH⟩
 ·rw [if_neg c3] at H
  obtain ⟨cL, cM⟩ := nQ c3; (have cN : (l0_0.length == l1_0.length) = false := by first | simpa using c3 | (simp at c3 ⊢; omega)); replace H := Option.bind_eq_some_iff.mp H; obtain ⟨⟨bR, bT⟩, eN, H⟩ := H; dsimp only at H; have cG := mk0 eN; clear eN; simp only [Option.some.injEq, Prod.mk.injEq] at H; obtain ⟨rfl, rfl, rfl, rfl⟩ := H; go_enter Tryz.func33, Tryz.ntmps33
  go_wp2_with (first | ((with_reducible refine gate_dst (N := 2) rfl ?_); refine bxE 2 #[.slice A0_0 l0_0.length c0_0, .int .i64 a0_1] 39 ?_; intro bj hg eO hbox hb; have aa := mk0 (hbox); have bu := gE (uL HB.out) hg; replace HB := hbB (uL HB.out) hb; clear hb hbox hg) | ((with_reducible refine gate_dst (N := 3) rfl ?_); refine bxE 3 #[.slice A1_0 l1_0.length c1_0, .int .i64 a1_1] 39 ?_; intro bk hg eP hbox hb; have ab := mk0 (hbox); have bv := gE bH hg; replace HB := hbB bH hb; have ar := nL aa hg; have au := nG aa hg; replace aa := bB aa hb; clear hb hbox hg) | ((with_reducible refine gate_dst (N := 4) rfl ?_); refine bxE 4 #[.slice none 0 0, .int .i64 0] 39 ?_; intro ah hg eQ hbox hb; have ac := mk0 (hbox); have bw := gE bH hg; replace HB := hbB bH hb; have av := nL aa hg; have aw := nG aa hg; replace aa := bB aa hb; have ax := nL ab hg; have ay := nG ab hg; replace ab := bB ab hb; clear hb hbox hg) | ((with_reducible refine gate_dst (N := 5) rfl ?_); refine bxE 5 #[.slice none 0 0, .int .i64 0] 42 ?_; intro ai hg eR hbox hb; have ae := mk0 (hbox); have bz := gE bH hg; replace HB := hbB bH hb; have az := nL aa hg; have aA := nG aa hg; replace aa := bB aa hb; have aC := nL ab hg; have aD := nG ab hg; replace ab := bB ab hb; have aj := nL ac hg; have ak := nG ac hg; replace ac := bB ac hb; clear hb hbox hg; have eS := ar.out; have eT := au.out; have eU := av.out; have eV := aw.out; have eW := az.out; have eX := aA.out; obtain ⟨eY, eZ, e6, e7⟩ := cL2 aa; have e8 := ax.out; have e9 := ay.out; have fa := aC.out; have fb := aD.out; obtain ⟨fc, fd, fe, ff⟩ := cL2 ab) | (go_at_call 50; (with_reducible refine (furrowref14_unlike.calls  bR bT _ cG.out).mono ?_); rintro e fh ⟨fi, rfl, ho0, hb⟩; have bs := mk0 (Kd.R_lower ho0 (below_size bH)); replace aa := bB aa hb; replace ab := bB ab hb; replace ac := bB ac hb; replace ae := bB ae hb; replace HB := hbB bH hb; (try clear hb ho0); have fj := aj.out; have fk := ak.out; obtain ⟨fm, fo, fp, fq⟩ := cL2 ac; obtain ⟨cf, cg, bU⟩ := Kd.R_slice bs.out; subst bU; obtain ⟨ft, fu, fv, fw⟩ := cL2 ae))
  refine bodyPost_ret (results_cc rfl _ _ ah ai 39 42 #[.slice none 0 0, .int .i64 0] #[.slice cf bR.length cg, .int .i64 bT] (0, 0) (0, 0) _ _ rfl (kB) Tryz.underlying39 rfl (by kernel_rfl) rfl (kB) Tryz.underlying42 rfl (by kernel_rfl)) rfl ?_
  exact ⟨_, _, rE, nK, uR (Kd.R_mono (Kd.R_far (p := ⟨ai, 1, none⟩) (Kd.R_far (p := ⟨ai, 0, none⟩) (Kd.R_far (p := ⟨ah, 1, none⟩) (Kd.R_far (p := ⟨ah, 0, none⟩) (Kd.R_types (Kd.R_types bs.out ac.out (by decide)) ae.out (by decide)) (fun _ hk => hk.1.2) (.slice none 0 0)) (fun _ hk => hk.1.2) (.int .i64 0)) (fun _ hk => hk.2) (.slice cf bR.length cg)) (fun _ hk => hk.2) (.int .i64 bT)) (fun _ hk => trivial)), bH⟩

end Go.Proofs.YtnkckdbjeemjeaaGreatDoor.X
