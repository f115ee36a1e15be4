-- PRINTED by print.py (a twelfth state) out of the translation. Not trusted: Lean checks it.
import Derived.Test.YtmhkijidnpihmaaDoorXx0
namespace Go.Proofs.YtmhkijidnpihmaaDoor.X
open Go.Proofs.YtmhkijidnpihmaaDoor.Flt Go.Proofs.YtmhkijidnpihmaaDoor.H Go.RowKit Go.Proofs.YtmhkijidnpihmaaDoorW.PrintWords Go.Proofs.YtmhkijidnpihmaaDoorW.PrintLast Go.Proofs.YtmhkijidnpihmaaDoorW.PrintMore
attribute [local go_sem] max2_int min2_int max_two min_two max_three min_three max_four min_four   -- for this text's walks alone
set_option linter.unusedVariables false
set_option linter.unusedSimpArgs false

-- NOT PRINTED: function 30 (reflectlite_TypeOf)

-- NOT PRINTED: function 31 (errors_is)

-- NOT PRINTED: function 26 (errors_Is)

-- NOT PRINTED: function 32 (reflectlite_ValueOf)

-- NOT PRINTED: function 33 (reflectlite_Value_Type)

-- NOT PRINTED: function 34 (reflectlite_Value_IsNil)

-- NOT PRINTED: function 42 (reflectlite_Value_Elem)

-- NOT PRINTED: function 43 (reflectlite_Value_Set)

-- NOT PRINTED: function 35 (errors_as)

-- NOT PRINTED: function 27 (errors_As)

/-! ### furrowref4_At: function 21 -/
def furrowref4_At.f (a0 : ByteArray) (a1 : Int) (a2 : Int) : Option ((List (S83)) × Int) := some ((([(⟨a0, a1⟩ : S83)] : List (S83))), a2)
set_option maxHeartbeats 8000000 in
set_option maxRecDepth 100000 in
theorem furrowref4_At.calls (a0 : ByteArray) (a1 : Int) (a2 : Int) (r1 : List (S83)) (r2 : Int) (w : World) (h : furrowref4_At.f a0 a1 a2 = some (r1, r2)) :
  Calls Tryd.prog 21 #[.string a0, .int .i64 a1, .int .i64 a2] w fun e w' => ∃ v0_ : Value, e = .returned (.agg #[v0_, .int .i64 r2]) ∧ Kd.R k83 83 w' w.heap.size (fun _ => True) v0_ r1 ∧ Below w.heap.size w w' := by
 have hu50 := Tryd.underlying50
 have hu83 := Tryd.underlying83
 have HB := mk0 (Below.refl w.heap.size w)
 have H : (some ((([(⟨a0, a1⟩ : S83)] : List (S83))), a2)) = some (r1, r2) := h
 clear h
 obtain ⟨ac, aa⟩ : ∃ y_ : List (S83), y_ = (([(⟨a0, a1⟩ : S83)] : List (S83))) := ⟨_, rfl⟩
 replace H : (some (ac, a2)) = some (r1, r2) := by first | (rw [aa]; with_reducible exact H) | (have H2_ := (Option.bind_some _ _).symm.trans H; rw [aa]; with_reducible exact H2_) | (have H2_ := (Option.bind_some _ _).symm.trans H; with_reducible exact H2_) | with_reducible exact H | (rw [aa]; exact H) | exact H
 have af := mk0 aa
 clear aa
 simp only [Option.some.injEq, Prod.mk.injEq] at H
 obtain ⟨rfl, rfl⟩ := H
 go_enter Tryd.func21, Tryd.ntmps21
 go_wp2_with (first | ((with_reducible refine gate_dst (N := 6) rfl ?_); refine bxE 6 #[.slice none 0 0, .int .i64 0] 50 ?_; intro ae hg w4 hbox hb; have ab := mk0 (hbox); have ak := gE (uL HB.out) hg; have al := gE (uL HB.out) hg; replace HB := hbB (uL HB.out) hb; clear hb hbox hg) | ((with_reducible refine gate_dst (N := 10) rfl ?_); refine Kd.R_lit k83 _ 83 ?hg (N := 10) ?hd (xs := ([(⟨a0, a1⟩ : S83)] : List (S83))) (inner := [.string a0, .int .i64 a1]) (ok := fun _ => True) (okp := fun _ => True) ?hr ?hp (fun _ hk => hk) trivial (Below.refl _ _) (Nat.le_refl _) (by simp) ?_; (case hd => rfl); (case hg => rfl); (case hr => first | (go_simp; done) | (go_simp; rfl)); (case hp => exact (Reps.c2 (show Kd.M k83 _ _ _ (⟨a0, a1⟩ : S83) [.string a0, .int .i64 a1] from (k83_mkM _ _ _ (⟨a0, a1⟩ : S83) )) (Reps.none _ _))); intro am w5 ho6 hb hg_ hnew_; clear hg_ hnew_; (first | rw [← af.out] at ho6 | (simp only [Int.reduceToNat] at ho6; rw [← af.out] at ho6)); have ag := mk0 (Kd.R_lower ho6 (below_size bH)); replace ab := bB ab hb; replace HB := hbB bH hb; clear hb ho6; obtain ⟨ah, ai, aj⟩ := Kd.R_slice ag.out; subst aj; obtain ⟨ao, ap, aq, ar⟩ := cL2 ab))
 refine bodyPost_ret (results_cell_row rfl _ _ ae 50 #[.slice ah ac.length ai, .int .i64 a2] (0, 0) _ rfl (kB) Tryd.underlying50 rfl (by kernel_rfl)) rfl ?_
 exact ⟨_, rE, uR (Kd.R_mono (Kd.R_far (p := ⟨ae, 1, none⟩) (Kd.R_far (p := ⟨ae, 0, none⟩) (Kd.R_types ag.out ab.out (by decide)) (fun _ hk => hk.2) (.slice ah ac.length ai)) (fun _ hk => hk.2) (.int .i64 a2)) (fun _ hk => trivial)), bH⟩

/-! ### furrowlaw5_Of: function 9 -/
mutual
def furrowlaw5_Of.l0 : Nat → Int → Int → Int → ByteArray → List (S24) → Int → Int → ByteArray → List (S33) → Option (Int × Int × ByteArray × (List (S33)))
 | 0, _, _, _, _, _, _, _, _, _ => none
 | k + 1, x4, x215000, x215001, x215002, x215003, x217000, x217001, x217002, x217003 => if x4 < (x215003.length : Int) then (if 0 ≤ x4 then ((furrowlaw5_Of.f k ((rd_T24 x215003 x4).f0) ((rd_T24 x215003 x4).f1) ((rd_T24 x215003 x4).f2) ((rd_T24 x215003 x4).f3)).bind fun bt218 => (if x217003.length < 2513169434916 then (furrowlaw5_Of.l0 k (wrap64 (x4 + 1)) x215000 x215001 x215002 x215003 x217000 x217001 x217002 (x217003 ++ [(⟨bt218.1, bt218.2.1, bt218.2.2.1, bt218.2.2.2⟩ : S33)])) else (none))) else (none)) else (some (x217000, x217001, x217002, x217003))
def furrowlaw5_Of.f : Nat → Int → Int → ByteArray → List (S24) → Option (Int × Int × ByteArray × (List (S33)))
 | 0, _, _, _, _ => none
 | k + 1, a0_0, a0_1, a0_2, l0_3 => furrowlaw5_Of.l0 k 0 a0_0 a0_1 a0_2 l0_3 a0_0 a0_1 a0_2 ([] : List (S33))
end
theorem furrowlaw5_Of.mono_l : ∀ k, (∀ y0 y1 y2 y3, LeO (furrowlaw5_Of.f k y0 y1 y2 y3) (furrowlaw5_Of.f (k + 1) y0 y1 y2 y3)) ∧ (∀ y0 y1 y2 y3 y4 y5 y6 y7 y8, LeO (furrowlaw5_Of.l0 k y0 y1 y2 y3 y4 y5 y6 y7 y8) (furrowlaw5_Of.l0 (k + 1) y0 y1 y2 y3 y4 y5 y6 y7 y8))
 | 0 => by refine ⟨?_, ?_⟩ <;> intros <;> exact fun r h => by simp [furrowlaw5_Of.f, furrowlaw5_Of.l0] at h
 | k + 1 => by
  obtain ⟨i0_, i1_⟩ := furrowlaw5_Of.mono_l k; refine ⟨?_, ?_⟩ <;> intros
  ·unfold furrowlaw5_Of.f; exact lO_
  ·unfold furrowlaw5_Of.l0; exact lO_
theorem furrowlaw5_Of.mono : ∀ a0 a1 a2 a3 k, LeO (furrowlaw5_Of.f k a0 a1 a2 a3) (furrowlaw5_Of.f (k + 1) a0 a1 a2 a3) := by
 intro a0 a1 a2 a3 k
 obtain ⟨ih0, ih1⟩ := furrowlaw5_Of.mono_l k
 exact ih0 a0 a1 a2 a3
def furrowlaw5_Of.T5 : Bool × List (List Nat × List Nat) := (true, [([], []), ([0], [0]), ([], []), ([2], [2]), ([], []), ([3, 4], [3, 4]), ([5], [5]), ([6], [6]), ([7], [7]), ([1, 8, 7], [1, 8]), ([0, 1, 2, 3, 4, 5, 6, 7, 8, 9], []), ([10, 9, 9, 0, 1, 2, 3, 4, 5, 6, 7, 8, 9], [9, 10])])
def furrowlaw5_Of.B5 : List Nat := [0, 1, 0, 4, 0, 28, 60, 124, 252, 511, 1023, 2047]
theorem furrowlaw5_Of.tab5 : rtab .any (opsOf Tryd.f9 5) = furrowlaw5_Of.T5 := by kernel_rfl
theorem furrowlaw5_Of.bits5 : waitsOk furrowlaw5_Of.T5.2 furrowlaw5_Of.B5 = true := by kernel_rfl
set_option maxHeartbeats 8000000 in
set_option maxRecDepth 100000 in
theorem furrowlaw5_Of.calls (k : Nat) : ∀ (a0_0 : Int) (a0_1 : Int) (a0_2 : ByteArray) (A0_3 : Option Addr) (c0_3 : Nat) (l0_3 : List (S24)) (r1 : Int) (r2 : Int) (r3 : ByteArray) (r4 : List (S33)) (w : World) (hr0_3 : Kd.C k24 w A0_3 l0_3.length l0_3) (hc0_3 : l0_3.length ≤ c0_3) (h : furrowlaw5_Of.f k a0_0 a0_1 a0_2 l0_3 = some (r1, r2, r3, r4)),
  Calls Tryd.prog 9 #[.agg #[.int .i64 a0_0, .int .i64 a0_1, .string a0_2, .slice A0_3 l0_3.length c0_3]] w fun e w' => ∃ v3_ : Value, e = .returned (.agg #[.int .i64 r1, .int .i64 r2, .string r3, v3_]) ∧ Kd.R k33 33 w' w.heap.size (fun _ => True) v3_ r4 ∧ Below w.heap.size w w' := by
 induction k using Nat.strongRecOn with
 | _ k ih =>
 intro a0_0 a0_1 a0_2 A0_3 c0_3 l0_3 r1 r2 r3 r4 w hr0_3 hc0_3 h
 cases k with
 | zero => exact absurd h (by simp [furrowlaw5_Of.f])
 | succ k =>
 simp only [furrowlaw5_Of.f] at h
 have hu24 := Tryd.underlying24
 have hu33 := Tryd.underlying33
 have bf := mk0 hr0_3
 have bM := mk0 hc0_3
 clear hr0_3 hc0_3
 have HB := mk0 (Below.refl w.heap.size w)
 have H : (furrowlaw5_Of.l0 k 0 a0_0 a0_1 a0_2 l0_3 a0_0 a0_1 a0_2 ([] : List (S33))) = some (r1, r2, r3, r4) := h
 clear h
 have H' := mk0 H
 clear H
 go_enter Tryd.func9, Tryd.ntmps9
 go_wp2_with (first | ((with_reducible refine gate_dst (N := 1) rfl ?_); refine bxE 1 #[.int .i64 a0_0, .int .i64 a0_1, .string a0_2, .slice A0_3 l0_3.length c0_3] 24 ?_; intro al hg w2 hbox hb; have aa := mk0 (hbox); have bO := gE (uL HB.out) hg; have bP := gE (uL HB.out) hg; replace HB := hbB (uL HB.out) hb; clear hb hbox hg) | ((with_reducible refine gate_dst (N := 2) rfl ?_); refine bxE 2 #[.int .i64 0, .int .i64 0, .string (⟨#[]⟩ : ByteArray), .slice none 0 0] 33 ?_; intro ag hg w3 hbox hb; have ac := mk0 (hbox); have bQ := gE bH hg; have bR := gE bH hg; replace HB := hbB bH hb; have aD := nL aa hg; have aE := nG aa hg; replace aa := bB aa hb; clear hb hbox hg; have bT := aD.out; have bU := aE.out; obtain ⟨bg, bh, bi, bj, bk, bl, bm, bn⟩ := cL4 aa) | ((with_reducible refine gate_dst (N := 3) rfl ?_); refine bxE 3 #[.int .i64 0, .int .i64 0, .string (⟨#[]⟩ : ByteArray), .slice none 0 0] 33 ?_; intro af hg w6 hbox hb; have ab := mk0 (hbox); have bV := gE bH hg; have bW := gE bH hg; replace HB := hbB bH hb; have ar := nL aa hg; have au := nG aa hg; replace aa := bB aa hb; have aG := nL ac hg; have aH := nG ac hg; replace ac := bB ac hb; clear hb hbox hg; have bX := au.out; have bY := ar.out; have bZ := aH.out; have b3 := aG.out; obtain ⟨bo, bp, bq, br, bs, bu, bv, bw⟩ := cL4 ab))
 go_loopg [4] k (fun kq v4 w' => ∃ (x4_1 : Int) (ah : List (S33)) (ai : Value), v4 = .int .i64 x4_1 ∧ Aside0 (furrowlaw5_Of.l0 kq x4_1 a0_0 a0_1 a0_2 l0_3 a0_0 a0_1 a0_2 ah = some (r1, r2, r3, r4)) ∧ Aside0 (kq ≤ k) ∧ Aside0 (Kd.R k33 33 w' w.heap.size (fun k_ => k_ ≠ ag ∧ k_ ≠ af) ai ah) ∧ Aside0 (w'.heap[al]? = some (.cells #[.int .i64 a0_0, .int .i64 a0_1, .string a0_2, (.slice A0_3 l0_3.length c0_3)] 24 (0, 0))) ∧ Aside0 (w'.heap[ag]? = some (.cells #[.int .i64 0, .int .i64 0, .string (⟨#[]⟩ : ByteArray), (.slice none 0 0)] 33 (0, 0))) ∧ Aside0 (w'.heap[af]? = some (.cells #[.int .i64 a0_0, .int .i64 a0_1, .string a0_2, ai] 33 (0, 0))) ∧ Aside0 (Below w.heap.size w w'))
 case atStart => exact ⟨(0), (([] : List (S33))), (.slice none 0 0), eK, H', ⟨Nat.le_refl _⟩, ⟨nK⟩, ⟨kB⟩, ⟨kB⟩, ⟨kB⟩, ⟨bH⟩⟩
 case round =>
  clear H'; (try clear bg bh bi bj bo bp bq br bk bl bm bn bs bu bv bw); obtain ⟨x4_1, ah, ai, rfl, HA, aI, ae, aa, ac, ab, HB⟩ := hrel
  cases gk with
  | zero => exact absurd HA.out (by simp [furrowlaw5_Of.l0])
  | succ k1 =>
   have H := HA.out; clear HA; simp only [furrowlaw5_Of.l0] at H
   by_cases ak : x4_1 < (l0_3.length : Int)
   ·rw [if_pos ak] at H
    have bx := decide_eq_true ak; clear ak
    by_cases av : 0 ≤ x4_1
    ·rw [if_pos av] at H
     have b4 := decide_eq_true av; clear av; replace H := Option.bind_eq_some_iff.mp H; obtain ⟨⟨am, ao, ap, aq⟩, aQ, H⟩ := H; dsimp only at H; have bz := mk0 aQ; clear aQ
     by_cases aw : ah.length < 2513169434916
     ·rw [if_pos aw] at H
      have bC := mk0 aw; clear aw; obtain ⟨ax, aJ⟩ : ∃ y_ : List (S33), y_ = (ah ++ [(⟨am, ao, ap, aq⟩ : S33)]) := ⟨_, rfl⟩; (replace H : (furrowlaw5_Of.l0 k1 (wrap64 (x4_1 + 1)) a0_0 a0_1 a0_2 l0_3 a0_0 a0_1 a0_2 ax) = some (r1, r2, r3, r4) := by (try rw [aJ]); first | with_reducible exact H | with_reducible exact oN H | exact H); have bE := mk0 aJ; clear aJ; have H' := mk0 H; clear H; have b5 := aD.out; have b6 := aE.out; have b7 := ar.out; have b8 := au.out; obtain ⟨b9, ca, cb, cd, ce, cf, cg, ch⟩ := cL4 aa; (try go_wp2); replace ae := mk0 (Kd.R_drew ae.out); replace aa := mk0 (blk_drew aa.out); replace ac := mk0 (blk_drew ac.out); replace ab := mk0 (blk_drew ab.out); replace HB := mk0 (below_drew1 HB.out); have aK : 0 ≤ (x4_1 : Int) := dY; have aM : x4_1 < (l0_3.length : Int) := dY; obtain ⟨aj, aT, aU, bF, ay, az, aA, aC, aV, aW⟩ := at_T24 bf.out x4_1 aK aM; have hw217_3 := aC; have hw217_2 := aA; have hw217_1 := az; have hw217_0 := ay
      cases bF
      replace ay := oC HB ay; replace az := oC HB az; replace aA := oC HB aA; replace aC := oC HB aC; have aX := mk0 aW; have bG := mk0 aV; clear aW aV; replace aK := eq_true aK; replace aM := eq_true aM; refine start_ (n := 12) (S := fun w' => w'.cell? ⟨af, 0, none⟩ = some (.int .i64 a0_0) ∧ w'.cell? ⟨af, 1, none⟩ = some (.int .i64 a0_1) ∧ w'.cell? ⟨af, 2, none⟩ = some (.string a0_2) ∧ w'.cell? ⟨af, 3, none⟩ = some (ai) ∧ w'.cell? ⟨al, 0, none⟩ = some (.int .i64 a0_0) ∧ w'.cell? ⟨al, 1, none⟩ = some (.int .i64 a0_1) ∧ w'.cell? ⟨al, 2, none⟩ = some (.string a0_2) ∧ w'.cell? ⟨al, 3, none⟩ = some (.slice (some aj) l0_3.length c0_3) ∧ w'.cell? (aj.add ((x4_1).toNat * 4)) = some (.int .i64 ((rd_T24 l0_3 x4_1).f0)) ∧ w'.cell? ⟨(aj.add ((x4_1).toNat * 4)).block, (aj.add ((x4_1).toNat * 4)).off + 1, none⟩ = some (.int .i64 ((rd_T24 l0_3 x4_1).f1)) ∧ w'.cell? ⟨(aj.add ((x4_1).toNat * 4)).block, (aj.add ((x4_1).toNat * 4)).off + 2, none⟩ = some (.string ((rd_T24 l0_3 x4_1).f2)) ∧ w'.cell? ⟨(aj.add ((x4_1).toNat * 4)).block, (aj.add ((x4_1).toNat * 4)).off + 3, none⟩ = some (.slice aT ((rd_T24 l0_3 x4_1).f3).length aU)) (ds := [11]) (bts 12 0) (by kernel_rfl) rfl rfl ⟨(blk_cell ab.out 0).trans rfl, (blk_cell ab.out 1).trans rfl, (blk_cell ab.out 2).trans rfl, (blk_cell ab.out 3).trans rfl, (blk_cell aa.out 0).trans rfl, (blk_cell aa.out 1).trans rfl, (blk_cell aa.out 2).trans rfl, (blk_cell aa.out 3).trans rfl, ((HB.out.cell (World.block_lt_of_cell? w _ hw217_0)).trans hw217_0), ((HB.out.cell (World.block_lt_of_cell? w _ hw217_1)).trans hw217_1), ((HB.out.cell (World.block_lt_of_cell? w _ hw217_2)).trans hw217_2), ((HB.out.cell (World.block_lt_of_cell? w _ hw217_3)).trans hw217_3)⟩ (fun hHeld => ?_); refine with_tabW furrowlaw5_Of.tab5 furrowlaw5_Of.bits5 (fun HT_ HW_ => ?_); generalize wr.drew = ci at ae aa ac ab HB aX ay az aA aC hHeld ⊢; refine qA 0 1 ?_; refine qA 2 5 ?_; refine qA 4 21 ?_; refine take_ (i := 1) (N := some 20) (v := ?_) (a' := ?_) (bts 12 23) rfl rfl (take_ofW HT_.out HW_.out (by kernel_rfl)) (fun _ _ _ h => h) (Or.inl ⟨by rfl, ?_⟩) hHeld ?_ ?_; rotate_left
      ·rintro w' ⟨s0, s1, s2, s3, s4, s5, s6, s7, s8, s9, s10, s11⟩
       go_simp; (with_reducible rfl)
      rotate_left
      ·simp only [AP, i64_w, i32_w]
       rfl
      refine take_ (i := 3) (N := some 22) (v := ?_) (a' := ?_) (bts 12 31) rfl rfl (take_ofW HT_.out HW_.out (by kernel_rfl)) (fun _ _ _ h => h) (Or.inl ⟨by rfl, ?_⟩) hHeld ?_ ?_; rotate_left
      ·rintro w' ⟨s0, s1, s2, s3, s4, s5, s6, s7, s8, s9, s10, s11⟩
       go_simp; (with_reducible rfl)
      rotate_left
      ·simp only [AP, i64_w, i32_w]
       rfl
      refine qA 5 63 ?_; refine take_ (i := 6) (N := some 25) (v := ?_) (a' := ?_) (bts 12 127) rfl rfl (take_ofW HT_.out HW_.out (by kernel_rfl)) (fun _ _ _ h => h) (Or.inl ⟨by rfl, ?_⟩) hHeld ?_ ?_; rotate_left
      ·rintro w' ⟨s0, s1, s2, s3, s4, s5, s6, s7, s8, s9, s10, s11⟩
       go_simp; (with_reducible rfl)
      rotate_left
      ·simp only [AP, i64_w, i32_w]
       rfl
      refine one_ (i := 7) (N := some 26) (bts 12 255) rfl rfl (one_of HT_.out (by kernel_rfl)) (by decide) (fun K hK => ?_); refine goes_ Tryd.func9 (by kernel_rfl) rfl #[.agg #[.int .i64 ((rd_T24 l0_3 x4_1).f0), .int .i64 ((rd_T24 l0_3 x4_1).f1), .string ((rd_T24 l0_3 x4_1).f2), .slice aT ((rd_T24 l0_3 x4_1).f3).length aU]] (by rfl) rfl rfl (by (try simp only [List.map_toArray, List.map_cons, List.map_nil]); first | done | rfl | (simp only [List.length_drop, List.length_take]; rfl)) ?_; (with_reducible refine (ih k1 (by have := aI.out; omega) ((rd_T24 l0_3 x4_1).f0) ((rd_T24 l0_3 x4_1).f1) ((rd_T24 l0_3 x4_1).f2) _ _ ((rd_T24 l0_3 x4_1).f3) am ao ap aq _ ?side1 ?side2 bz.out).mono ?_); (case side1 => exact uC (Kd.C_below aX.out HB.out)); (case side2 => exact bG.out); rintro e cj ⟨ck, rfl, ho0, hb⟩; refine ⟨_, rfl, ?_⟩; have aN := mk0 (Kd.R_lower (Kd.R_newB (Kd.R_newB (Kd.R_new' ho0 (Kd.R_lt (uR ae.out))) (g := ag) (o := .cells #[.int .i64 0, .int .i64 0, .string (⟨#[]⟩ : ByteArray), .slice none 0 0] 33 (0, 0)) (uB ac.out)) (g := af) (o := .cells #[.int .i64 a0_0, .int .i64 a0_1, .string a0_2, ai] 33 (0, 0)) (uB ab.out)) (below_size bH)); replace ae := mk0 (Kd.R_elder' (uR ae.out) (Kd.R_base ho0) hb); replace aa := bB aa hb; replace ac := bB ac hb; replace ab := bB ab hb; replace HB := hbB bH hb; (try clear hb ho0); obtain ⟨bI, bJ, aY⟩ := Kd.R_slice aN.out; (first | subst aY | (injection aY with f1_ f2_ f3_; have f4_ := f1_.symm; have f5_ := f3_.symm; clear f1_ f2_ f3_; subst f4_; subst f5_)); refine hK.out _ _ ⟨(blk_cell ab.out 0).trans rfl, (blk_cell ab.out 1).trans rfl, (blk_cell ab.out 2).trans rfl, (blk_cell ab.out 3).trans rfl, (blk_cell aa.out 0).trans rfl, (blk_cell aa.out 1).trans rfl, (blk_cell aa.out 2).trans rfl, (blk_cell aa.out 3).trans rfl, ((HB.out.cell (World.block_lt_of_cell? w _ hw217_0)).trans hw217_0), ((HB.out.cell (World.block_lt_of_cell? w _ hw217_1)).trans hw217_1), ((HB.out.cell (World.block_lt_of_cell? w _ hw217_2)).trans hw217_2), ((HB.out.cell (World.block_lt_of_cell? w _ hw217_3)).trans hw217_3)⟩ (fun hHeld => ?_); clear hK K; refine norm_ (a' := ?_) ?_ ?_; rotate_left
      ·show Act.put _ (some 26) _ = _
       simp only [AP, i64_w, i32_w]; rfl
      refine one_ (i := 8) (N := some 27) (bts 12 511) rfl rfl (one_of HT_.out (by kernel_rfl)) (by decide) (fun K hK => ?_); refine value_ (w1 := ?_) (v := ?_) (by rfl) rfl ?_ ?_; rotate_left 2
      ·go_simp
       constructor
       ·rfl
       ·rfl
      refine hK.out _ _ ⟨(blk_cell (blk_alloc ab.out _) 0).trans rfl, (blk_cell (blk_alloc ab.out _) 1).trans rfl, (blk_cell (blk_alloc ab.out _) 2).trans rfl, (blk_cell (blk_alloc ab.out _) 3).trans rfl, (blk_cell (blk_alloc aa.out _) 0).trans rfl, (blk_cell (blk_alloc aa.out _) 1).trans rfl, (blk_cell (blk_alloc aa.out _) 2).trans rfl, (blk_cell (blk_alloc aa.out _) 3).trans rfl, (World.cell?_alloc_lt _ _ _ (World.block_lt_of_cell? _ _ (((HB.out.cell (World.block_lt_of_cell? w _ hw217_0)).trans hw217_0)))).trans (((HB.out.cell (World.block_lt_of_cell? w _ hw217_0)).trans hw217_0)), (World.cell?_alloc_lt _ _ _ (World.block_lt_of_cell? _ _ (((HB.out.cell (World.block_lt_of_cell? w _ hw217_1)).trans hw217_1)))).trans (((HB.out.cell (World.block_lt_of_cell? w _ hw217_1)).trans hw217_1)), (World.cell?_alloc_lt _ _ _ (World.block_lt_of_cell? _ _ (((HB.out.cell (World.block_lt_of_cell? w _ hw217_2)).trans hw217_2)))).trans (((HB.out.cell (World.block_lt_of_cell? w _ hw217_2)).trans hw217_2)), (World.cell?_alloc_lt _ _ _ (World.block_lt_of_cell? _ _ (((HB.out.cell (World.block_lt_of_cell? w _ hw217_3)).trans hw217_3)))).trans (((HB.out.cell (World.block_lt_of_cell? w _ hw217_3)).trans hw217_3))⟩ (fun hHeld => ?_); clear hK K; refine norm_ (a' := ?_) ?_ ?_; rotate_left
      ·show Act.put _ (some 27) _ = _
       simp only [AP, i64_w, i32_w]; rfl
      refine one_ (i := 9) (N := some 28) (bts 12 1023) rfl rfl (one_of HT_.out (by kernel_rfl)) (by decide) (fun K hK => ?_); refine Kd.R_append_step k33 (w0 := w) w.heap.size (by rfl) (.tmp 20) (.tmp 27) 31 33 (.agg #[(.int .i64 0), (.int .i64 0), (.string ⟨#[]⟩), (.slice none 0 0)]) 56 rfl Tryd.underlying31 info33 rfl (by decide) (by omega) ai ah (⟨am, ao, ap, aq⟩ : S33) [.int .i64 am, .int .i64 ao, .string ap, .slice bI aq.length bJ] (fun k_ => k_ ≠ ag ∧ k_ ≠ af) (fun k_ => ((fun k_ => k_ ≠ ag ∧ k_ ≠ af)) k_ ∧ some k_ ≠ (ai : Value).ownBlock) rfl rfl ?aP (fun _ hk => hk) ?aF ?aO ?aB ?aS ?aL ?_; (case aP => exact k33_mkM _ _ _ (⟨am, ao, ap, aq⟩ : S33) (Kd.R_mono (aN.out) (fun k_ hk => ⟨⟨hk.1.2, hk.2⟩, hk.1.1.2⟩))); (case aB => exact bH); (case aF => exact (fun k_ hk => ⟨fB ac hk, fB ab hk⟩)); (case aO => exact (uR (rP ae))); (case aS => exact (below_size bH)); (case aL => have := bC.out; omega); intro cl bK ho hb hg hat; rw [← bE.out] at ho; have n0_ := (gB aa hg (Kd.R_ne ae.out aa.out (by decide))); have n1_ := (gB ac hg (Kd.R_away ae.out (fun _ hk => hk.1.1))); have n2_ := (gB ab hg (Kd.R_away ae.out (fun _ hk => hk.1.2))); have n3_ := mk0 (hb); have n4_ := mk0 (ho); clear aa ac ab HB ae aN; have aa := n0_; have ac := n1_; have ab := n2_; have HB := n3_; have aZ := n4_; clear n0_ n1_ n2_ n3_ n4_; clear ho hb hg hat; obtain ⟨a_, ba, bb⟩ := Kd.R_slice aZ.out; (first | subst bb | (injection bb with f1_ f2_ f3_; have f4_ := f1_.symm; have f5_ := f3_.symm; clear f1_ f2_ f3_; subst f4_; subst f5_)); refine hK.out _ _ ⟨(blk_cell ab.out 0).trans rfl, (blk_cell ab.out 1).trans rfl, (blk_cell ab.out 2).trans rfl, (blk_cell ab.out 3).trans rfl, (blk_cell aa.out 0).trans rfl, (blk_cell aa.out 1).trans rfl, (blk_cell aa.out 2).trans rfl, (blk_cell aa.out 3).trans rfl, ((HB.out.cell (World.block_lt_of_cell? w _ hw217_0)).trans hw217_0), ((HB.out.cell (World.block_lt_of_cell? w _ hw217_1)).trans hw217_1), ((HB.out.cell (World.block_lt_of_cell? w _ hw217_2)).trans hw217_2), ((HB.out.cell (World.block_lt_of_cell? w _ hw217_3)).trans hw217_3)⟩ (fun hHeld => ?_); clear hK K; refine norm_ (a' := ?_) ?_ ?_; rotate_left
      ·show Act.put _ (some 28) _ = _
       simp only [AP, i64_w, i32_w]; rfl
      refine qA 10 2047 ?_; refine last_ (i := 11) (N := none) (bts 12 4095) rfl rfl (one_of HT_.out (by kernel_rfl)) (by decide) (fun K hK => ?_); have hs22 : bK.cell? ⟨af, 3, none⟩ = some (ai) := (blk_cell ab.out 3).trans rfl; have hfs22 := blk_frozen ab.out 3; have cm := ar.out; have cn := aG.out; have cp := au.out; have cq := aH.out; refine skip_ (w1 := ?_) (by rfl) rfl ?_ ?_; rotate_left
      ·go_simp
       rfl
      refine hK.out _ _ ?_; clear hK K; refine done_ (done_of HT_.out (by kernel_rfl)) ?_; (try go_wp2)
      go_roundg k1
      case measure => have := aI.out; omega
      case rel => exact ⟨(wrap64 (x4_1 + 1)), (ax), (.slice a_ ax.length ba), eK, H', ⟨by have := aI.out; omega⟩, ⟨uR (Kd.R_mono (Kd.R_far (p := ⟨af, 3, none⟩) (Kd.R_mono aZ.out (fun k_ hk => (⟨hk, hk.2⟩ : _ ∧ k_ ≠ af))) (fun _ hk => hk.2) (.slice a_ ax.length ba)) (fun _ hk => ⟨hk.1.1, hk.1.2⟩))⟩, ⟨kB⟩, ⟨kB⟩, ⟨kB⟩, ⟨bH⟩⟩
     ·exact nO H aw
    ·exact nO H av
   ·rw [if_neg ak] at H
    have bx := decide_eq_false ak; clear ak; simp only [Option.some.injEq, Prod.mk.injEq] at H; obtain ⟨rfl, rfl, rfl, rfl⟩ := H; have cr := aD.out; have ct := aE.out; have cu := ar.out; have cv := au.out; obtain ⟨cw, cx, cy, cz, cA, cD, cE, cF⟩ := cL4 aa; have cG := aH.out; have cH := aG.out; obtain ⟨cI, cJ, cK, cL, cM, cN, cO, cP⟩ := cL4 ab; obtain ⟨cR, cS, cT, cU, cV, cW, cX, cY⟩ := cL4 ac; obtain ⟨bc, bd, bL⟩ := Kd.R_slice ae.out; subst bL; go_wp2; refine bodyPost_ret (results_cell_row rfl _ _ ag 33 #[.int .i64 a0_0, .int .i64 a0_1, .string a0_2, .slice bc ah.length bd] (0, 0) _ rfl (kB) Tryd.underlying33 rfl (by kernel_rfl)) rfl ?_; exact ⟨_, rE, uR (Kd.R_mono (Kd.R_far (p := ⟨ag, 3, none⟩) (Kd.R_far (p := ⟨ag, 2, none⟩) (Kd.R_far (p := ⟨ag, 1, none⟩) (Kd.R_far (p := ⟨ag, 0, none⟩) (Kd.R_mono ae.out (fun k_ hk => (⟨hk, hk.1⟩ : _ ∧ k_ ≠ ag))) (fun _ hk => hk.2) (.int .i64 a0_0)) (fun _ hk => hk.2) (.int .i64 a0_1)) (fun _ hk => hk.2) (.string a0_2)) (fun _ hk => hk.2) (.slice bc ah.length bd)) (fun _ hk => trivial)), bH⟩

end Go.Proofs.YtmhkijidnpihmaaDoor.X
