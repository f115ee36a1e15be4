-- PRINTED by print.py (a twelfth state) out of the translation. Not trusted: Lean checks it.
import Derived.Test.YtnkckdbjeemjeaaGreatDoorXx0
import Derived.Test.YtnkckdbjeemjeaaGreatDoorXx3
import Derived.Test.YtnkckdbjeemjeaaGreatDoorXx4
namespace Go.Proofs.YtnkckdbjeemjeaaGreatDoor.X
open Go.Proofs.YtnkckdbjeemjeaaGreatDoor.Flt Go.Proofs.YtnkckdbjeemjeaaGreatDoor.H Go.RowKit Go.Proofs.YtnkckdbjeemjeaaGreatDoorW.PrintWords Go.Proofs.YtnkckdbjeemjeaaGreatDoorW.PrintLast Go.Proofs.YtnkckdbjeemjeaaGreatDoorW.PrintMore
attribute [local go_sem] max2_int min2_int max_two min_two max_three min_three max_four min_four   -- for this text's walks alone
set_option linter.unusedVariables false
set_option linter.unusedSimpArgs false

/-! ### lift_less: function 58 -/
def lift_less.l0 : Nat → List Int → Int → Int → List Int → Int → List Int → Int → List Int → Int → Option (List Int × Int × Option Int)
 | 0, _, _, _, _, _, _, _, _, _ => none
 | k + 1, x15, x16, x17, x164000, x164001, x165000, x165001, x167000, x167001 => if x17 < x16 then (if 0 ≤ x17 then (if x17 < (x15.length : Int) then (if x17 < (x165000.length : Int) then ((num_Sub.f (rd x15 x17) (rd x165000 x17)).bind fun bt169 => (if bt169.2 = true then (if x167000.length < 17592186044416 then (lift_less.l0 k x15 x16 (wrap64 (x17 + 1)) x164000 x164001 x165000 x165001 (x167000 ++ [bt169.1]) x167001) else (none)) else (none))) else (none)) else (none)) else (none)) else ((num_Sub.f x164001 x165001).bind fun bt174 => (if bt174.2 = true then (some (x167000, bt174.1, none)) else (none)))
def lift_less.f (k : Nat) (l0_0 : List Int) (a0_1 : Int) (l1_0 : List Int) (a1_1 : Int) : Option (List Int × Int × Option Int) := lift_less.l0 k l0_0 (l0_0.length : Int) 0 l0_0 a0_1 l1_0 a1_1 ([] : List Int) 0
theorem lift_less.mono_l : ∀ k, (∀ y0 y1 y2 y3 y4 y5 y6 y7 y8, LeO (lift_less.l0 k y0 y1 y2 y3 y4 y5 y6 y7 y8) (lift_less.l0 (k + 1) y0 y1 y2 y3 y4 y5 y6 y7 y8))
 | 0 => fun _ _ _ _ _ _ _ _ _ r h => by simp [lift_less.l0] at h
 | k + 1 => by
  have ih0 := lift_less.mono_l k
  ·intro y0 y1 y2 y3 y4 y5 y6 y7 y8
   unfold lift_less.l0
   repeat' first
   | (with_reducible exact ih0 _ _ _ _ _ _ _ _ _)
   | (with_reducible exact LeO.refl _)
   | (with_reducible exact LeO.none _)
   | (with_reducible refine LeO.ite ?_ ?_)
   | (with_reducible refine LeO.bind ?_ (fun _ => ?_))
   | exact ih0 _ _ _ _ _ _ _ _ _
   | exact LeO.none _
   | refine LeO.ite ?_ ?_
   | refine LeO.bind ?_ (fun _ => ?_)
theorem lift_less.mono : ∀ a0 a1 a2 a3 k, LeO (lift_less.f k a0 a1 a2 a3) (lift_less.f (k + 1) a0 a1 a2 a3) := by
 intro a0 a1 a2 a3 k
 have ih0 := lift_less.mono_l k
 unfold lift_less.f
 repeat' first
   | (with_reducible exact ih0 _ _ _ _ _ _ _ _ _)
   | (with_reducible exact LeO.refl _)
   | (with_reducible exact LeO.none _)
   | (with_reducible refine LeO.ite ?_ ?_)
   | (with_reducible refine LeO.bind ?_ (fun _ => ?_))
   | exact ih0 _ _ _ _ _ _ _ _ _
   | exact LeO.none _
   | refine LeO.ite ?_ ?_
   | refine LeO.bind ?_ (fun _ => ?_)
set_option maxHeartbeats 8000000 in
set_option maxRecDepth 100000 in
theorem lift_less.calls (k : Nat) (A0_0 : Option Addr) (c0_0 : Nat) (l0_0 : List Int) (a0_1 : Int) (A1_0 : Option Addr) (c1_0 : Nat) (l1_0 : List Int) (a1_1 : Int) (r1 : List Int) (r2 : Int) (r3 : Option Int) (w : World) (hr0_0 : Kd.C (Kd.int .i64) w A0_0 l0_0.length l0_0) (hc0_0 : l0_0.length ≤ c0_0) (hr1_0 : Kd.C (Kd.int .i64) w A1_0 l1_0.length l1_0) (hc1_0 : l1_0.length ≤ c1_0) (h : lift_less.f k l0_0 a0_1 l1_0 a1_1 = some (r1, r2, r3)) :
  Calls Tryz.prog 58 #[.agg #[.slice A0_0 l0_0.length c0_0, .int .i64 a0_1], .agg #[.slice A1_0 l1_0.length c1_0, .int .i64 a1_1]] w fun e w' => ∃ v0_ : Value, e = .returned (.tuple #[.agg #[v0_, .int .i64 r2], errW r3]) ∧ Kd.R (Kd.int .i64) 2 w' w.heap.size (fun _ => True) v0_ r1 ∧ Below w.heap.size w w' := by
 have hu46 := Tryz.underlying46
 have bm := mk0 hr0_0
 have bR := mk0 hc0_0
 clear hr0_0 hc0_0
 have bn := mk0 hr1_0
 have bT := mk0 hc1_0
 clear hr1_0 hc1_0
 have HB := mk0 (Below.refl w.heap.size w)
 have H : (lift_less.l0 k l0_0 (l0_0.length : Int) 0 l0_0 a0_1 l1_0 a1_1 ([] : List Int) 0) = some (r1, r2, r3) := h
 clear h
 have H' := mk0 H
 clear H
 go_enter Tryz.func58, Tryz.ntmps58
 go_wp2_with (first | ((with_reducible refine gate_dst (N := 2) rfl ?_); refine bxE 2 #[.slice A0_0 l0_0.length c0_0, .int .i64 a0_1] 46 ?_; intro ay hg w3 hbox hb; have aa := mk0 (hbox); have bU := gE (uL HB.out) hg; have bV := gE (uL HB.out) hg; replace HB := hbB (uL HB.out) hb; clear hb hbox hg) | ((with_reducible refine gate_dst (N := 3) rfl ?_); refine bxE 3 #[.slice A1_0 l1_0.length c1_0, .int .i64 a1_1] 46 ?_; intro az hg w4 hbox hb; have ab := mk0 (hbox); have bW := gE bH hg; have bX := gE bH hg; replace HB := hbB bH hb; have aA := nL aa hg; have aC := nG aa hg; replace aa := bB aa hb; clear hb hbox hg) | ((with_reducible refine gate_dst (N := 4) rfl ?_); refine bxE 4 #[.slice none 0 0, .int .i64 0] 46 ?_; intro aj hg w5 hbox hb; have ae := mk0 (hbox); have bY := gE bH hg; have bZ := gE bH hg; replace HB := hbB bH hb; have aU := nL aa hg; have aV := nG aa hg; replace aa := bB aa hb; have aW := nL ab hg; have aX := nG ab hg; replace ab := bB ab hb; clear hb hbox hg) | ((with_reducible refine gate_dst (N := 6) rfl ?_); refine bxE 6 #[.slice none 0 0, .int .i64 0] 46 ?_; intro al hg w6 hbox hb; have af := mk0 (hbox); have b4 := gE bH hg; have b5 := gE bH hg; replace HB := hbB bH hb; have aD := nL aa hg; have aE := nG aa hg; replace aa := bB aa hb; have aG := nL ab hg; have aH := nG ab hg; replace ab := bB ab hb; have aI := nL ae hg; have aJ := nG ae hg; replace ae := bB ae hb; clear hb hbox hg; have b6 := aE.out; have b7 := aD.out; have b8 := aH.out; have b9 := aG.out; have cd := aJ.out; have ce := aI.out; obtain ⟨bo, bp, bq, br⟩ := cL2 af; have cf := aA.out; have cg := aC.out; have ch := aU.out; have ci := aV.out; obtain ⟨bs, bu, bv, bw⟩ := cL2 aa))
 go_loopg [17] k (fun kq v17 w' => ∃ (ac : Int) (ah : List Int) (ai : Value), v17 = .int .i64 ac ∧ Aside0 (lift_less.l0 kq l0_0 (l0_0.length : Int) ac l0_0 a0_1 l1_0 a1_1 ah 0 = some (r1, r2, r3)) ∧ Aside0 (kq ≤ k) ∧ Aside0 (Kd.R (Kd.int .i64) 2 w' w.heap.size (fun _ => True) ai ah) ∧ Aside0 (w'.heap[ay]? = some (.cells #[(.slice A0_0 l0_0.length c0_0), .int .i64 a0_1] 46 (0, 0))) ∧ Aside0 (w'.heap[az]? = some (.cells #[(.slice A1_0 l1_0.length c1_0), .int .i64 a1_1] 46 (0, 0))) ∧ Aside0 (w'.heap[aj]? = some (.cells #[(.slice none 0 0), .int .i64 0] 46 (0, 0))) ∧ Aside0 (w'.heap[al]? = some (.cells #[ai, .int .i64 0] 46 (0, 0))) ∧ Aside0 (Below w.heap.size w w'))
 case atStart => exact ⟨(0), (([] : List Int)), (.slice none 0 0), eK, H', ⟨Nat.le_refl _⟩, ⟨nK⟩, ⟨kB⟩, ⟨kB⟩, ⟨kB⟩, ⟨kB⟩, ⟨bH⟩⟩
 case round =>
  clear H'; (try clear bo bp bs bu bq br bv bw); obtain ⟨ac, ah, ai, rfl, HA, aY, ag, aa, ab, ae, af, HB⟩ := hrel
  cases gk with
  | zero => exact absurd HA.out (by simp [lift_less.l0])
  | succ k1 =>
   have H := HA.out; clear HA; simp only [lift_less.l0] at H
   by_cases ak : ac < (l0_0.length : Int)
   ·rw [if_pos ak] at H
    have bz := decide_eq_true ak; clear ak
    by_cases am : 0 ≤ ac
    ·rw [if_pos am] at H
     have cj := decide_eq_true am; clear am
     by_cases ao : ac < (l0_0.length : Int)
     ·rw [if_pos ao] at H
      have ck := decide_eq_true ao; clear ao
      by_cases ap : ac < (l1_0.length : Int)
      ·rw [if_pos ap] at H
       have cl := decide_eq_true ap; clear ap; replace H := Option.bind_eq_some_iff.mp H; obtain ⟨⟨aq, bC⟩, aZ, H⟩ := H; dsimp only at H; have bE := mk0 aZ; clear aZ
       by_cases ar : bC = true
       ·subst ar
        replace H := iT H
        by_cases au : ah.length < 17592186044416
        ·rw [if_pos au] at H
         have bF := mk0 au; clear au; obtain ⟨av, aK⟩ : ∃ y_ : List Int, y_ = (ah ++ [aq]) := ⟨_, rfl⟩; (replace H : (lift_less.l0 k1 l0_0 (l0_0.length : Int) (wrap64 (ac + 1)) l0_0 a0_1 l1_0 a1_1 av 0) = some (r1, r2, r3) := by (try rw [aK]); first | with_reducible exact H | with_reducible exact oN H | exact H); have bG := mk0 aK; clear aK; have H' := mk0 H; clear H; have aM : 0 ≤ (ac : Int) := dY; have aN : ac < (l0_0.length : Int) := dY; obtain ⟨bI, bJ, a_⟩ := Kd.at_int bm.out ac aM aN
         cases bJ
         replace a_ := oC HB a_; replace aM := eq_true aM; replace aN := eq_true aN; have cm := aC.out; have cn := aA.out; have cp := aW.out; have cq := aX.out; have cr := aG.out; have ct := aH.out; obtain ⟨cu, cv, cw, cx⟩ := cL2 ab; have aQ : 0 ≤ (ac : Int) := dY; have aT : ac < (l1_0.length : Int) := dY; obtain ⟨bK, bL, bf⟩ := Kd.at_int bn.out ac aQ aT
         cases bL
         replace bf := oC HB bf; replace aQ := eq_true aQ; replace aT := eq_true aT
         go_wp2_with (first | ((with_reducible refine gate_dst (N := 29) rfl ?_); refine gsM (some 29) Tryz.func85 #[.int .i64 (rd l0_0 ac), .int .i64 (rd l1_0 ac)] ?_; (with_reducible refine (num_Sub.calls (rd l0_0 ac) (rd l1_0 ac) aq true _ bE.out).mono ?_); rintro e w' ⟨rfl, ⟨nd, rfl⟩⟩; refine ⟨_, rfl, ?_⟩; (try (rw [drewN_self wr]; generalize hq_ : World.drewN wr _ = wr; have n0_ : Aside0 (Kd.R (Kd.int .i64) 2 wr w.heap.size (fun _ => True) ai ah) := ⟨by rw [← hq_]; exact (uR ag.out)⟩; have n1_ : Aside0 (wr.heap[ay]? = some (.cells #[.slice (some bI) l0_0.length c0_0, .int .i64 a0_1] 46 (0, 0))) := ⟨by rw [← hq_]; exact (uB aa.out)⟩; have n2_ : Aside0 (wr.heap[az]? = some (.cells #[.slice (some bK) l1_0.length c1_0, .int .i64 a1_1] 46 (0, 0))) := ⟨by rw [← hq_]; exact (uB ab.out)⟩; have n3_ : Aside0 (wr.heap[aj]? = some (.cells #[.slice none 0 0, .int .i64 0] 46 (0, 0))) := ⟨by rw [← hq_]; exact (uB ae.out)⟩; have n4_ : Aside0 (wr.heap[al]? = some (.cells #[ai, .int .i64 0] 46 (0, 0))) := ⟨by rw [← hq_]; exact (uB af.out)⟩; have n5_ : Aside0 (Below w.heap.size w wr) := ⟨by rw [← hq_]; exact bH⟩; clear ag aa ab ae af HB hq_; have ag := n0_; have aa := n1_; have ab := n2_; have ae := n3_; have af := n4_; have HB := n5_; clear n0_ n1_ n2_ n3_ n4_ n5_)); have cy := aE.out; have cz := aD.out; have cA := aJ.out; have cD := aI.out; obtain ⟨cE, cF, cG, cH⟩ := cL2 af) | ((with_reducible refine gate_builtin (b := .append) (xs := #[.tmp 37, .tmp 39]) rfl ?_); at_builtin; refine Kd.R_append (Kd.int .i64) (w0 := w) w.heap.size rfl (.tmp 37) (.tmp 39) 37 2 (.int .i64 0) 8 rfl Tryz.underlying37 info2 rfl (by decide) (by omega) ai ah aq [.int .i64 aq] (fun _ => True) (fun _ => False) rfl rfl ?aP (fun _ hk => hk.elim) ?aF ?aO ?aB ?aS ?aL ?_; (case aP => exact rfl); (case aB => exact bH); (case aF => exact (fun _ _ => trivial)); (case aO => exact (uR ag.out)); (case aS => exact (below_size bH)); (case aL => have := bF.out; omega); intro cI cJ ho hb hg hat; rw [← bG.out] at ho; have n0_ := (gB aa hg (Kd.R_ne ag.out aa.out (by decide))); have n1_ := (gB ab hg (Kd.R_ne ag.out ab.out (by decide))); have n2_ := (gB ae hg (Kd.R_ne ag.out ae.out (by decide))); have n3_ := (gB af hg (Kd.R_ne ag.out af.out (by decide))); have n4_ := mk0 (hb); have n5_ := mk0 (ho); clear aa ab ae af HB ag; have aa := n0_; have ab := n1_; have ae := n2_; have af := n3_; have HB := n4_; have bg := n5_; clear n0_ n1_ n2_ n3_ n4_ n5_; clear ho hb hg hat; obtain ⟨bh, bi, bM⟩ := Kd.R_slice bg.out; subst bM; obtain ⟨cK, cL, cM, cN⟩ := cL2 af))
         go_roundg k1
         case measure => have := aY.out; omega
         case rel => exact ⟨(wrap64 (ac + 1)), (av), (.slice bh av.length bi), eK, H', ⟨by have := aY.out; omega⟩, ⟨uR (Kd.R_mono (Kd.R_far (p := ⟨al, 0, none⟩) (Kd.R_types bg.out af.out (by decide)) (fun _ hk => hk.2) (.slice bh av.length bi)) (fun _ hk => trivial))⟩, ⟨kB⟩, ⟨kB⟩, ⟨kB⟩, ⟨kB⟩, ⟨bH⟩⟩
        ·exact nO H au
       ·replace ar := Bool.eq_false_iff.mpr ar
        subst ar; replace H := iF H; exact absurd H (by simp)
      ·exact nO H ap
     ·exact nO H ao
    ·exact nO H am
   ·rw [if_neg ak] at H
    have bz := decide_eq_false ak; clear ak; replace H := Option.bind_eq_some_iff.mp H; obtain ⟨⟨aw, bO⟩, bj, H⟩ := H; dsimp only at H; have bP := mk0 bj; clear bj
    by_cases ax : bO = true
    ·subst ax
     replace H := iT H; simp only [Option.some.injEq, Prod.mk.injEq] at H; obtain ⟨rfl, rfl, rfl⟩ := H; have cO := aA.out; have cP := aC.out; have cR := aU.out; have cS := aV.out; have cT := aD.out; have cU := aE.out; obtain ⟨cV, cW, cX, cY⟩ := cL2 aa; have cZ := aW.out; have c_ := aX.out; have da := aG.out; have db := aH.out; obtain ⟨dc, dd, de, df⟩ := cL2 ab
     go_wp2_with (first | ((with_reducible refine gate_dst (N := 48) rfl ?_); refine gsM (some 48) Tryz.func85 #[.int .i64 a0_1, .int .i64 a1_1] ?_; (with_reducible refine (num_Sub.calls a0_1 a1_1 aw true _ bP.out).mono ?_); rintro e w' ⟨rfl, ⟨nd, rfl⟩⟩; refine ⟨_, rfl, ?_⟩; (try (rw [drewN_self wr]; generalize hq_ : World.drewN wr _ = wr; have n0_ : Aside0 (Kd.R (Kd.int .i64) 2 wr w.heap.size (fun _ => True) ai ah) := ⟨by rw [← hq_]; exact (uR ag.out)⟩; have n1_ : Aside0 (wr.heap[ay]? = some (.cells #[.slice A0_0 l0_0.length c0_0, .int .i64 a0_1] 46 (0, 0))) := ⟨by rw [← hq_]; exact (uB aa.out)⟩; have n2_ : Aside0 (wr.heap[az]? = some (.cells #[.slice A1_0 l1_0.length c1_0, .int .i64 a1_1] 46 (0, 0))) := ⟨by rw [← hq_]; exact (uB ab.out)⟩; have n3_ : Aside0 (wr.heap[aj]? = some (.cells #[.slice none 0 0, .int .i64 0] 46 (0, 0))) := ⟨by rw [← hq_]; exact (uB ae.out)⟩; have n4_ : Aside0 (wr.heap[al]? = some (.cells #[ai, .int .i64 0] 46 (0, 0))) := ⟨by rw [← hq_]; exact (uB af.out)⟩; have n5_ : Aside0 (Below w.heap.size w wr) := ⟨by rw [← hq_]; exact bH⟩; clear ag aa ab ae af HB hq_; have ag := n0_; have aa := n1_; have ab := n2_; have ae := n3_; have af := n4_; have HB := n5_; clear n0_ n1_ n2_ n3_ n4_ n5_)); have dh := aJ.out; have di := aI.out; obtain ⟨dj, dl, dn, dp⟩ := cL2 af; obtain ⟨bk, bl, bQ⟩ := Kd.R_slice ag.out; subst bQ; obtain ⟨dq, dr, dt, du⟩ := cL2 ae))
     refine bodyPost_ret (results_ct rfl _ _ aj 46 #[.slice bk ah.length bl, .int .i64 aw] (0, 0) _ rfl (kB) Tryz.underlying46 rfl (by kernel_rfl)) rfl ?_; exact ⟨_, rE, uR (Kd.R_mono (Kd.R_far (p := ⟨aj, 1, none⟩) (Kd.R_far (p := ⟨aj, 0, none⟩) (Kd.R_far (p := ⟨al, 1, none⟩) (Kd.R_types (Kd.R_types ag.out af.out (by decide)) ae.out (by decide)) (fun _ hk => hk.1.2) (.int .i64 aw)) (fun _ hk => hk.2) (.slice bk ah.length bl)) (fun _ hk => hk.2) (.int .i64 aw)) (fun _ hk => trivial)), bH⟩
    ·replace ax := Bool.eq_false_iff.mpr ax
     subst ax; replace H := iF H; exact absurd H (by simp)

/-! ### furrowlaw12_Op: function 17 -/
def furrowlaw12_Op.f (a0 : Int) (a1_0 : Int) (a1_1 : Int) (a1_2 : ByteArray) (l1_3 : List (S24)) (a2_0 : Int) (a2_1 : Int) (a2_2 : ByteArray) (l2_3 : List (S24)) : Option (Int × Int × ByteArray × (List (S24))) := some (a0, 0, (⟨#[]⟩ : ByteArray), (([(⟨a1_0, a1_1, a1_2, l1_3⟩ : S24), (⟨a2_0, a2_1, a2_2, l2_3⟩ : S24)] : List (S24))))
set_option maxHeartbeats 8000000 in
set_option maxRecDepth 100000 in
theorem furrowlaw12_Op.calls (a0 : Int) (a1_0 : Int) (a1_1 : Int) (a1_2 : ByteArray) (P1_3_ : Nat → Prop) (A1_3 : Option Addr) (c1_3 : Nat) (l1_3 : List (S24)) (a2_0 : Int) (a2_1 : Int) (a2_2 : ByteArray) (P2_3_ : Nat → Prop) (A2_3 : Option Addr) (c2_3 : Nat) (l2_3 : List (S24)) (r1 : Int) (r2 : Int) (r3 : ByteArray) (r4 : List (S24)) (w : World) (hs1_3 : Kd.V k24 24 w w.heap.size (fun k_ => P1_3_ k_) (.slice A1_3 l1_3.length c1_3) l1_3) (hs2_3 : Kd.V k24 24 w w.heap.size (fun k_ => P2_3_ k_) (.slice A2_3 l2_3.length c2_3) l2_3) (h : furrowlaw12_Op.f a0 a1_0 a1_1 a1_2 l1_3 a2_0 a2_1 a2_2 l2_3 = some (r1, r2, r3, r4)) :
  Calls Tryz.prog 17 #[.int .i64 a0, .agg #[.int .i64 a1_0, .int .i64 a1_1, .string a1_2, .slice A1_3 l1_3.length c1_3], .agg #[.int .i64 a2_0, .int .i64 a2_1, .string a2_2, .slice A2_3 l2_3.length c2_3]] w fun e w' => ∃ v3_ : Value, e = .returned (.agg #[.int .i64 r1, .int .i64 r2, .string r3, v3_]) ∧ Kd.N k24 24 w' w.heap.size (fun k_ => ((P1_3_ k_ ∨ P2_3_ k_) ∨ w.heap.size ≤ k_)) v3_ r4 ∧ Below w.heap.size w w' := by
 have hu24 := Tryz.underlying24
 have af := mk0 (show Kd.V k24 24 w w.heap.size (fun k_ => ((P1_3_ k_ ∨ P2_3_ k_) ∨ w.heap.size ≤ k_)) (.slice A1_3 l1_3.length c1_3) l1_3 from Kd.V_mono hs1_3 (fun k_ hk => .inl (.inl hk)))
 have ag := mk0 (show Kd.V k24 24 w w.heap.size (fun k_ => ((P1_3_ k_ ∨ P2_3_ k_) ∨ w.heap.size ≤ k_)) (.slice A2_3 l2_3.length c2_3) l2_3 from Kd.V_mono hs2_3 (fun k_ hk => .inl (.inr hk)))
 have HB := mk0 (Below.refl w.heap.size w)
 have H : (some (a0, 0, (⟨#[]⟩ : ByteArray), (([(⟨a1_0, a1_1, a1_2, l1_3⟩ : S24), (⟨a2_0, a2_1, a2_2, l2_3⟩ : S24)] : List (S24))))) = some (r1, r2, r3, r4) := h
 clear h
 obtain ⟨ak, ai⟩ : ∃ y_ : List (S24), y_ = (([(⟨a1_0, a1_1, a1_2, l1_3⟩ : S24), (⟨a2_0, a2_1, a2_2, l2_3⟩ : S24)] : List (S24))) := ⟨_, rfl⟩
 replace H : (some (a0, 0, (⟨#[]⟩ : ByteArray), ak)) = some (r1, r2, r3, r4) := by first | (rw [ai]; with_reducible exact H) | (have H2_ := (Option.bind_some _ _).symm.trans H; rw [ai]; with_reducible exact H2_) | (have H2_ := (Option.bind_some _ _).symm.trans H; with_reducible exact H2_) | with_reducible exact H | (rw [ai]; exact H) | exact H
 have al := mk0 ai
 clear ai
 simp only [Option.some.injEq, Prod.mk.injEq] at H
 obtain ⟨rfl, rfl, rfl, rfl⟩ := H
 go_enter Tryz.func17, Tryz.ntmps17
 go_wp2_with (first | ((with_reducible refine gate_dst (N := 4) rfl ?_); refine bxE 4 #[.int .i64 a1_0, .int .i64 a1_1, .string a1_2, .slice A1_3 l1_3.length c1_3] 24 ?_; intro ac hg w4 hbox hb; replace af := vD af ac hg hb; replace ag := vD ag ac hg hb; have ab := mk0 (hbox); have az := gE (uL HB.out) hg; have aA := gE (uL HB.out) hg; replace HB := hbB (uL HB.out) hb; clear hb hbox hg) | ((with_reducible refine gate_dst (N := 5) rfl ?_); refine bxE 5 #[.int .i64 a2_0, .int .i64 a2_1, .string a2_2, .slice A2_3 l2_3.length c2_3] 24 ?_; intro ae hg w5 hbox hb; replace af := vD af ae hg hb; replace ag := vD ag ae hg hb; have ah := mk0 (hbox); have aC := gE bH hg; have aD := gE bH hg; replace HB := hbB bH hb; have aq := nL ab hg; have ar := nG ab hg; replace ab := bB ab hb; clear hb hbox hg) | ((with_reducible refine gate_dst (N := 6) rfl ?_); refine bxE 6 #[.int .i64 0, .int .i64 0, .string (⟨#[]⟩ : ByteArray), .slice none 0 0] 24 ?_; intro aa hg w6 hbox hb; replace af := vD af aa hg hb; replace ag := vD ag aa hg hb; have aj := mk0 (hbox); have aE := gE bH hg; have aG := gE bH hg; replace HB := hbB bH hb; have au := nL ab hg; have av := nG ab hg; replace ab := bB ab hb; have aw := nL ah hg; have ax := nG ah hg; replace ah := bB ah hb; clear hb hbox hg; have aH := aq.out; have aI := ar.out; have aJ := au.out; have aK := av.out; obtain ⟨aM, aN, aQ, aT, aU, aV, aW, aX⟩ := cL4 ab; have aY := aw.out; have aZ := ax.out; obtain ⟨a_, bf, bg, bh, bi, bj, bk, bl⟩ := cL4 ah) | ((with_reducible refine gate_dst (N := 10) rfl ?_); refine Kd.N_lit k24 _ 24 ?hg (N' := 10) ?hd (xs := ([(⟨a1_0, a1_1, a1_2, l1_3⟩ : S24), (⟨a2_0, a2_1, a2_2, l2_3⟩ : S24)] : List (S24))) (inner := [.int .i64 a1_0, .int .i64 a1_1, .string a1_2, .slice A1_3 l1_3.length c1_3, .int .i64 a2_0, .int .i64 a2_1, .string a2_2, .slice A2_3 l2_3.length c2_3]) (ok := (fun k_ => ((P1_3_ k_ ∨ P2_3_ k_) ∨ w.heap.size ≤ k_) ∧ k_ ≠ ac ∧ k_ ≠ ae ∧ k_ ≠ aa)) (okp := (fun k_ => ((P1_3_ k_ ∨ P2_3_ k_) ∨ w.heap.size ≤ k_) ∧ k_ ≠ ac ∧ k_ ≠ ae ∧ k_ ≠ aa)) ?hr ?hp (fun _ hk => hk) ((show ∀ k_, w6.heap.size ≤ k_ → (fun k_ => ((P1_3_ k_ ∨ P2_3_ k_) ∨ w.heap.size ≤ k_) ∧ k_ ≠ ac ∧ k_ ≠ ae ∧ k_ ≠ aa) k_ from fun k_ hk => ⟨(.inr (Nat.le_trans (below_size bH) hk)), fB ab hk, fB ah hk, fB aj hk⟩) _ (Nat.le_refl _)) (Below.refl _ _) (Nat.le_refl _) (by simp) ?_; (case hd => rfl); (case hg => rfl); (case hr => first | (go_simp; done) | (go_simp; rfl)); (case hp => exact (Reps.c4 (show Kd.FK k24 _ _ (⟨a1_0, a1_1, a1_2, l1_3⟩ : S24) [.int .i64 a1_0, .int .i64 a1_1, .string a1_2, .slice A1_3 l1_3.length c1_3] from (k24_mkF _ _ (⟨a1_0, a1_1, a1_2, l1_3⟩ : S24) (Kd.V_reads' (vP (ok' := (fun k_ => ((P1_3_ k_ ∨ P2_3_ k_) ∨ w.heap.size ≤ k_) ∧ k_ ≠ ac ∧ k_ ≠ ae ∧ k_ ≠ aa)) af)).2.1 (Kd.V_F (vP (ok' := (fun k_ => ((P1_3_ k_ ∨ P2_3_ k_) ∨ w.heap.size ≤ k_) ∧ k_ ≠ ac ∧ k_ ≠ ae ∧ k_ ≠ aa)) af)))) (Reps.c4 (show Kd.FK k24 _ _ (⟨a2_0, a2_1, a2_2, l2_3⟩ : S24) [.int .i64 a2_0, .int .i64 a2_1, .string a2_2, .slice A2_3 l2_3.length c2_3] from (k24_mkF _ _ (⟨a2_0, a2_1, a2_2, l2_3⟩ : S24) (Kd.V_reads' (vP (ok' := (fun k_ => ((P1_3_ k_ ∨ P2_3_ k_) ∨ w.heap.size ≤ k_) ∧ k_ ≠ ac ∧ k_ ≠ ae ∧ k_ ≠ aa)) ag)).2.1 (Kd.V_F (vP (ok' := (fun k_ => ((P1_3_ k_ ∨ P2_3_ k_) ∨ w.heap.size ≤ k_) ∧ k_ ≠ ac ∧ k_ ≠ ae ∧ k_ ≠ aa)) ag)))) (Reps.none _ _)))); intro bm bn ho13 hb hg_ hnew_; clear hg_ hnew_; (first | rw [← al.out] at ho13 | (simp only [Int.reduceToNat] at ho13; rw [← al.out] at ho13)); have am := mk0 (Kd.N_lower ho13 (below_size bH)); replace aj := bB aj hb; replace HB := hbB bH hb; clear hb ho13; obtain ⟨ao, ap, ay⟩ := Kd.N_slice am.out; subst ay; obtain ⟨bo, bp, bq, br, bs, bu, bv, bw⟩ := cL4 aj))
 refine bodyPost_ret (results_cell_row rfl _ _ aa 24 #[.int .i64 a0, .int .i64 0, .string (⟨#[]⟩ : ByteArray), .slice ao ak.length ap] (0, 0) _ rfl (kB) Tryz.underlying24 rfl (by kernel_rfl)) rfl ?_
 exact ⟨_, rE, uN (Kd.N_mono (Kd.N_far (p := ⟨aa, 3, none⟩) (Kd.N_far (p := ⟨aa, 2, none⟩) (Kd.N_far (p := ⟨aa, 1, none⟩) (Kd.N_far (p := ⟨aa, 0, none⟩) (Kd.N_mono am.out (fun k_ hk => (⟨hk, hk.2.2.2⟩ : _ ∧ k_ ≠ aa))) (fun _ hk => hk.2) (.int .i64 a0)) (fun _ hk => hk.2) (.int .i64 0)) (fun _ hk => hk.2) (.string (⟨#[]⟩ : ByteArray))) (fun _ hk => hk.2) (.slice ao ak.length ap)) (fun _ hk => hk.1.1)), bH⟩

/-! ### furrowlaw12_N: function 18 -/
def furrowlaw12_N.f (a0 : Int) : Option (Int × Int × ByteArray × (List (S24))) := some (1, a0, (⟨#[]⟩ : ByteArray), ([] : List (S24)))
set_option maxHeartbeats 8000000 in
set_option maxRecDepth 100000 in
theorem furrowlaw12_N.calls (a0 : Int) (r1 : Int) (r2 : Int) (r3 : ByteArray) (r4 : List (S24)) (w : World) (h : furrowlaw12_N.f a0 = some (r1, r2, r3, r4)) :
  Calls Tryz.prog 18 #[.int .i64 a0] w fun e w' => ∃ v3_ : Value, e = .returned (.agg #[.int .i64 r1, .int .i64 r2, .string r3, v3_]) ∧ Kd.R k24 24 w' w.heap.size (fun _ => True) v3_ r4 ∧ Below w.heap.size w w' := by
 have hu24 := Tryz.underlying24
 have HB := mk0 (Below.refl w.heap.size w)
 have H : (some (1, a0, (⟨#[]⟩ : ByteArray), ([] : List (S24)))) = some (r1, r2, r3, r4) := h
 clear h
 simp only [Option.some.injEq, Prod.mk.injEq] at H
 obtain ⟨rfl, rfl, rfl, rfl⟩ := H
 go_enter Tryz.func18, Tryz.ntmps18
 go_wp2_with (first | ((with_reducible refine gate_dst (N := 2) rfl ?_); refine bxE 2 #[.int .i64 0, .int .i64 0, .string (⟨#[]⟩ : ByteArray), .slice none 0 0] 24 ?_; intro gb248 hg w2 hbox hb; have BK248 := mk0 (hbox); have GW248 := gE (uL HB.out) hg; have GE248 := gE (uL HB.out) hg; replace HB := hbB (uL HB.out) hb; clear hb hbox hg; obtain ⟨hcz3_0, hcz3_1, hcz3_2, hcz3_3, hfz3_0, hfz3_1, hfz3_2, hfz3_3⟩ := cL4 BK248))
 refine bodyPost_ret (results_cell_row rfl _ _ gb248 24 #[.int .i64 1, .int .i64 a0, .string (⟨#[]⟩ : ByteArray), .slice none 0 0] (0, 0) _ rfl (kB) Tryz.underlying24 rfl (by kernel_rfl)) rfl ?_
 exact ⟨_, rE, nK, bH⟩

/-! ### furrowlaw12_V: function 19 -/
def furrowlaw12_V.f (a0 : ByteArray) : Option (Int × Int × ByteArray × (List (S24))) := some (2, 0, a0, ([] : List (S24)))
set_option maxHeartbeats 8000000 in
set_option maxRecDepth 100000 in
theorem furrowlaw12_V.calls (a0 : ByteArray) (r1 : Int) (r2 : Int) (r3 : ByteArray) (r4 : List (S24)) (w : World) (h : furrowlaw12_V.f a0 = some (r1, r2, r3, r4)) :
  Calls Tryz.prog 19 #[.string a0] w fun e w' => ∃ v3_ : Value, e = .returned (.agg #[.int .i64 r1, .int .i64 r2, .string r3, v3_]) ∧ Kd.R k24 24 w' w.heap.size (fun _ => True) v3_ r4 ∧ Below w.heap.size w w' := by
 have hu24 := Tryz.underlying24
 have HB := mk0 (Below.refl w.heap.size w)
 have H : (some (2, 0, a0, ([] : List (S24)))) = some (r1, r2, r3, r4) := h
 clear h
 simp only [Option.some.injEq, Prod.mk.injEq] at H
 obtain ⟨rfl, rfl, rfl, rfl⟩ := H
 go_enter Tryz.func19, Tryz.ntmps19
 go_wp2_with (first | ((with_reducible refine gate_dst (N := 2) rfl ?_); refine bxE 2 #[.int .i64 0, .int .i64 0, .string (⟨#[]⟩ : ByteArray), .slice none 0 0] 24 ?_; intro gb249 hg w2 hbox hb; have BK249 := mk0 (hbox); have GW249 := gE (uL HB.out) hg; have GE249 := gE (uL HB.out) hg; replace HB := hbB (uL HB.out) hb; clear hb hbox hg; obtain ⟨hcz3_0, hcz3_1, hcz3_2, hcz3_3, hfz3_0, hfz3_1, hfz3_2, hfz3_3⟩ := cL4 BK249))
 refine bodyPost_ret (results_cell_row rfl _ _ gb249 24 #[.int .i64 2, .int .i64 0, .string a0, .slice none 0 0] (0, 0) _ rfl (kB) Tryz.underlying24 rfl (by kernel_rfl)) rfl ?_
 exact ⟨_, rE, nK, bH⟩

/-! ### slices_Contains_string_string: function 39 -/
def slices_Contains_string_string.f (k : Nat) (l0 : List ByteArray) (a1 : ByteArray) : Option (Bool) := (slices_Index_string_string.f k l0 a1).bind fun t259 => (some (decide (t259 ≥ 0)))
theorem slices_Contains_string_string.mono : ∀ a0 a1 k, LeO (slices_Contains_string_string.f k a0 a1) (slices_Contains_string_string.f (k + 1) a0 a1) := by
 intro a0 a1 k
 have m0_ := @slices_Index_string_string.mono; unfold slices_Contains_string_string.f; exact lO_
set_option maxHeartbeats 8000000 in
set_option maxRecDepth 100000 in
theorem slices_Contains_string_string.calls (k : Nat) (A0 : Option Addr) (c0 : Nat) (l0 : List ByteArray) (a1 : ByteArray) (r : Bool) (w : World) (hr0 : Kd.C Kd.string w A0 l0.length l0) (hc0 : l0.length ≤ c0) (h : slices_Contains_string_string.f k l0 a1 = some r) :
  Calls Tryz.prog 39 #[.slice A0 l0.length c0, .string a1] w fun e w' => e = .returned (.bool r) ∧ Drawn0 w w' := by
 have HR0 := mk0 hr0
 have HC0 := mk0 hc0
 clear hr0 hc0
 have H : ((slices_Index_string_string.f k l0 a1).bind fun t259 => (some (decide (t259 ≥ 0)))) = some r := h
 clear h
 replace H := Option.bind_eq_some_iff.mp H
 obtain ⟨t259, A30, H⟩ := H
 have A3 := mk0 A30
 clear A30
 obtain rfl := Option.some.inj H
 go_enter Tryz.func39, Tryz.ntmps39
 go_wp2_with (first | ((with_reducible refine gate_dst (N := 7) rfl ?_); refine gsM (some 7) Tryz.func53 #[.slice A0 l0.length c0, .string a1] ?_; (with_reducible refine (slices_Index_string_string.calls k _ _ l0 a1 t259 _ ?side1 ?side2 A3.out).mono ?_); (case side1 => exact uC HR0.out); (case side2 => exact HC0.out); rintro e w' ⟨rfl, ⟨nd, rfl⟩⟩; refine ⟨_, rfl, ?_⟩))
 go_ret
 exact ⟨eK, by repeat (first | exact Drawn0.refl _ | apply Drawn0.step)⟩

end Go.Proofs.YtnkckdbjeemjeaaGreatDoor.X
