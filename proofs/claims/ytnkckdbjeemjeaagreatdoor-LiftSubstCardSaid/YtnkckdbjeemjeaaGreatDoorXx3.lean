-- PRINTED by print.py (a twelfth state) out of the translation. Not trusted: Lean checks it.
import Derived.Test.YtnkckdbjeemjeaaGreatDoorXx0
namespace Go.Proofs.YtnkckdbjeemjeaaGreatDoor.X
open Go.Proofs.YtnkckdbjeemjeaaGreatDoor.Flt Go.Proofs.YtnkckdbjeemjeaaGreatDoor.H Go.RowKit Go.Proofs.YtnkckdbjeemjeaaGreatDoorW.PrintWords Go.Proofs.YtnkckdbjeemjeaaGreatDoorW.PrintLast Go.Proofs.YtnkckdbjeemjeaaGreatDoorW.PrintMore
attribute [local go_sem] max2_int min2_int max_two min_two max_three min_three max_four min_four   -- for this text's walks alone
set_option linter.unusedVariables false
set_option linter.unusedSimpArgs false

/-! ### lin_Const: function 52 -/
def lin_Const.f (a0 : Int) (a1 : Int) : Option (List Int × Int) := if 0 ≤ (mx a0 0) then (if (mx a0 0 : Int).toNat ≤ 35184372088832 then (some ((List.replicate (mx a0 0 : Int).toNat 0), a1)) else (none)) else (none)
set_option maxHeartbeats 8000000 in
set_option maxRecDepth 100000 in
theorem lin_Const.calls (a0 : Int) (a1 : Int) (r1 : List Int) (r2 : Int) (w : World) (h : lin_Const.f a0 a1 = some (r1, r2)) :
  Calls Tryz.prog 52 #[.int .i64 a0, .int .i64 a1] w fun e w' => ∃ v0_ : Value, e = .returned (.agg #[v0_, .int .i64 r2]) ∧ Kd.R (Kd.int .i64) 2 w' w.heap.size (fun _ => True) v0_ r1 ∧ Below w.heap.size w w' := by
 have hu46 := Tryz.underlying46
 have HB := mk0 (Below.refl w.heap.size w)
 have H : (if 0 ≤ (mx a0 0) then (if (mx a0 0 : Int).toNat ≤ 35184372088832 then (some ((List.replicate (mx a0 0 : Int).toNat 0), a1)) else (none)) else (none)) = some (r1, r2) := h
 clear h
 obtain ⟨ji3, hji3⟩ : ∃ j_ : Int, (mx a0 0) = j_ := ⟨_, rfl⟩
 replace H : (if 0 ≤ (ji3) then (if (ji3 : Int).toNat ≤ 35184372088832 then (some ((List.replicate (ji3 : Int).toNat 0), a1)) else (none)) else (none)) = some (r1, r2) := by first | (rw [hji3] at H; exact H) | (simp only [hji3] at H ⊢; exact H)
 (try (have hji3l : 0 ≤ ji3 := by (rw [← hji3]; unfold mx; (repeat' split) <;> omega)))
 (try (have hji3m : 0 ≤ ji3 := by omega))
 have hji3_ : (if a0 < 0 then 0 else a0) = ji3 := hji3
 by_cases c4 : 0 ≤ (ji3)
 ·rw [if_pos c4] at H
  have ak := eq_true c4; have al := decide_eq_true c4; clear c4
  by_cases c5 : (ji3 : Int).toNat ≤ 35184372088832
  ·rw [if_pos c5] at H
   have am := eq_true c5; have ao := decide_eq_true c5; clear c5; obtain ⟨ab, ac⟩ : ∃ y_ : List Int, y_ = (List.replicate (ji3 : Int).toNat 0) := ⟨_, rfl⟩; (replace H : (some (ab, a1)) = some (r1, r2) := by (try rw [ac]); first | with_reducible exact H | with_reducible exact oN H | exact H); have af := mk0 ac; clear ac; simp only [Option.some.injEq, Prod.mk.injEq] at H; obtain ⟨rfl, rfl⟩ := H; go_enter Tryz.func52, Tryz.ntmps52
   go_wp2_with (first | ((with_reducible refine gate_dst (N := 4) rfl ?_); refine bxE 4 #[.slice none 0 0, .int .i64 0] 46 ?_; intro ae hg w6 hbox hb; have aa := mk0 (hbox); have ap := gE (uL HB.out) hg; have aq := gE (uL HB.out) hg; replace HB := hbB (uL HB.out) hb; clear hb hbox hg) | ((with_reducible refine gate_dst (N := 7) rfl ?_); refine Kd.R_make (Kd.int .i64) _ 2 rfl (N := 7) rfl 37 _ _ rfl ji3 rfl rfl Tryz.underlying37 (.int .i64 0) 8 info2 rfl (by decide) (by omega) 0 (ok := fun _ => True) (okp := fun _ => True) rfl (fun _ hk => hk) trivial (dY) (Nat.le_trans (Nat.mul_le_mul_right _ (dY : ji3.toNat ≤ 35184372088832)) (by omega)) (Below.refl _ _) (Nat.le_refl _) ?_; intro ar w7 ho8 hb hg_ hnew_; clear hg_ hnew_; (first | rw [← af.out] at ho8 | (simp only [Int.reduceToNat] at ho8; rw [← af.out] at ho8)); have ag := mk0 (Kd.R_lower ho8 (below_size bH)); replace aa := bB aa hb; replace HB := hbB bH hb; clear hb ho8; obtain ⟨ah, ai, aj⟩ := Kd.R_slice ag.out; subst aj; obtain ⟨au, av, aw, ax⟩ := cL2 aa))
   refine bodyPost_ret (results_cell_row rfl _ _ ae 46 #[.slice ah ab.length ai, .int .i64 a1] (0, 0) _ rfl (kB) Tryz.underlying46 rfl (by kernel_rfl)) rfl ?_; exact ⟨_, by first | rfl | (simp [errW_none, errW_some] <;> rfl) | (simp only [← hji3]; first | rfl | (simp [errW_none, errW_some] <;> rfl)) | (simp [*, errW_none, errW_some] <;> rfl), uR (Kd.R_mono (Kd.R_far (p := ⟨ae, 1, none⟩) (Kd.R_far (p := ⟨ae, 0, none⟩) (Kd.R_types ag.out aa.out (by decide)) (fun _ hk => hk.2) (.slice ah ab.length ai)) (fun _ hk => hk.2) (.int .i64 a1)) (fun _ hk => trivial)), bH⟩
  ·exact nO H c5
 ·exact nO H c4

/-! ### slices_Index_string_string: function 53 -/
def slices_Index_string_string.l0 : Nat → List ByteArray → ByteArray → Int → Int → Option (Int)
 | 0, _, _, _, _ => none
 | k + 1, x0, x1, x7, x8 => if x8 < x7 then (if 0 ≤ x8 then (if x8 < (x0.length : Int) then (if x1.toList = (rdOf ByteArray.empty x0 x8).toList then (some x8) else (slices_Index_string_string.l0 k x0 x1 x7 (wrap64 (x8 + 1)))) else (none)) else (none)) else (some (-1))
def slices_Index_string_string.f (k : Nat) (l0 : List ByteArray) (a1 : ByteArray) : Option (Int) := slices_Index_string_string.l0 k l0 a1 (l0.length : Int) 0
theorem slices_Index_string_string.mono_l : ∀ k, (∀ y0 y1 y2 y3, LeO (slices_Index_string_string.l0 k y0 y1 y2 y3) (slices_Index_string_string.l0 (k + 1) y0 y1 y2 y3))
 | 0 => fun _ _ _ _ r h => by simp [slices_Index_string_string.l0] at h
 | k + 1 => by
  have ih0 := slices_Index_string_string.mono_l k
  ·intro y0 y1 y2 y3
   unfold slices_Index_string_string.l0
   repeat' first
   | (with_reducible exact ih0 _ _ _ _)
   | (with_reducible exact LeO.refl _)
   | (with_reducible exact LeO.none _)
   | (with_reducible refine LeO.ite ?_ ?_)
   | (with_reducible refine LeO.bind ?_ (fun _ => ?_))
   | exact ih0 _ _ _ _
   | exact LeO.none _
   | refine LeO.ite ?_ ?_
   | refine LeO.bind ?_ (fun _ => ?_)
theorem slices_Index_string_string.mono : ∀ a0 a1 k, LeO (slices_Index_string_string.f k a0 a1) (slices_Index_string_string.f (k + 1) a0 a1) := by
 intro a0 a1 k
 have ih0 := slices_Index_string_string.mono_l k
 unfold slices_Index_string_string.f
 repeat' first
   | (with_reducible exact ih0 _ _ _ _)
   | (with_reducible exact LeO.refl _)
   | (with_reducible exact LeO.none _)
   | (with_reducible refine LeO.ite ?_ ?_)
   | (with_reducible refine LeO.bind ?_ (fun _ => ?_))
   | exact ih0 _ _ _ _
   | exact LeO.none _
   | refine LeO.ite ?_ ?_
   | refine LeO.bind ?_ (fun _ => ?_)
set_option maxHeartbeats 8000000 in
set_option maxRecDepth 100000 in
theorem slices_Index_string_string.calls (k : Nat) (A0 : Option Addr) (c0 : Nat) (l0 : List ByteArray) (a1 : ByteArray) (r : Int) (w : World) (hr0 : Kd.C Kd.string w A0 l0.length l0) (hc0 : l0.length ≤ c0) (h : slices_Index_string_string.f k l0 a1 = some r) :
  Calls Tryz.prog 53 #[.slice A0 l0.length c0, .string a1] w fun e w' => e = .returned (.int .i64 r) ∧ Drawn0 w w' := by
 have HR0 := mk0 hr0
 have HC0 := mk0 hc0
 clear hr0 hc0
 have H : (slices_Index_string_string.l0 k l0 a1 (l0.length : Int) 0) = some r := h
 clear h
 have H' := mk0 H
 clear H
 go_enter Tryz.func53, Tryz.ntmps53
 go_wp2
 go_loopg [8] k (fun kq v8 w' => ∃ (x8_1 : Int), v8 = .int .i64 x8_1 ∧ Aside0 (slices_Index_string_string.l0 kq l0 a1 (l0.length : Int) x8_1 = some r) ∧ Aside0 (kq ≤ k) ∧ Drawn0 w w')
 case atStart => exact ⟨(0), eK, H', ⟨Nat.le_refl _⟩, by repeat (first | exact Drawn0.refl _ | apply Drawn0.step)⟩
 case round =>
  clear H'; obtain ⟨x8_1, rfl, HA, HK1, ⟨m1, rfl⟩⟩ := hrel
  cases gk with
  | zero => exact absurd HA.out (by simp [slices_Index_string_string.l0])
  | succ k1 =>
   have H := HA.out; clear HA; simp only [slices_Index_string_string.l0] at H
   by_cases c3 : x8_1 < (l0.length : Int)
   ·rw [if_pos c3] at H
    have c3b0 := decide_eq_true c3; clear c3
    by_cases c4 : 0 ≤ x8_1
    ·rw [if_pos c4] at H
     have c4b0 := decide_eq_true c4; clear c4
     by_cases c5 : x8_1 < (l0.length : Int)
     ·rw [if_pos c5] at H
      have c5b0 := decide_eq_true c5; clear c5
      by_cases c6 : a1.toList = (rdOf ByteArray.empty l0 x8_1).toList
      ·rw [if_pos c6] at H
       have c6b0 : (a1.toList == (rdOf ByteArray.empty l0 x8_1).toList) = true := beq_iff_eq.mpr c6; have c6b1 : (a1.toList != (rdOf ByteArray.empty l0 x8_1).toList) = false := bne_eq_false_iff_eq.mpr c6; clear c6; obtain rfl := Option.some.inj H; have p126 : 0 ≤ (x8_1 : Int) := dY; have q126 : x8_1 < (l0.length : Int) := dY; obtain ⟨ad126, e126, hx126_0⟩ := Kd.at_string HR0.out x8_1 p126 q126
       cases e126
       replace p126 := eq_true p126; replace q126 := eq_true q126; go_wp2; go_ret; exact ⟨eK, by repeat (first | exact Drawn0.refl _ | apply Drawn0.step)⟩
      ·rw [if_neg c6] at H
       have c6b0 : (a1.toList == (rdOf ByteArray.empty l0 x8_1).toList) = false := beq_eq_false_iff_ne.mpr c6; have c6b1 : (a1.toList != (rdOf ByteArray.empty l0 x8_1).toList) = true := bne_iff_ne.mpr c6; have H' := mk0 H; clear H; have p126 : 0 ≤ (x8_1 : Int) := dY; have q126 : x8_1 < (l0.length : Int) := dY; obtain ⟨ad126, e126, hx126_0⟩ := Kd.at_string HR0.out x8_1 p126 q126
       cases e126
       replace p126 := eq_true p126; replace q126 := eq_true q126; go_wp2
       go_roundg k1
       case measure => have := HK1.out; omega
       case rel => exact ⟨(wrap64 (x8_1 + 1)), eK, H', ⟨by have := HK1.out; omega⟩, by repeat (first | exact Drawn0.refl _ | apply Drawn0.step)⟩
     ·exact nO H c5
    ·exact nO H c4
   ·rw [if_neg c3] at H
    have c3b0 := decide_eq_false c3; clear c3; obtain rfl := Option.some.inj H; go_wp2; go_ret; exact ⟨eK, by repeat (first | exact Drawn0.refl _ | apply Drawn0.step)⟩

/-! ### lin_Index: function 54 -/
def lin_Index.f (a0 : Int) (a1 : Int) : Option (List Int × Int) := (lin_Const.f a0 0).bind fun bt128 => (if a1 ≥ 0 then (if a1 < a0 then (if 0 ≤ a1 then (if a1 < (bt128.1.length : Int) then (some ((bt128.1.set (a1 : Int).toNat 1), bt128.2)) else (none)) else (none)) else (some (bt128.1, bt128.2))) else (some (bt128.1, bt128.2)))
set_option maxHeartbeats 8000000 in
set_option maxRecDepth 100000 in
theorem lin_Index.calls (a0 : Int) (a1 : Int) (r1 : List Int) (r2 : Int) (w : World) (h : lin_Index.f a0 a1 = some (r1, r2)) :
  Calls Tryz.prog 54 #[.int .i64 a0, .int .i64 a1] w fun e w' => ∃ v0_ : Value, e = .returned (.agg #[v0_, .int .i64 r2]) ∧ Kd.R (Kd.int .i64) 2 w' w.heap.size (fun _ => True) v0_ r1 ∧ Below w.heap.size w w' := by
 have hu46 := Tryz.underlying46
 have HB := mk0 (Below.refl w.heap.size w)
 have H : ((lin_Const.f a0 0).bind fun ai => (if a1 ≥ 0 then (if a1 < a0 then (if 0 ≤ a1 then (if a1 < (ai.1.length : Int) then (some ((ai.1.set (a1 : Int).toNat 1), ai.2)) else (none)) else (none)) else (some (ai.1, ai.2))) else (some (ai.1, ai.2)))) = some (r1, r2) := h
 clear h
 replace H := Option.bind_eq_some_iff.mp H
 obtain ⟨⟨ac, ae⟩, az, H⟩ := H
 dsimp only at H
 have A3 := mk0 az
 clear az
 by_cases c4 : a1 ≥ 0
 ·rw [if_pos c4] at H
  have aM := decide_eq_true c4; clear c4
  by_cases c5 : a1 < a0
  ·rw [if_pos c5] at H
   have aN := decide_eq_true c5; clear c5
   by_cases c6 : 0 ≤ a1
   ·rw [if_pos c6] at H
    have aY := decide_eq_true c6; clear c6
    by_cases c7 : a1 < (ac.length : Int)
    ·rw [if_pos c7] at H
     have aZ := decide_eq_true c7; clear c7; obtain ⟨aA, aq⟩ : ∃ y_ : List Int, y_ = (ac.set (a1 : Int).toNat 1) := ⟨_, rfl⟩; (replace H : (some (aA, ae)) = some (r1, r2) := by (try rw [aq]); first | with_reducible exact H | with_reducible exact oN H | exact H); have aQ := mk0 aq; clear aq; simp only [Option.some.injEq, Prod.mk.injEq] at H; obtain ⟨rfl, rfl⟩ := H; go_enter Tryz.func54, Tryz.ntmps54
     go_wp2_with (first | ((with_reducible refine gate_dst (N := 4) rfl ?_); refine bxE 4 #[.slice none 0 0, .int .i64 0] 46 ?_; intro ag hg w9 hbox hb; have aa := mk0 (hbox); have aC := gE (uL HB.out) hg; have aD := gE (uL HB.out) hg; replace HB := hbB (uL HB.out) hb; clear hb hbox hg) | ((with_reducible refine gate_dst (N := 7) rfl ?_); refine gsM (some 7) Tryz.func52 #[.int .i64 a0, .int .i64 0] ?_; (with_reducible refine (lin_Const.calls a0 0 ac ae _ A3.out).mono ?_); rintro e a_ ⟨aE, rfl, ho0, hb⟩; refine ⟨_, rfl, ?_⟩; have ab := mk0 (Kd.R_lower ho0 (below_size bH)); replace aa := bB aa hb; replace HB := hbB bH hb; (try clear hb hk ho0)) | ((with_reducible refine gate_dst (N := 5) rfl ?_); refine bxE 5 #[.slice none 0 0, .int .i64 0] 46 ?_; intro ah hg aT hbox hb; replace ab := rB ab hb; have af := mk0 (hbox); have aG := gE bH hg; have aH := gE bH hg; replace HB := hbB bH hb; have al := nL aa hg; have am := nG aa hg; replace aa := bB aa hb; clear hb hbox hg; obtain ⟨ap, aj, aU⟩ := Kd.R_slice ab.out; subst aU; have bf := am.out; have bg := al.out; obtain ⟨bh, bi, bj, bk⟩ := cL2 af) | ((with_reducible refine gate_store (t := 46) (p := 5) rfl ?_); refine store_event (t := 46) (p := 5) (v := ?vo_w15) (w1 := ((aT.setCell ⟨ah, 0, none⟩ (.slice ap ac.length aj)).setCell ⟨ah, 1, none⟩ (.int .i64 ae))) ?hg ?ho ?hn ?hr ?_; (case ho => rfl); (case hg => rfl); (case hn => rfl); (case hr => first | (go_simp; done) | (go_simp; rfl)); intro ak hw; have n0_ : Aside0 (Kd.R (Kd.int .i64) 2 ak w.heap.size (fun _ => True) (.slice ap ac.length aj) ac) := ⟨(by rw [hw]; exact (uR (Kd.R_mono (Kd.R_far (p := ⟨ah, 1, none⟩) (Kd.R_far (p := ⟨ah, 0, none⟩) (Kd.R_types ab.out af.out (by decide)) (fun _ hk => hk.2) (.slice ap ac.length aj)) (fun _ hk => hk.2) (.int .i64 ae)) (fun _ hk => trivial))))⟩; have n1_ : Aside0 (ak.heap[ag]? = some (.cells #[.slice none 0 0, .int .i64 0] 46 (0, 0))) := ⟨(by rw [hw]; exact (kB))⟩; have n2_ : Aside0 (ak.heap[ah]? = some (.cells #[.slice ap ac.length aj, .int .i64 ae] 46 (0, 0))) := ⟨(by rw [hw]; exact (kB))⟩; have n3_ : Aside0 (Below w.heap.size w ak) := ⟨(by rw [hw]; exact bH)⟩; clear hw ab aa af HB; have ab := n0_; have aa := n1_; have af := n2_; have HB := n3_; clear n0_ n1_ n2_ n3_; obtain ⟨bl, bm, bn, bo⟩ := cL2 af; have p8 : 0 ≤ (a1 : Int) := dY; have q8 : (a1 : Int) < ((ac.length : Int) : Int) := dY; obtain ⟨ao, bp, aI, aJ, gl8, cl8, aK⟩ := Kd.R_form ab.out (by omega); (first | cases aI | (injection aI with ea_ en_ ec_; (first | subst ea_ | (injection ea_ with ea_; subst ea_)); subst ec_; clear en_)); have aV := mk0 aJ; have GG8 := mk0 aK; clear aJ gl8 aK; obtain ⟨bq, br⟩ := Kd.R_celln 0 ab.out (a1 : Int) p8 q8; replace p8 := eq_true p8; replace q8 := eq_true q8; obtain ⟨hy17_, hz17_⟩ := Kd.R_celln 0 ab.out (a1 : Int) (dY) (dY); have ar := Kd.R_putg ab.out (a1 : Int) 1) | ((with_reducible refine gate_store (t := 2) (p := 18) rfl ?_); refine store_event (t := 2) (p := 18) (v := ?vo_w18) (w1 := (ak.setCell ⟨ao, (a1 : Int).toNat, none⟩ (.int .i64 1))) ?hg ?ho ?hn ?hr ?_; (case ho => rfl); (case hg => rfl); (case hn => rfl); (case hr => first | (go_simp; done) | (go_simp; rfl)); intro au hw; have hg : ak.grownBy au (some ao) := (by rw [hw]; exact ar.2); have hp_ : Kd.R (Kd.int .i64) 2 au w.heap.size (fun _ => True) (.slice (some ⟨ao, 0, none⟩) ac.length aj) aA := (by rw [hw, aQ.out]; exact ar.1); clear ar; replace aa := (gB aa hg (Kd.R_ne ab.out aa.out (by decide))); replace af := (gB af hg (Kd.R_ne ab.out af.out (by decide))); replace ab := mk0 (hp_); replace HB := mk0 ((by rw [hw]; exact below_set (HB.out) aV.out : Below w.heap.size w au)); clear hg hw hp_; obtain ⟨bs, bu, bv, bw⟩ := cL2 af; obtain ⟨bz, bC, bE, bF⟩ := cL2 aa))
     refine bodyPost_ret (results_cell_row rfl _ _ ag 46 #[.slice (some ⟨ao, 0, none⟩) ac.length aj, .int .i64 ae] (0, 0) _ rfl (kB) Tryz.underlying46 rfl (by kernel_rfl)) rfl ?_; exact ⟨_, rE, uR (Kd.R_mono (Kd.R_far (p := ⟨ag, 1, none⟩) (Kd.R_far (p := ⟨ag, 0, none⟩) (Kd.R_types ab.out aa.out (by decide)) (fun _ hk => hk.2) (.slice (some ⟨ao, 0, none⟩) ac.length aj)) (fun _ hk => hk.2) (.int .i64 ae)) (fun _ hk => trivial)), bH⟩
    ·exact nO H c7
   ·exact nO H c6
  ·rw [if_neg c5] at H
   have aN := decide_eq_false c5; clear c5; simp only [Option.some.injEq, Prod.mk.injEq] at H; obtain ⟨rfl, rfl⟩ := H; go_enter Tryz.func54, Tryz.ntmps54
   go_wp2_with (first | ((with_reducible refine gate_dst (N := 4) rfl ?_); refine bxE 4 #[.slice none 0 0, .int .i64 0] 46 ?_; intro ag hg bG hbox hb; have aa := mk0 (hbox); have aC := gE (uL HB.out) hg; have aD := gE (uL HB.out) hg; replace HB := hbB (uL HB.out) hb; clear hb hbox hg) | ((with_reducible refine gate_dst (N := 7) rfl ?_); refine gsM (some 7) Tryz.func52 #[.int .i64 a0, .int .i64 0] ?_; (with_reducible refine (lin_Const.calls a0 0 ac ae _ A3.out).mono ?_); rintro e bI ⟨aE, rfl, ho0, hb⟩; refine ⟨_, rfl, ?_⟩; have ab := mk0 (Kd.R_lower ho0 (below_size bH)); replace aa := bB aa hb; replace HB := hbB bH hb; (try clear hb ho0)) | ((with_reducible refine gate_dst (N := 5) rfl ?_); refine bxE 5 #[.slice none 0 0, .int .i64 0] 46 ?_; intro ah hg bJ hbox hb; replace ab := rB ab hb; have af := mk0 (hbox); have aG := gE bH hg; have aH := gE bH hg; replace HB := hbB bH hb; have al := nL aa hg; have am := nG aa hg; replace aa := bB aa hb; clear hb hbox hg; obtain ⟨av, aw, aW⟩ := Kd.R_slice ab.out; subst aW; have bK := am.out; have bL := al.out; obtain ⟨bM, bO, bP, bQ⟩ := cL2 af; obtain ⟨bR, bT, bU, bV⟩ := cL2 aa))
   refine bodyPost_ret (results_cell_row rfl _ _ ag 46 #[.slice av ac.length aw, .int .i64 ae] (0, 0) _ rfl (kB) Tryz.underlying46 rfl (by kernel_rfl)) rfl ?_; exact ⟨_, rE, uR (Kd.R_mono (Kd.R_far (p := ⟨ag, 1, none⟩) (Kd.R_far (p := ⟨ag, 0, none⟩) (Kd.R_far (p := ⟨ah, 1, none⟩) (Kd.R_far (p := ⟨ah, 0, none⟩) (Kd.R_types (Kd.R_types ab.out af.out (by decide)) aa.out (by decide)) (fun _ hk => hk.1.2) (.slice av ac.length aw)) (fun _ hk => hk.1.2) (.int .i64 ae)) (fun _ hk => hk.2) (.slice av ac.length aw)) (fun _ hk => hk.2) (.int .i64 ae)) (fun _ hk => trivial)), bH⟩
 ·rw [if_neg c4] at H
  have aM := decide_eq_false c4; clear c4; simp only [Option.some.injEq, Prod.mk.injEq] at H; obtain ⟨rfl, rfl⟩ := H; go_enter Tryz.func54, Tryz.ntmps54
  go_wp2_with (first | ((with_reducible refine gate_dst (N := 4) rfl ?_); refine bxE 4 #[.slice none 0 0, .int .i64 0] 46 ?_; intro ag hg bW hbox hb; have aa := mk0 (hbox); have aC := gE (uL HB.out) hg; have aD := gE (uL HB.out) hg; replace HB := hbB (uL HB.out) hb; clear hb hbox hg) | ((with_reducible refine gate_dst (N := 7) rfl ?_); refine gsM (some 7) Tryz.func52 #[.int .i64 a0, .int .i64 0] ?_; (with_reducible refine (lin_Const.calls a0 0 ac ae _ A3.out).mono ?_); rintro e bX ⟨aE, rfl, ho0, hb⟩; refine ⟨_, rfl, ?_⟩; have ab := mk0 (Kd.R_lower ho0 (below_size bH)); replace aa := bB aa hb; replace HB := hbB bH hb; (try clear hb ho0)) | ((with_reducible refine gate_dst (N := 5) rfl ?_); refine bxE 5 #[.slice none 0 0, .int .i64 0] 46 ?_; intro ah hg bY hbox hb; replace ab := rB ab hb; have af := mk0 (hbox); have aG := gE bH hg; have aH := gE bH hg; replace HB := hbB bH hb; have al := nL aa hg; have am := nG aa hg; replace aa := bB aa hb; clear hb hbox hg; obtain ⟨ax, ay, aX⟩ := Kd.R_slice ab.out; subst aX; have bZ := am.out; have b4 := al.out; obtain ⟨b5, b6, b7, b8⟩ := cL2 af; obtain ⟨b9, cd, ce, cf⟩ := cL2 aa))
  refine bodyPost_ret (results_cell_row rfl _ _ ag 46 #[.slice ax ac.length ay, .int .i64 ae] (0, 0) _ rfl (kB) Tryz.underlying46 rfl (by kernel_rfl)) rfl ?_; exact ⟨_, rE, uR (Kd.R_mono (Kd.R_far (p := ⟨ag, 1, none⟩) (Kd.R_far (p := ⟨ag, 0, none⟩) (Kd.R_far (p := ⟨ah, 1, none⟩) (Kd.R_far (p := ⟨ah, 0, none⟩) (Kd.R_types (Kd.R_types ab.out af.out (by decide)) aa.out (by decide)) (fun _ hk => hk.1.2) (.slice ax ac.length ay)) (fun _ hk => hk.1.2) (.int .i64 ae)) (fun _ hk => hk.2) (.slice ax ac.length ay)) (fun _ hk => hk.2) (.int .i64 ae)) (fun _ hk => trivial)), bH⟩
 -- NOT PRINTED: function 77 (lin_each)

end Go.Proofs.YtnkckdbjeemjeaaGreatDoor.X
