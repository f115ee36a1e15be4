-- PRINTED by print.py (a twelfth state) out of the translation. Not trusted: Lean checks it.
import Derived.Test.YtnkckdbjeemjeaaGreatDoorXx0
namespace Go.Proofs.YtnkckdbjeemjeaaGreatDoor.X
open Go.Proofs.YtnkckdbjeemjeaaGreatDoor.Flt Go.Proofs.YtnkckdbjeemjeaaGreatDoor.H Go.RowKit Go.Proofs.YtnkckdbjeemjeaaGreatDoorW.PrintWords Go.Proofs.YtnkckdbjeemjeaaGreatDoorW.PrintLast Go.Proofs.YtnkckdbjeemjeaaGreatDoorW.PrintMore
attribute [local go_sem] max2_int min2_int max_two min_two max_three min_three max_four min_four   -- for this text's walks alone
set_option linter.unusedVariables false
set_option linter.unusedSimpArgs false

/-! ### lin_Const: function 52 -/
def lin_Const.f (a0 : Int) (a1 : Int) : Option (List Int × Int) := if 0 ≤ (mx a0 0) then (if (mx a0 0 : Int).toNat ≤ 35184372088832 then (some ((List.replicate (mx a0 0 : Int).toNat 0), a1)) else (none)) else (none)
set_option maxHeartbeats 8000000 in
set_option maxRecDepth 100000 in
theorem lin_Const.calls (a0 : Int) (a1 : Int) (r1 : List Int) (r2 : Int) (w : World) (h : lin_Const.f a0 a1 = some (r1, r2)) :
  Calls Tryz.prog 52 #[.int .i64 a0, .int .i64 a1] w fun e w' => ∃ v0_ : Value, e = .returned (.agg #[v0_, .int .i64 r2]) ∧ Kd.R (Kd.int .i64) 2 w' w.heap.size (fun _ => True) v0_ r1 ∧ Below w.heap.size w w' := by
 have hu46 := Tryz.underlying46
 have HB := mk0 (Below.refl w.heap.size w)
 have H : (if 0 ≤ (mx a0 0) then (if (mx a0 0 : Int).toNat ≤ 35184372088832 then (some ((List.replicate (mx a0 0 : Int).toNat 0), a1)) else (none)) else (none)) = some (r1, r2) := h
 clear h
 obtain ⟨ji3, hji3⟩ : ∃ j_ : Int, (mx a0 0) = j_ := ⟨_, rfl⟩
 replace H : (if 0 ≤ (ji3) then (if (ji3 : Int).toNat ≤ 35184372088832 then (some ((List.replicate (ji3 : Int).toNat 0), a1)) else (none)) else (none)) = some (r1, r2) := by first | (rw [hji3] at H; exact H) | (simp only [hji3] at H ⊢; exact H)
 (try (have hji3l : 0 ≤ ji3 := by (rw [← hji3]; unfold mx; (repeat' split) <;> omega)))
 (try (have hji3m : 0 ≤ ji3 := by omega))
 have hji3_ : (if a0 < 0 then 0 else a0) = ji3 := hji3
 by_cases c4 : 0 ≤ (ji3)
 ·rw [if_pos c4] at H
  have ak := eq_true c4; have al := decide_eq_true c4; clear c4
  by_cases c5 : (ji3 : Int).toNat ≤ 35184372088832
  ·rw [if_pos c5] at H
   have am := eq_true c5; have ao := decide_eq_true c5; clear c5; obtain ⟨ab, ac⟩ : ∃ y_ : List Int, y_ = (List.replicate (ji3 : Int).toNat 0) := ⟨_, rfl⟩; (replace H : (some (ab, a1)) = some (r1, r2) := by (try rw [ac]); first | with_reducible exact H | with_reducible exact oN H | exact H); have af := mk0 ac; clear ac; simp only [Option.some.injEq, Prod.mk.injEq] at H; obtain ⟨rfl, rfl⟩ := H; go_enter Tryz.func52, Tryz.ntmps52
   go_wp2_with (first | ((with_reducible refine gate_dst (N := 4) rfl ?_); refine bxE 4 #[.slice none 0 0, .int .i64 0] 46 ?_; intro ae hg w6 hbox hb; have aa := mk0 (hbox); have ap := gE (uL HB.out) hg; replace HB := hbB (uL HB.out) hb; clear hb hbox hg) | ((with_reducible refine gate_dst (N := 7) rfl ?_); refine Kd.R_make (Kd.int .i64) _ 2 rfl (N := 7) rfl 37 _ _ rfl ji3 rfl rfl Tryz.underlying37 (.int .i64 0) 8 info2 rfl (by decide) (by omega) 0 (ok := fun _ => True) (okp := fun _ => True) rfl (fun _ hk => hk) trivial (dY) (Nat.le_trans (Nat.mul_le_mul_right _ (dY : ji3.toNat ≤ 35184372088832)) (by omega)) (Below.refl _ _) (Nat.le_refl _) ?_; intro aq w7 ho8 hb hg_ hnew_; clear hg_ hnew_; (first | rw [← af.out] at ho8 | (simp only [Int.reduceToNat] at ho8; rw [← af.out] at ho8)); have ag := mk0 (Kd.R_lower ho8 (below_size bH)); replace aa := bB aa hb; replace HB := hbB bH hb; clear hb ho8; obtain ⟨ah, ai, aj⟩ := Kd.R_slice ag.out; subst aj; obtain ⟨ar, au, av, aw⟩ := cL2 aa))
   refine bodyPost_ret (results_cell_row rfl _ _ ae 46 #[.slice ah ab.length ai, .int .i64 a1] (0, 0) _ rfl (kB) Tryz.underlying46 rfl (by kernel_rfl)) rfl ?_; exact ⟨_, by first | rfl | (simp [errW_none, errW_some] <;> rfl) | (simp only [← hji3]; first | rfl | (simp [errW_none, errW_some] <;> rfl)) | (simp [*, errW_none, errW_some] <;> rfl), uR (Kd.R_mono (Kd.R_far (p := ⟨ae, 1, none⟩) (Kd.R_far (p := ⟨ae, 0, none⟩) (Kd.R_types ag.out aa.out (by decide)) (fun _ hk => hk.2) (.slice ah ab.length ai)) (fun _ hk => hk.2) (.int .i64 a1)) (fun _ hk => trivial)), bH⟩
  ·exact nO H c5
 ·exact nO H c4

/-! ### slices_Index_string_string: function 53 -/
def slices_Index_string_string.l0 : Nat → List ByteArray → ByteArray → Int → Int → Option (Int)
 | 0, _, _, _, _ => none
 | k + 1, x0, x1, x7, x8 => if x8 < x7 then (if 0 ≤ x8 then (if x8 < (x0.length : Int) then (if x1.toList = (rdOf ByteArray.empty x0 x8).toList then (some x8) else (slices_Index_string_string.l0 k x0 x1 x7 (wrap64 (x8 + 1)))) else (none)) else (none)) else (some (-1))
def slices_Index_string_string.f (k : Nat) (l0 : List ByteArray) (a1 : ByteArray) : Option (Int) := slices_Index_string_string.l0 k l0 a1 (l0.length : Int) 0
theorem slices_Index_string_string.mono_l : ∀ k, (∀ y0 y1 y2 y3, LeO (slices_Index_string_string.l0 k y0 y1 y2 y3) (slices_Index_string_string.l0 (k + 1) y0 y1 y2 y3))
 | 0 => fun _ _ _ _ r h => by simp [slices_Index_string_string.l0] at h
 | k + 1 => by
  have ih0 := slices_Index_string_string.mono_l k
  ·intro y0 y1 y2 y3
   unfold slices_Index_string_string.l0
   repeat' first
   | (with_reducible exact ih0 _ _ _ _)
   | (with_reducible exact LeO.refl _)
   | (with_reducible exact LeO.none _)
   | (with_reducible refine LeO.ite ?_ ?_)
   | (with_reducible refine LeO.bind ?_ (fun _ => ?_))
   | exact ih0 _ _ _ _
   | exact LeO.none _
   | refine LeO.ite ?_ ?_
   | refine LeO.bind ?_ (fun _ => ?_)
theorem slices_Index_string_string.mono : ∀ a0 a1 k, LeO (slices_Index_string_string.f k a0 a1) (slices_Index_string_string.f (k + 1) a0 a1) := by
 intro a0 a1 k
 have ih0 := slices_Index_string_string.mono_l k
 unfold slices_Index_string_string.f
 repeat' first
   | (with_reducible exact ih0 _ _ _ _)
   | (with_reducible exact LeO.refl _)
   | (with_reducible exact LeO.none _)
   | (with_reducible refine LeO.ite ?_ ?_)
   | (with_reducible refine LeO.bind ?_ (fun _ => ?_))
   | exact ih0 _ _ _ _
   | exact LeO.none _
   | refine LeO.ite ?_ ?_
   | refine LeO.bind ?_ (fun _ => ?_)
set_option maxHeartbeats 8000000 in
set_option maxRecDepth 100000 in
theorem slices_Index_string_string.calls (k : Nat) (A0 : Option Addr) (c0 : Nat) (l0 : List ByteArray) (a1 : ByteArray) (r : Int) (w : World) (hr0 : Kd.C Kd.string w A0 l0.length l0) (hc0 : l0.length ≤ c0) (h : slices_Index_string_string.f k l0 a1 = some r) :
  Calls Tryz.prog 53 #[.slice A0 l0.length c0, .string a1] w fun e w' => e = .returned (.int .i64 r) ∧ Drawn0 w w' := by
 have HR0 := mk0 hr0
 have HC0 := mk0 hc0
 clear hr0 hc0
 have H : (slices_Index_string_string.l0 k l0 a1 (l0.length : Int) 0) = some r := h
 clear h
 have H' := mk0 H
 clear H
 go_enter Tryz.func53, Tryz.ntmps53
 go_wp2
 go_loopg [8] k (fun kq v8 w' => ∃ (x8_1 : Int), v8 = .int .i64 x8_1 ∧ Aside0 (slices_Index_string_string.l0 kq l0 a1 (l0.length : Int) x8_1 = some r) ∧ Aside0 (kq ≤ k) ∧ Drawn0 w w')
 case atStart => exact ⟨(0), eK, H', ⟨Nat.le_refl _⟩, by repeat (first | exact Drawn0.refl _ | apply Drawn0.step)⟩
 case round =>
  clear H'; obtain ⟨x8_1, rfl, HA, HK1, ⟨m1, rfl⟩⟩ := hrel
  cases gk with
  | zero => exact absurd HA.out (by simp [slices_Index_string_string.l0])
  | succ k1 =>
   have H := HA.out; clear HA; simp only [slices_Index_string_string.l0] at H
   by_cases c3 : x8_1 < (l0.length : Int)
   ·rw [if_pos c3] at H
    have c3b0 := decide_eq_true c3; clear c3
    by_cases c4 : 0 ≤ x8_1
    ·rw [if_pos c4] at H
     have c4b0 := decide_eq_true c4; clear c4
     by_cases c5 : x8_1 < (l0.length : Int)
     ·rw [if_pos c5] at H
      have c5b0 := decide_eq_true c5; clear c5
      by_cases c6 : a1.toList = (rdOf ByteArray.empty l0 x8_1).toList
      ·rw [if_pos c6] at H
       obtain ⟨c6b0, c6b1⟩ := yQ c6; clear c6; obtain rfl := Option.some.inj H; have p126 : 0 ≤ (x8_1 : Int) := dY; have q126 : x8_1 < (l0.length : Int) := dY; obtain ⟨ad126, e126, hx126_0⟩ := Kd.at_string HR0.out x8_1 p126 q126
       cases e126
       replace p126 := eq_true p126; replace q126 := eq_true q126; go_wp2; go_ret; exact ⟨eK, by repeat (first | exact Drawn0.refl _ | apply Drawn0.step)⟩
      ·rw [if_neg c6] at H
       obtain ⟨c6b0, c6b1⟩ := nQ c6; have H' := mk0 H; clear H; have p126 : 0 ≤ (x8_1 : Int) := dY; have q126 : x8_1 < (l0.length : Int) := dY; obtain ⟨ad126, e126, hx126_0⟩ := Kd.at_string HR0.out x8_1 p126 q126
       cases e126
       replace p126 := eq_true p126; replace q126 := eq_true q126; go_wp2
       go_roundg k1
       case measure => have := HK1.out; omega
       case rel => exact ⟨(wrap64 (x8_1 + 1)), eK, H', ⟨by have := HK1.out; omega⟩, by repeat (first | exact Drawn0.refl _ | apply Drawn0.step)⟩
     ·exact nO H c5
    ·exact nO H c4
   ·rw [if_neg c3] at H
    have c3b0 := decide_eq_false c3; clear c3; obtain rfl := Option.some.inj H; go_wp2; go_ret; exact ⟨eK, by repeat (first | exact Drawn0.refl _ | apply Drawn0.step)⟩

/-! ### lin_Index: function 54 -/
def lin_Index.f (a0 : Int) (a1 : Int) : Option (List Int × Int) := (lin_Const.f a0 0).bind fun bt128 => (if a1 ≥ 0 then (if a1 < a0 then (if 0 ≤ a1 then (if a1 < (bt128.1.length : Int) then (some ((bt128.1.set (a1 : Int).toNat 1), bt128.2)) else (none)) else (none)) else (some (bt128.1, bt128.2))) else (some (bt128.1, bt128.2)))
set_option maxHeartbeats 8000000 in
set_option maxRecDepth 100000 in
theorem lin_Index.calls (a0 : Int) (a1 : Int) (r1 : List Int) (r2 : Int) (w : World) (h : lin_Index.f a0 a1 = some (r1, r2)) :
  Calls Tryz.prog 54 #[.int .i64 a0, .int .i64 a1] w fun e w' => ∃ v0_ : Value, e = .returned (.agg #[v0_, .int .i64 r2]) ∧ Kd.R (Kd.int .i64) 2 w' w.heap.size (fun _ => True) v0_ r1 ∧ Below w.heap.size w w' := by
 have hu46 := Tryz.underlying46
 have HB := mk0 (Below.refl w.heap.size w)
 have H : ((lin_Const.f a0 0).bind fun ai => (if a1 ≥ 0 then (if a1 < a0 then (if 0 ≤ a1 then (if a1 < (ai.1.length : Int) then (some ((ai.1.set (a1 : Int).toNat 1), ai.2)) else (none)) else (none)) else (some (ai.1, ai.2))) else (some (ai.1, ai.2)))) = some (r1, r2) := h
 clear h
 replace H := Option.bind_eq_some_iff.mp H
 obtain ⟨⟨ac, ae⟩, az, H⟩ := H
 dsimp only at H
 have A3 := mk0 az
 clear az
 by_cases c4 : a1 ≥ 0
 ·rw [if_pos c4] at H
  have aJ := decide_eq_true c4; clear c4
  by_cases c5 : a1 < a0
  ·rw [if_pos c5] at H
   have aK := decide_eq_true c5; clear c5
   by_cases c6 : 0 ≤ a1
   ·rw [if_pos c6] at H
    have aW := decide_eq_true c6; clear c6
    by_cases c7 : a1 < (ac.length : Int)
    ·rw [if_pos c7] at H
     have aX := decide_eq_true c7; clear c7; obtain ⟨aA, aq⟩ : ∃ y_ : List Int, y_ = (ac.set (a1 : Int).toNat 1) := ⟨_, rfl⟩; (replace H : (some (aA, ae)) = some (r1, r2) := by (try rw [aq]); first | with_reducible exact H | with_reducible exact oN H | exact H); have aM := mk0 aq; clear aq; simp only [Option.some.injEq, Prod.mk.injEq] at H; obtain ⟨rfl, rfl⟩ := H; go_enter Tryz.func54, Tryz.ntmps54
     go_wp2_with (first | ((with_reducible refine gate_dst (N := 4) rfl ?_); refine bxE 4 #[.slice none 0 0, .int .i64 0] 46 ?_; intro ag hg w9 hbox hb; have aa := mk0 (hbox); have aC := gE (uL HB.out) hg; replace HB := hbB (uL HB.out) hb; clear hb hbox hg) | ((with_reducible refine gate_dst (N := 7) rfl ?_); refine gsM (some 7) Tryz.func52 #[.int .i64 a0, .int .i64 0] ?_; (with_reducible refine (lin_Const.calls a0 0 ac ae _ A3.out).mono ?_); rintro e aY ⟨aD, rfl, ho0, hb⟩; refine ⟨_, rfl, ?_⟩; have ab := mk0 (Kd.R_lower ho0 (below_size bH)); replace aa := bB aa hb; replace HB := hbB bH hb; (try clear hb hk ho0)) | ((with_reducible refine gate_dst (N := 5) rfl ?_); refine bxE 5 #[.slice none 0 0, .int .i64 0] 46 ?_; intro ah hg aN hbox hb; replace ab := rB ab hb; have af := mk0 (hbox); have aE := gE bH hg; replace HB := hbB bH hb; have al := nL aa hg; have am := nG aa hg; replace aa := bB aa hb; clear hb hbox hg; obtain ⟨ap, aj, aQ⟩ := Kd.R_slice ab.out; subst aQ; have aZ := am.out; have a_ := al.out; obtain ⟨bf, bg, bh, bi⟩ := cL2 af) | ((with_reducible refine gate_store (t := 46) (p := 5) rfl ?_); refine store_event (t := 46) (p := 5) (v := ?vo_w15) (w1 := ((aN.setCell ⟨ah, 0, none⟩ (.slice ap ac.length aj)).setCell ⟨ah, 1, none⟩ (.int .i64 ae))) ?hg ?ho ?hn ?hr ?_; (case ho => rfl); (case hg => rfl); (case hn => rfl); (case hr => first | (go_simp; done) | (go_simp; rfl)); intro ak hw; have n0_ : Aside0 (Kd.R (Kd.int .i64) 2 ak w.heap.size (fun _ => True) (.slice ap ac.length aj) ac) := ⟨(by rw [hw]; exact (uR (Kd.R_mono (Kd.R_far (p := ⟨ah, 1, none⟩) (Kd.R_far (p := ⟨ah, 0, none⟩) (Kd.R_types ab.out af.out (by decide)) (fun _ hk => hk.2) (.slice ap ac.length aj)) (fun _ hk => hk.2) (.int .i64 ae)) (fun _ hk => trivial))))⟩; have n1_ : Aside0 (ak.heap[ag]? = some (.cells #[.slice none 0 0, .int .i64 0] 46 (0, 0))) := ⟨(by rw [hw]; exact (kB))⟩; have n2_ : Aside0 (ak.heap[ah]? = some (.cells #[.slice ap ac.length aj, .int .i64 ae] 46 (0, 0))) := ⟨(by rw [hw]; exact (kB))⟩; have n3_ : Aside0 (Below w.heap.size w ak) := ⟨(by rw [hw]; exact bH)⟩; clear hw ab aa af HB; have ab := n0_; have aa := n1_; have af := n2_; have HB := n3_; clear n0_ n1_ n2_ n3_; obtain ⟨bj, bk, bl, bm⟩ := cL2 af; have p8 : 0 ≤ (a1 : Int) := dY; have q8 : (a1 : Int) < ((ac.length : Int) : Int) := dY; obtain ⟨ao, bn, aG, aH, gl8, cl8, aI⟩ := Kd.R_form ab.out (by omega); (first | cases aG | (injection aG with ea_ en_ ec_; (first | subst ea_ | (injection ea_ with ea_; subst ea_)); subst ec_; clear en_)); have aT := mk0 aH; have GG8 := mk0 aI; clear aH gl8 aI; obtain ⟨bo, bp⟩ := Kd.R_celln 0 ab.out (a1 : Int) p8 q8; replace p8 := eq_true p8; replace q8 := eq_true q8; obtain ⟨hy17_, hz17_⟩ := Kd.R_celln 0 ab.out (a1 : Int) (dY) (dY); have ar := Kd.R_putg ab.out (a1 : Int) 1) | ((with_reducible refine gate_store (t := 2) (p := 18) rfl ?_); refine store_event (t := 2) (p := 18) (v := ?vo_w18) (w1 := (ak.setCell ⟨ao, (a1 : Int).toNat, none⟩ (.int .i64 1))) ?hg ?ho ?hn ?hr ?_; (case ho => rfl); (case hg => rfl); (case hn => rfl); (case hr => first | (go_simp; done) | (go_simp; rfl)); intro au hw; have hg : ak.grownBy au (some ao) := (by rw [hw]; exact ar.2); have hp_ : Kd.R (Kd.int .i64) 2 au w.heap.size (fun _ => True) (.slice (some ⟨ao, 0, none⟩) ac.length aj) aA := (by rw [hw, aM.out]; exact ar.1); clear ar; replace aa := (gB aa hg (Kd.R_ne ab.out aa.out (by decide))); replace af := (gB af hg (Kd.R_ne ab.out af.out (by decide))); replace ab := mk0 (hp_); replace HB := mk0 ((by rw [hw]; exact below_set (HB.out) aT.out : Below w.heap.size w au)); clear hg hw hp_; obtain ⟨bq, br, bs, bu⟩ := cL2 af; obtain ⟨bv, bw, bz, bC⟩ := cL2 aa))
     refine bodyPost_ret (results_cell_row rfl _ _ ag 46 #[.slice (some ⟨ao, 0, none⟩) ac.length aj, .int .i64 ae] (0, 0) _ rfl (kB) Tryz.underlying46 rfl (by kernel_rfl)) rfl ?_; exact ⟨_, rE, uR (Kd.R_mono (Kd.R_far (p := ⟨ag, 1, none⟩) (Kd.R_far (p := ⟨ag, 0, none⟩) (Kd.R_types ab.out aa.out (by decide)) (fun _ hk => hk.2) (.slice (some ⟨ao, 0, none⟩) ac.length aj)) (fun _ hk => hk.2) (.int .i64 ae)) (fun _ hk => trivial)), bH⟩
    ·exact nO H c7
   ·exact nO H c6
  ·rw [if_neg c5] at H
   have aK := decide_eq_false c5; clear c5; simp only [Option.some.injEq, Prod.mk.injEq] at H; obtain ⟨rfl, rfl⟩ := H; go_enter Tryz.func54, Tryz.ntmps54
   go_wp2_with (first | ((with_reducible refine gate_dst (N := 4) rfl ?_); refine bxE 4 #[.slice none 0 0, .int .i64 0] 46 ?_; intro ag hg bE hbox hb; have aa := mk0 (hbox); have aC := gE (uL HB.out) hg; replace HB := hbB (uL HB.out) hb; clear hb hbox hg) | ((with_reducible refine gate_dst (N := 7) rfl ?_); refine gsM (some 7) Tryz.func52 #[.int .i64 a0, .int .i64 0] ?_; (with_reducible refine (lin_Const.calls a0 0 ac ae _ A3.out).mono ?_); rintro e bF ⟨aD, rfl, ho0, hb⟩; refine ⟨_, rfl, ?_⟩; have ab := mk0 (Kd.R_lower ho0 (below_size bH)); replace aa := bB aa hb; replace HB := hbB bH hb; (try clear hb ho0)) | ((with_reducible refine gate_dst (N := 5) rfl ?_); refine bxE 5 #[.slice none 0 0, .int .i64 0] 46 ?_; intro ah hg bG hbox hb; replace ab := rB ab hb; have af := mk0 (hbox); have aE := gE bH hg; replace HB := hbB bH hb; have al := nL aa hg; have am := nG aa hg; replace aa := bB aa hb; clear hb hbox hg; obtain ⟨av, aw, aU⟩ := Kd.R_slice ab.out; subst aU; have bI := am.out; have bJ := al.out; obtain ⟨bK, bL, bM, bO⟩ := cL2 af; obtain ⟨bP, bQ, bR, bT⟩ := cL2 aa))
   refine bodyPost_ret (results_cell_row rfl _ _ ag 46 #[.slice av ac.length aw, .int .i64 ae] (0, 0) _ rfl (kB) Tryz.underlying46 rfl (by kernel_rfl)) rfl ?_; exact ⟨_, rE, uR (Kd.R_mono (Kd.R_far (p := ⟨ag, 1, none⟩) (Kd.R_far (p := ⟨ag, 0, none⟩) (Kd.R_far (p := ⟨ah, 1, none⟩) (Kd.R_far (p := ⟨ah, 0, none⟩) (Kd.R_types (Kd.R_types ab.out af.out (by decide)) aa.out (by decide)) (fun _ hk => hk.1.2) (.slice av ac.length aw)) (fun _ hk => hk.1.2) (.int .i64 ae)) (fun _ hk => hk.2) (.slice av ac.length aw)) (fun _ hk => hk.2) (.int .i64 ae)) (fun _ hk => trivial)), bH⟩
 ·rw [if_neg c4] at H
  have aJ := decide_eq_false c4; clear c4; simp only [Option.some.injEq, Prod.mk.injEq] at H; obtain ⟨rfl, rfl⟩ := H; go_enter Tryz.func54, Tryz.ntmps54
  go_wp2_with (first | ((with_reducible refine gate_dst (N := 4) rfl ?_); refine bxE 4 #[.slice none 0 0, .int .i64 0] 46 ?_; intro ag hg bU hbox hb; have aa := mk0 (hbox); have aC := gE (uL HB.out) hg; replace HB := hbB (uL HB.out) hb; clear hb hbox hg) | ((with_reducible refine gate_dst (N := 7) rfl ?_); refine gsM (some 7) Tryz.func52 #[.int .i64 a0, .int .i64 0] ?_; (with_reducible refine (lin_Const.calls a0 0 ac ae _ A3.out).mono ?_); rintro e bV ⟨aD, rfl, ho0, hb⟩; refine ⟨_, rfl, ?_⟩; have ab := mk0 (Kd.R_lower ho0 (below_size bH)); replace aa := bB aa hb; replace HB := hbB bH hb; (try clear hb ho0)) | ((with_reducible refine gate_dst (N := 5) rfl ?_); refine bxE 5 #[.slice none 0 0, .int .i64 0] 46 ?_; intro ah hg bW hbox hb; replace ab := rB ab hb; have af := mk0 (hbox); have aE := gE bH hg; replace HB := hbB bH hb; have al := nL aa hg; have am := nG aa hg; replace aa := bB aa hb; clear hb hbox hg; obtain ⟨ax, ay, aV⟩ := Kd.R_slice ab.out; subst aV; have bX := am.out; have bY := al.out; obtain ⟨bZ, b4, b5, b6⟩ := cL2 af; obtain ⟨b7, b8, b9, cd⟩ := cL2 aa))
  refine bodyPost_ret (results_cell_row rfl _ _ ag 46 #[.slice ax ac.length ay, .int .i64 ae] (0, 0) _ rfl (kB) Tryz.underlying46 rfl (by kernel_rfl)) rfl ?_; exact ⟨_, rE, uR (Kd.R_mono (Kd.R_far (p := ⟨ag, 1, none⟩) (Kd.R_far (p := ⟨ag, 0, none⟩) (Kd.R_far (p := ⟨ah, 1, none⟩) (Kd.R_far (p := ⟨ah, 0, none⟩) (Kd.R_types (Kd.R_types ab.out af.out (by decide)) aa.out (by decide)) (fun _ hk => hk.1.2) (.slice ax ac.length ay)) (fun _ hk => hk.1.2) (.int .i64 ae)) (fun _ hk => hk.2) (.slice ax ac.length ay)) (fun _ hk => hk.2) (.int .i64 ae)) (fun _ hk => trivial)), bH⟩
 -- NOT PRINTED: function 77 (lin_each)


/-! ### lin_Same: function 94 -/
mutual
def lin_Same.l0 : Nat → Int → Int → List Int → Int → List Int → Int → Option (Bool)
 | 0, _, _, _, _, _, _ => none
 | k + 1, x14, x15, x135000, x135001, x136000, x136001 => if x15 < x14 then (if x15 < (x135000.length : Int) then (if 0 ≤ x15 then (lin_Same.j1 k x15 (rd x135000 x15) 0 x14 x15 x135000 x135001 x136000 x136001) else (none)) else (lin_Same.j1 k x15 0 0 x14 x15 x135000 x135001 x136000 x136001)) else (some (x135001 == x136001))
def lin_Same.j1 : Nat → Int → Int → Int → Int → Int → List Int → Int → List Int → Int → Option (Bool)
 | 0, _, _, _, _, _, _, _, _, _ => none
 | k + 1, x5, x6, x7, x14, x15, x135000, x135001, x136000, x136001 => if x5 < (x136000.length : Int) then (if 0 ≤ x5 then (if x6 = (rd x136000 x5) then (lin_Same.l0 k x14 (wrap64 (x15 + 1)) x135000 x135001 x136000 x136001) else (some false)) else (none)) else (if x6 = x7 then (lin_Same.l0 k x14 (wrap64 (x15 + 1)) x135000 x135001 x136000 x136001) else (some false))
end
def lin_Same.f (k : Nat) (l0_0 : List Int) (a0_1 : Int) (l1_0 : List Int) (a1_1 : Int) : Option (Bool) := lin_Same.l0 k (mx (l0_0.length : Int) (l1_0.length : Int)) 0 l0_0 a0_1 l1_0 a1_1
theorem lin_Same.mono_l : ∀ k, (∀ y0 y1 y2 y3 y4 y5, LeO (lin_Same.l0 k y0 y1 y2 y3 y4 y5) (lin_Same.l0 (k + 1) y0 y1 y2 y3 y4 y5)) ∧ (∀ y0 y1 y2 y3 y4 y5 y6 y7 y8, LeO (lin_Same.j1 k y0 y1 y2 y3 y4 y5 y6 y7 y8) (lin_Same.j1 (k + 1) y0 y1 y2 y3 y4 y5 y6 y7 y8))
 | 0 => by refine ⟨?_, ?_⟩ <;> intros <;> exact fun r h => by simp [lin_Same.l0, lin_Same.j1] at h
 | k + 1 => by
  obtain ⟨i0_, i1_⟩ := lin_Same.mono_l k; refine ⟨?_, ?_⟩ <;> intros
  ·unfold lin_Same.l0; exact lO_
  ·unfold lin_Same.j1; exact lO_
theorem lin_Same.mono : ∀ a0 a1 a2 a3 k, LeO (lin_Same.f k a0 a1 a2 a3) (lin_Same.f (k + 1) a0 a1 a2 a3) := by
 intro a0 a1 a2 a3 k
 obtain ⟨i0_, i1_⟩ := lin_Same.mono_l k; unfold lin_Same.f; exact lO_
set_option maxHeartbeats 8000000 in
set_option maxRecDepth 100000 in
theorem lin_Same.calls (k : Nat) (A0_0 : Option Addr) (c0_0 : Nat) (l0_0 : List Int) (a0_1 : Int) (A1_0 : Option Addr) (c1_0 : Nat) (l1_0 : List Int) (a1_1 : Int) (r : Bool) (w : World) (hr0_0 : Kd.C (Kd.int .i64) w A0_0 l0_0.length l0_0) (hc0_0 : l0_0.length ≤ c0_0) (hr1_0 : Kd.C (Kd.int .i64) w A1_0 l1_0.length l1_0) (hc1_0 : l1_0.length ≤ c1_0) (h : lin_Same.f k l0_0 a0_1 l1_0 a1_1 = some r) :
  Calls Tryz.prog 94 #[.agg #[.slice A0_0 l0_0.length c0_0, .int .i64 a0_1], .agg #[.slice A1_0 l1_0.length c1_0, .int .i64 a1_1]] w fun e w' => e = .returned (.bool r) ∧ Below w.heap.size w w' := by
 have hu46 := Tryz.underlying46
 have aT := mk0 hr0_0
 have bj := mk0 hc0_0
 clear hr0_0 hc0_0
 have az := mk0 hr1_0
 have bk := mk0 hc1_0
 clear hr1_0 hc1_0
 have HB := mk0 (Below.refl w.heap.size w)
 have H : (lin_Same.l0 k (mx (l0_0.length : Int) (l1_0.length : Int)) 0 l0_0 a0_1 l1_0 a1_1) = some r := h
 clear h
 obtain ⟨ji3, hji3⟩ : ∃ j_ : Int, (mx (l0_0.length : Int) (l1_0.length : Int)) = j_ := ⟨_, rfl⟩
 replace H : (lin_Same.l0 k ji3 0 l0_0 a0_1 l1_0 a1_1) = some r := by first | (rw [hji3] at H; exact H) | (simp only [hji3] at H ⊢; exact H)
 (try (have hji3l : 0 ≤ ji3 := by (rw [← hji3]; unfold mx; (repeat' split) <;> omega)))
 (try (have hji3m : 0 ≤ ji3 := by omega))
 have hji3_ : (if (l0_0.length : Int) < (l1_0.length : Int) then (l1_0.length : Int) else (l0_0.length : Int)) = ji3 := hji3
 have hji3n : (if l0_0.length < l1_0.length then (l1_0.length : Int) else (l0_0.length : Int)) = ji3 := by (have h_ := hji3_; simp only [Int.ofNat_lt] at h_; exact h_)
 have H' := mk0 H
 clear H
 go_enter Tryz.func94, Tryz.ntmps94
 go_wp2_with (first | ((with_reducible refine gate_dst (N := 2) rfl ?_); refine bxE 2 #[.slice A0_0 l0_0.length c0_0, .int .i64 a0_1] 46 ?_; intro aA hg w4 hbox hb; have ab := mk0 (hbox); have bl := gE (uL HB.out) hg; replace HB := hbB (uL HB.out) hb; clear hb hbox hg) | ((with_reducible refine gate_dst (N := 3) rfl ?_); refine bxE 3 #[.slice A1_0 l1_0.length c1_0, .int .i64 a1_1] 46 ?_; intro aC hg w5 hbox hb; have ac := mk0 (hbox); have bm := gE bH hg; replace HB := hbB bH hb; have ae := nL ab hg; have af := nG ab hg; replace ab := bB ab hb; clear hb hbox hg; have bn := ae.out; have bo := af.out; obtain ⟨aD, aE, aG, aH⟩ := cL2 ab; obtain ⟨aI, aJ, aK, aM⟩ := cL2 ac))
 go_loopg [15] k (fun kq v15 w' => ∃ (aa : Int), v15 = .int .i64 aa ∧ Aside0 (lin_Same.l0 kq ji3 aa l0_0 a0_1 l1_0 a1_1 = some r) ∧ Aside0 (kq ≤ k) ∧ Aside0 (w'.heap[aA]? = some (.cells #[(.slice A0_0 l0_0.length c0_0), .int .i64 a0_1] 46 (0, 0))) ∧ Aside0 (w'.heap[aC]? = some (.cells #[(.slice A1_0 l1_0.length c1_0), .int .i64 a1_1] 46 (0, 0))) ∧ Aside0 (Below w.heap.size w w'))
 case atStart => exact ⟨(0), eK, H', ⟨Nat.le_refl _⟩, ⟨uB ab.out⟩, ⟨uB ac.out⟩, ⟨bH⟩⟩
 case round =>
  clear H'; (try clear aD aE aI aJ aG aH aK aM); obtain ⟨aa, rfl, HA, ai, ab, ac, HB⟩ := hrel
  cases gk with
  | zero => exact absurd HA.out (by simp [lin_Same.l0])
  | succ k1 =>
   have H := HA.out; clear HA; simp only [lin_Same.l0] at H
   by_cases c9 : aa < ji3
   ·rw [if_pos c9] at H
    have aN := decide_eq_true c9; clear c9; have av := mk0 H; clear H; have bp := ae.out; have bq := af.out; obtain ⟨aU, aV, aW, aX⟩ := cL2 ab
    go_upto_if 22 with (fail)
    go_cut [6] (fun v6 wc => ∃ (kq : Nat) (x6_9 : Int), v6 = .int .i64 x6_9 ∧ Aside0 (lin_Same.j1 kq aa x6_9 0 ji3 aa l0_0 a0_1 l1_0 a1_1 = some r) ∧ Aside0 (kq ≤ k1) ∧ Aside0 (wc.heap[aA]? = some (.cells #[(.slice A0_0 l0_0.length c0_0), .int .i64 a0_1] 46 (0, 0))) ∧ Aside0 (wc.heap[aC]? = some (.cells #[(.slice A1_0 l1_0.length c1_0), .int .i64 a1_1] 46 (0, 0))) ∧ Aside0 (Below w.heap.size w wc))
    case first =>
     have H := av.out; clear av
     by_cases aj : aa < (l0_0.length : Int)
     ·rw [if_pos aj] at H
      have al := decide_eq_true aj; clear aj; (first | rw [al] | (simp only [i64_w, i32_w]; rw [al]) | skip)
      by_cases aq : 0 ≤ aa
      ·rw [if_pos aq] at H
       have br := decide_eq_true aq; clear aq; have H' := mk0 H; clear H; have bs := ae.out; have bu := af.out; obtain ⟨bv, bw, bz, bC⟩ := cL2 ab; have aw : 0 ≤ (aa : Int) := dY; have ax : aa < (l0_0.length : Int) := dY; obtain ⟨bE, aY, aQ⟩ := Kd.at_int aT.out aa aw ax
       cases aY
       replace aQ := oC HB aQ; replace aw := eq_true aw; replace ax := eq_true ax; go_wp2
       go_meet
       case rel => exact ⟨_, (rd l0_0 aa), eK, H', ⟨by have := ai.out; first | omega | exact Nat.le_refl _⟩, ⟨uB ab.out⟩, ⟨uB ac.out⟩, ⟨bH⟩⟩
      ·exact nO H aq
     ·rw [if_neg aj] at H
      have al := decide_eq_false aj; clear aj; (first | rw [al] | (simp only [i64_w, i32_w]; rw [al]) | skip); have H' := mk0 H; clear H; go_wp2
      go_meet
      case rel => exact ⟨_, (0), eK, H', ⟨by have := ai.out; first | omega | exact Nat.le_refl _⟩, ⟨uB ab.out⟩, ⟨uB ac.out⟩, ⟨bH⟩⟩
    case rest =>
     clear av; (try clear c9 aN aU aV aD aE aI aJ aW aX aG aH aK aM); obtain ⟨kq, x6_9, rfl, HA, ar, ab, ac, HB⟩ := hcut
     cases kq with
     | zero => exact absurd HA.out (by simp [lin_Same.j1])
     | succ kj9 =>
      have H := HA.out; clear HA; simp only [lin_Same.j1] at H
      by_cases ak : aa < (l1_0.length : Int)
      ·rw [if_pos ak] at H
       have aZ := decide_eq_true ak; clear ak
       by_cases au : 0 ≤ aa
       ·rw [if_pos au] at H
        have bF := decide_eq_true au; clear au
        by_cases am : x6_9 = (rd l1_0 aa)
        ·rw [if_pos am] at H
         obtain ⟨a_, bf⟩ := yQ am; clear am; have H' := mk0 H; clear H; have bG := af.out; have bI := ae.out; obtain ⟨bJ, bK, bL, bM⟩ := cL2 ac; have ag : 0 ≤ (aa : Int) := dY; have ah : aa < (l1_0.length : Int) := dY; obtain ⟨bg, ay, ao⟩ := Kd.at_int az.out aa ag ah
         cases ay
         replace ao := oC HB ao; replace ag := eq_true ag; replace ah := eq_true ah; go_wp2
         go_roundg kj9
         case measure => have := ai.out; have := ar.out; omega
         case rel => exact ⟨(wrap64 (aa + 1)), eK, H', ⟨by have := ai.out; have := ar.out; omega⟩, ⟨uB ab.out⟩, ⟨uB ac.out⟩, ⟨bH⟩⟩
        ·rw [if_neg am] at H
         obtain ⟨a_, bf⟩ := nQ am; obtain rfl := Option.some.inj H; have bO := af.out; have bP := ae.out; obtain ⟨bQ, bR, bT, bU⟩ := cL2 ac; have ag : 0 ≤ (aa : Int) := dY; have ah : aa < (l1_0.length : Int) := dY; obtain ⟨bg, ay, ao⟩ := Kd.at_int az.out aa ag ah
         cases ay
         replace ao := oC HB ao; replace ag := eq_true ag; replace ah := eq_true ah; go_wp2; go_ret; exact ⟨by first | rfl | (simp [errW_none, errW_some] <;> rfl) | (simp only [← hji3]; first | rfl | (simp [errW_none, errW_some] <;> rfl)) | (simp [*, errW_none, errW_some] <;> rfl), bH⟩
       ·exact nO H au
      ·rw [if_neg ak] at H
       have aZ := decide_eq_false ak; clear ak
       by_cases ap : x6_9 = 0
       ·rw [if_pos ap] at H
        obtain ⟨bh, bi⟩ := yQ ap; clear ap; have H' := mk0 H; clear H; have bV := af.out; have bW := ae.out; obtain ⟨bX, bY, bZ, b4⟩ := cL2 ac; go_wp2
        go_roundg kj9
        case measure => have := ai.out; have := ar.out; omega
        case rel => exact ⟨(wrap64 (aa + 1)), eK, H', ⟨by have := ai.out; have := ar.out; omega⟩, ⟨uB ab.out⟩, ⟨uB ac.out⟩, ⟨bH⟩⟩
       ·rw [if_neg ap] at H
        obtain ⟨bh, bi⟩ := nQ ap; obtain rfl := Option.some.inj H; have b5 := af.out; have b6 := ae.out; obtain ⟨b7, b8, b9, cd⟩ := cL2 ac; go_wp2; go_ret; exact ⟨by first | rfl | (simp [errW_none, errW_some] <;> rfl) | (simp only [← hji3]; first | rfl | (simp [errW_none, errW_some] <;> rfl)) | (simp [*, errW_none, errW_some] <;> rfl), bH⟩
   ·rw [if_neg c9] at H
    have aN := decide_eq_false c9; clear c9; obtain rfl := Option.some.inj H; have ce := ae.out; have cf := af.out; obtain ⟨cg, ch, ci, cj⟩ := cL2 ab; obtain ⟨ck, cl, cm, cn⟩ := cL2 ac; go_wp2; go_ret; exact ⟨by first | rfl | (simp [errW_none, errW_some] <;> rfl) | (simp only [← hji3]; first | rfl | (simp [errW_none, errW_some] <;> rfl)) | (simp [*, errW_none, errW_some] <;> rfl), bH⟩

/-! ### lift_constant: function 81 -/
def lift_constant.f (k : Nat) (l0_0 : List Int) (a0_1 : Int) : Option (Bool) := (lin_Const.f 0 a0_1).bind fun bt139 => ((lin_Same.f k l0_0 a0_1 bt139.1 bt139.2).bind fun t143 => (some t143))
theorem lift_constant.mono : ∀ a0 a1 k, LeO (lift_constant.f k a0 a1) (lift_constant.f (k + 1) a0 a1) := by
 intro a0 a1 k
 have m0_ := @lin_Same.mono; unfold lift_constant.f; exact lO_
set_option maxHeartbeats 8000000 in
set_option maxRecDepth 100000 in
theorem lift_constant.calls (k : Nat) (A0_0 : Option Addr) (c0_0 : Nat) (l0_0 : List Int) (a0_1 : Int) (r : Bool) (w : World) (hr0_0 : Kd.C (Kd.int .i64) w A0_0 l0_0.length l0_0) (hc0_0 : l0_0.length ≤ c0_0) (h : lift_constant.f k l0_0 a0_1 = some r) :
  Calls Tryz.prog 81 #[.agg #[.slice A0_0 l0_0.length c0_0, .int .i64 a0_1]] w fun e w' => e = .returned (.bool r) ∧ Below w.heap.size w w' := by
 have hu46 := Tryz.underlying46
 have al := mk0 hr0_0
 have am := mk0 hc0_0
 clear hr0_0 hc0_0
 have HB := mk0 (Below.refl w.heap.size w)
 have H : ((lin_Const.f 0 a0_1).bind fun ag => ((lin_Same.f k l0_0 a0_1 ag.1 ag.2).bind fun ab => (some ab))) = some r := h
 clear h
 replace H := Option.bind_eq_some_iff.mp H
 obtain ⟨⟨ac, ae⟩, ah, H⟩ := H
 dsimp only at H
 have A2 := mk0 ah
 clear ah
 replace H := Option.bind_eq_some_iff.mp H
 obtain ⟨ab, ai, H⟩ := H
 have A3 := mk0 ai
 clear ai
 obtain rfl := Option.some.inj H
 go_enter Tryz.func81, Tryz.ntmps81
 try go_wp2_with (first | ((with_reducible refine gate_dst (N := 1) rfl ?_); refine bxE 1 #[.slice A0_0 l0_0.length c0_0, .int .i64 a0_1] 46 ?_; intro aj hg w4 hbox hb; have aa := mk0 (hbox); have aq := gE (uL HB.out) hg; replace HB := hbB (uL HB.out) hb; clear hb hbox hg))
 replace aa := mk0 (blk_drew aa.out)
 replace HB := mk0 (below_drew1 HB.out)
 refine start_ (n := 6) (S := fun w' => w'.cell? ⟨aj, 0, none⟩ = some (.slice A0_0 l0_0.length c0_0) ∧ w'.cell? ⟨aj, 1, none⟩ = some (.int .i64 a0_1)) (ds := []) (bts 6 0) (by kernel_rfl) rfl rfl ⟨(blk_cell aa.out 0).trans rfl, (blk_cell aa.out 1).trans rfl⟩ (fun hHeld => ?_)
 generalize w4.drew = w5 at aa HB hHeld ⊢
 refine pure_ (i := 1) (N := some 4) (v := ?_) (a' := ?_) (bts 6 2) rfl rfl (by kernel_rfl) (fun _ _ _ h => h) (Or.inl ⟨by rfl, ?_⟩) ?_ ?_
 rotate_left
 ·intro w'
  go_simp; (with_reducible rfl)
 rotate_left
 ·simp only [AP, i64_w, i32_w]
  rfl
 refine take_ (i := 0) (N := some 3) (v := ?_) (a' := ?_) (bts 6 3) rfl rfl (by kernel_rfl) (fun _ _ _ h => h) (Or.inl ⟨by rfl, ?_⟩) hHeld ?_ ?_
 rotate_left
 ·rintro w' ⟨s0, s1⟩
  go_simp; (with_reducible rfl)
 rotate_left
 ·simp only [AP, i64_w, i32_w]
  rfl
 refine take_ (i := 2) (N := some 5) (v := ?_) (a' := ?_) (bts 6 7) rfl rfl (by kernel_rfl) (fun _ _ _ h => h) (Or.inl ⟨by rfl, ?_⟩) hHeld ?_ ?_
 rotate_left
 ·rintro w' ⟨s0, s1⟩
  go_simp; (with_reducible rfl)
 rotate_left
 ·simp only [AP, i64_w, i32_w]
  rfl
 refine one_ (i := 3) (N := some 6) (bts 6 15) rfl rfl (by kernel_rfl) (by decide) (fun K hK => ?_)
 refine goes_ Tryz.func52 (by kernel_rfl) rfl #[.int .i64 0, .int .i64 a0_1] (by rfl) rfl rfl (by (try simp only [List.map_toArray, List.map_cons, List.map_nil]); first | done | rfl | (simp only [List.length_drop, List.length_take]; rfl)) ?_
 with_reducible refine (lin_Const.calls 0 a0_1 ac ae _ A2.out).mono ?_
 rintro e w6 ⟨ar, rfl, ho0, hb⟩
 refine ⟨_, rfl, ?_⟩
 have af := mk0 (Kd.R_lower ho0 (below_size bH))
 replace aa := bB aa hb
 replace HB := hbB bH hb
 (try clear hb)
 (try clear ho0)
 obtain ⟨ao, ap, ak⟩ := Kd.R_slice af.out
 (first | subst ak | (injection ak with f1_ f2_ f3_; have f4_ := f1_.symm; have f5_ := f3_.symm; clear f1_ f2_ f3_; subst f4_; subst f5_))
 refine hK.out _ _ ⟨(blk_cell aa.out 0).trans rfl, (blk_cell aa.out 1).trans rfl⟩ (fun hHeld => ?_)
 clear hK K
 refine norm_ (a' := ?_) ?_ ?_
 rotate_left
 ·show Act.put _ (some 6) _ = _
  simp only [AP, i64_w, i32_w]; rfl
 refine one_ (i := 4) (N := some 7) (bts 6 31) rfl rfl (by kernel_rfl) (by decide) (fun K hK => ?_)
 refine goes_ Tryz.func94 (by kernel_rfl) rfl #[.agg #[.slice A0_0 l0_0.length c0_0, .int .i64 a0_1], .agg #[.slice ao ac.length ap, .int .i64 ae]] (by rfl) rfl rfl (by (try simp only [List.map_toArray, List.map_cons, List.map_nil]); first | done | rfl | (simp only [List.length_drop, List.length_take]; rfl)) ?_
 with_reducible refine (lin_Same.calls k _ _ l0_0 a0_1 _ _ ac ae ab _ ?side1 ?side2 ?side3 ?side4 A3.out).mono ?_
 (case side1 => exact uC (Kd.C_below al.out HB.out))
 (case side2 => exact am.out)
 (case side3 => exact uC ((Kd.R_reads' af.out).2.2))
 (case side4 => exact (Kd.R_reads' af.out).2.1)
 rintro e w8 ⟨rfl, hb⟩
 refine ⟨_, rfl, ?_⟩
 replace aa := bB aa hb
 replace HB := hbB bH hb
 (try clear hb)
 refine hK.out _ _ ⟨(blk_cell aa.out 0).trans rfl, (blk_cell aa.out 1).trans rfl⟩ (fun hHeld => ?_)
 clear hK K
 refine norm_ (a' := ?_) ?_ ?_
 rotate_left
 ·show Act.put _ (some 7) _ = _
  simp only [AP, i64_w, i32_w]; rfl
 refine pure_ (i := 5) (N := some 2) (v := ?_) (a' := ?_) (bts 6 63) rfl rfl (by kernel_rfl) (fun _ _ _ h => h) (Or.inl ⟨by rfl, ?_⟩) ?_ ?_
 rotate_left
 ·intro w'
  go_simp; (with_reducible rfl)
 rotate_left
 ·simp only [AP, i64_w, i32_w]
  rfl
 refine done_ (by kernel_rfl) ?_
 try go_wp2
 go_ret
 exact ⟨rE, bH⟩

/-! ### num_Sub: function 85 -/
def num_Sub.f (a0 : Int) (a1 : Int) : Option (Int × Bool) := if ((decide (a0 < 0)) != (decide (a1 < 0))) = true then (if ((decide ((wrap64 (a0 - a1)) < 0)) != (decide (a0 < 0))) = true then (some (0, false)) else (some (wrap64 (a0 - a1), true))) else (some (wrap64 (a0 - a1), true))
set_option maxHeartbeats 8000000 in
set_option maxRecDepth 100000 in
theorem num_Sub.calls (a0 : Int) (a1 : Int) (r1 : Int) (r2 : Bool) (w : World) (h : num_Sub.f a0 a1 = some (r1, r2)) :
  Calls Tryz.prog 85 #[.int .i64 a0, .int .i64 a1] w fun e w' => e = .returned (.tuple #[.int .i64 r1, .bool r2]) ∧ Drawn0 w w' := by
 have H : (if ((decide (a0 < 0)) != (decide (a1 < 0))) = true then (if ((decide ((wrap64 (a0 - a1)) < 0)) != (decide (a0 < 0))) = true then (some (0, false)) else (some (wrap64 (a0 - a1), true))) else (some (wrap64 (a0 - a1), true))) = some (r1, r2) := h
 clear h
 by_cases c3 : ((decide (a0 < 0)) != (decide (a1 < 0))) = true
 ·rw [if_pos c3] at H
  have c3b0 : ((decide (a0 < 0)) != (decide (a1 < 0))) = true := c3; (try (have c3b1 : decide ((decide (a0 < 0)) = (decide (a1 < 0))) = false := by (revert c3; generalize ((decide (a0 < 0))) = p_; generalize ((decide (a1 < 0))) = q_; revert p_ q_; decide))); (try (have c3b2 : ((decide (a0 < 0)) == (decide (a1 < 0))) = false := by (revert c3; generalize ((decide (a0 < 0))) = p_; generalize ((decide (a1 < 0))) = q_; revert p_ q_; decide))); (try (have c3b3 : ¬ ((decide (a0 < 0)) = (decide (a1 < 0))) := by (revert c3; generalize ((decide (a0 < 0))) = p_; generalize ((decide (a1 < 0))) = q_; revert p_ q_; decide))); clear c3
  by_cases c4 : ((decide ((wrap64 (a0 - a1)) < 0)) != (decide (a0 < 0))) = true
  ·rw [if_pos c4] at H
   have c4b0 : ((decide ((wrap64 (a0 - a1)) < 0)) != (decide (a0 < 0))) = true := c4; (try (have c4b1 : decide ((decide ((wrap64 (a0 - a1)) < 0)) = (decide (a0 < 0))) = false := by (revert c4; generalize ((decide ((wrap64 (a0 - a1)) < 0))) = p_; generalize ((decide (a0 < 0))) = q_; revert p_ q_; decide))); (try (have c4b2 : ((decide ((wrap64 (a0 - a1)) < 0)) == (decide (a0 < 0))) = false := by (revert c4; generalize ((decide ((wrap64 (a0 - a1)) < 0))) = p_; generalize ((decide (a0 < 0))) = q_; revert p_ q_; decide))); (try (have c4b3 : ¬ ((decide ((wrap64 (a0 - a1)) < 0)) = (decide (a0 < 0))) := by (revert c4; generalize ((decide ((wrap64 (a0 - a1)) < 0))) = p_; generalize ((decide (a0 < 0))) = q_; revert p_ q_; decide))); clear c4; simp only [Option.some.injEq, Prod.mk.injEq] at H; obtain ⟨rfl, rfl⟩ := H; go_enter Tryz.func85, Tryz.ntmps85; go_wp2
   all_goals (try (exfalso; rename_i h_; rw [c3b2] at h_; revert h_; decide))
   all_goals (try (exfalso; rename_i h_; rw [c4b2] at h_; revert h_; decide))
   go_ret2
   exact ⟨eK, by repeat (first | exact Drawn0.refl _ | apply Drawn0.step)⟩
  ·rw [if_neg c4] at H
   (have c4b0 : ((decide ((wrap64 (a0 - a1)) < 0)) != (decide (a0 < 0))) = false := by simpa using c4); (try (have c4b1 : decide ((decide ((wrap64 (a0 - a1)) < 0)) = (decide (a0 < 0))) = true := by (revert c4; generalize ((decide ((wrap64 (a0 - a1)) < 0))) = p_; generalize ((decide (a0 < 0))) = q_; revert p_ q_; decide))); (try (have c4b2 : ((decide ((wrap64 (a0 - a1)) < 0)) == (decide (a0 < 0))) = true := by (revert c4; generalize ((decide ((wrap64 (a0 - a1)) < 0))) = p_; generalize ((decide (a0 < 0))) = q_; revert p_ q_; decide))); clear c4; simp only [Option.some.injEq, Prod.mk.injEq] at H; obtain ⟨rfl, rfl⟩ := H; go_enter Tryz.func85, Tryz.ntmps85; go_wp2
   all_goals (try (exfalso; rename_i h_; rw [c3b2] at h_; revert h_; decide))
   all_goals (try (exfalso; rename_i h_; rw [c4b2] at h_; revert h_; decide))
   go_ret2
   exact ⟨eK, by repeat (first | exact Drawn0.refl _ | apply Drawn0.step)⟩
 ·rw [if_neg c3] at H
  (have c3b0 : ((decide (a0 < 0)) != (decide (a1 < 0))) = false := by simpa using c3); (try (have c3b1 : decide ((decide (a0 < 0)) = (decide (a1 < 0))) = true := by (revert c3; generalize ((decide (a0 < 0))) = p_; generalize ((decide (a1 < 0))) = q_; revert p_ q_; decide))); (try (have c3b2 : ((decide (a0 < 0)) == (decide (a1 < 0))) = true := by (revert c3; generalize ((decide (a0 < 0))) = p_; generalize ((decide (a1 < 0))) = q_; revert p_ q_; decide))); clear c3; simp only [Option.some.injEq, Prod.mk.injEq] at H; obtain ⟨rfl, rfl⟩ := H; go_enter Tryz.func85, Tryz.ntmps85; go_wp2
  all_goals (try (exfalso; rename_i h_; rw [c3b2] at h_; revert h_; decide))
  go_ret2
  exact ⟨eK, by repeat (first | exact Drawn0.refl _ | apply Drawn0.step)⟩


/-! ### lift_less: function 58 -/
def lift_less.l0 : Nat → List Int → Int → Int → List Int → Int → List Int → Int → List Int → Int → Option (List Int × Int × Option Int)
 | 0, _, _, _, _, _, _, _, _, _ => none
 | k + 1, x15, x16, x17, x164000, x164001, x165000, x165001, x167000, x167001 => if x17 < x16 then (if 0 ≤ x17 then (if x17 < (x15.length : Int) then (if x17 < (x165000.length : Int) then ((num_Sub.f (rd x15 x17) (rd x165000 x17)).bind fun bt169 => (if bt169.2 = true then (if x167000.length < 17592186044416 then (lift_less.l0 k x15 x16 (wrap64 (x17 + 1)) x164000 x164001 x165000 x165001 (x167000 ++ [bt169.1]) x167001) else (none)) else (none))) else (none)) else (none)) else (none)) else ((num_Sub.f x164001 x165001).bind fun bt174 => (if bt174.2 = true then (some (x167000, bt174.1, none)) else (none)))
def lift_less.f (k : Nat) (l0_0 : List Int) (a0_1 : Int) (l1_0 : List Int) (a1_1 : Int) : Option (List Int × Int × Option Int) := lift_less.l0 k l0_0 (l0_0.length : Int) 0 l0_0 a0_1 l1_0 a1_1 ([] : List Int) 0
theorem lift_less.mono_l : ∀ k, (∀ y0 y1 y2 y3 y4 y5 y6 y7 y8, LeO (lift_less.l0 k y0 y1 y2 y3 y4 y5 y6 y7 y8) (lift_less.l0 (k + 1) y0 y1 y2 y3 y4 y5 y6 y7 y8))
 | 0 => fun _ _ _ _ _ _ _ _ _ r h => by simp [lift_less.l0] at h
 | k + 1 => by
  have ih0 := lift_less.mono_l k
  ·intro y0 y1 y2 y3 y4 y5 y6 y7 y8
   unfold lift_less.l0
   repeat' first
   | (with_reducible exact ih0 _ _ _ _ _ _ _ _ _)
   | (with_reducible exact LeO.refl _)
   | (with_reducible exact LeO.none _)
   | (with_reducible refine LeO.ite ?_ ?_)
   | (with_reducible refine LeO.bind ?_ (fun _ => ?_))
   | exact ih0 _ _ _ _ _ _ _ _ _
   | exact LeO.none _
   | refine LeO.ite ?_ ?_
   | refine LeO.bind ?_ (fun _ => ?_)
theorem lift_less.mono : ∀ a0 a1 a2 a3 k, LeO (lift_less.f k a0 a1 a2 a3) (lift_less.f (k + 1) a0 a1 a2 a3) := by
 intro a0 a1 a2 a3 k
 have ih0 := lift_less.mono_l k
 unfold lift_less.f
 repeat' first
   | (with_reducible exact ih0 _ _ _ _ _ _ _ _ _)
   | (with_reducible exact LeO.refl _)
   | (with_reducible exact LeO.none _)
   | (with_reducible refine LeO.ite ?_ ?_)
   | (with_reducible refine LeO.bind ?_ (fun _ => ?_))
   | exact ih0 _ _ _ _ _ _ _ _ _
   | exact LeO.none _
   | refine LeO.ite ?_ ?_
   | refine LeO.bind ?_ (fun _ => ?_)
set_option maxHeartbeats 8000000 in
set_option maxRecDepth 100000 in
theorem lift_less.calls (k : Nat) (A0_0 : Option Addr) (c0_0 : Nat) (l0_0 : List Int) (a0_1 : Int) (A1_0 : Option Addr) (c1_0 : Nat) (l1_0 : List Int) (a1_1 : Int) (r1 : List Int) (r2 : Int) (r3 : Option Int) (w : World) (hr0_0 : Kd.C (Kd.int .i64) w A0_0 l0_0.length l0_0) (hc0_0 : l0_0.length ≤ c0_0) (hr1_0 : Kd.C (Kd.int .i64) w A1_0 l1_0.length l1_0) (hc1_0 : l1_0.length ≤ c1_0) (h : lift_less.f k l0_0 a0_1 l1_0 a1_1 = some (r1, r2, r3)) :
  Calls Tryz.prog 58 #[.agg #[.slice A0_0 l0_0.length c0_0, .int .i64 a0_1], .agg #[.slice A1_0 l1_0.length c1_0, .int .i64 a1_1]] w fun e w' => ∃ v0_ : Value, e = .returned (.tuple #[.agg #[v0_, .int .i64 r2], errW r3]) ∧ Kd.R (Kd.int .i64) 2 w' w.heap.size (fun _ => True) v0_ r1 ∧ Below w.heap.size w w' := by
 have hu46 := Tryz.underlying46
 have bm := mk0 hr0_0
 have bR := mk0 hc0_0
 clear hr0_0 hc0_0
 have bn := mk0 hr1_0
 have bT := mk0 hc1_0
 clear hr1_0 hc1_0
 have HB := mk0 (Below.refl w.heap.size w)
 have H : (lift_less.l0 k l0_0 (l0_0.length : Int) 0 l0_0 a0_1 l1_0 a1_1 ([] : List Int) 0) = some (r1, r2, r3) := h
 clear h
 have H' := mk0 H
 clear H
 go_enter Tryz.func58, Tryz.ntmps58
 go_wp2_with (first | ((with_reducible refine gate_dst (N := 2) rfl ?_); refine bxE 2 #[.slice A0_0 l0_0.length c0_0, .int .i64 a0_1] 46 ?_; intro ay hg w3 hbox hb; have aa := mk0 (hbox); have bU := gE (uL HB.out) hg; replace HB := hbB (uL HB.out) hb; clear hb hbox hg) | ((with_reducible refine gate_dst (N := 3) rfl ?_); refine bxE 3 #[.slice A1_0 l1_0.length c1_0, .int .i64 a1_1] 46 ?_; intro az hg w4 hbox hb; have ab := mk0 (hbox); have bV := gE bH hg; replace HB := hbB bH hb; have aA := nL aa hg; have aC := nG aa hg; replace aa := bB aa hb; clear hb hbox hg) | ((with_reducible refine gate_dst (N := 4) rfl ?_); refine bxE 4 #[.slice none 0 0, .int .i64 0] 46 ?_; intro aj hg w5 hbox hb; have ae := mk0 (hbox); have bW := gE bH hg; replace HB := hbB bH hb; have aU := nL aa hg; have aV := nG aa hg; replace aa := bB aa hb; have aW := nL ab hg; have aX := nG ab hg; replace ab := bB ab hb; clear hb hbox hg) | ((with_reducible refine gate_dst (N := 6) rfl ?_); refine bxE 6 #[.slice none 0 0, .int .i64 0] 46 ?_; intro al hg w6 hbox hb; have af := mk0 (hbox); have bX := gE bH hg; replace HB := hbB bH hb; have aD := nL aa hg; have aE := nG aa hg; replace aa := bB aa hb; have aG := nL ab hg; have aH := nG ab hg; replace ab := bB ab hb; have aI := nL ae hg; have aJ := nG ae hg; replace ae := bB ae hb; clear hb hbox hg; have bY := aE.out; have bZ := aD.out; have b4 := aH.out; have b5 := aG.out; have b6 := aJ.out; have b7 := aI.out; obtain ⟨bo, bp, bq, br⟩ := cL2 af; have b8 := aA.out; have b9 := aC.out; have cd := aU.out; have ce := aV.out; obtain ⟨bs, bu, bv, bw⟩ := cL2 aa))
 go_loopg [17] k (fun kq v17 w' => ∃ (ac : Int) (ah : List Int) (ai : Value), v17 = .int .i64 ac ∧ Aside0 (lift_less.l0 kq l0_0 (l0_0.length : Int) ac l0_0 a0_1 l1_0 a1_1 ah 0 = some (r1, r2, r3)) ∧ Aside0 (kq ≤ k) ∧ Aside0 (Kd.R (Kd.int .i64) 2 w' w.heap.size (fun _ => True) ai ah) ∧ Aside0 (w'.heap[ay]? = some (.cells #[(.slice A0_0 l0_0.length c0_0), .int .i64 a0_1] 46 (0, 0))) ∧ Aside0 (w'.heap[az]? = some (.cells #[(.slice A1_0 l1_0.length c1_0), .int .i64 a1_1] 46 (0, 0))) ∧ Aside0 (w'.heap[aj]? = some (.cells #[(.slice none 0 0), .int .i64 0] 46 (0, 0))) ∧ Aside0 (w'.heap[al]? = some (.cells #[ai, .int .i64 0] 46 (0, 0))) ∧ Aside0 (Below w.heap.size w w'))
 case atStart => exact ⟨(0), (([] : List Int)), (.slice none 0 0), eK, H', ⟨Nat.le_refl _⟩, ⟨nK⟩, ⟨kB⟩, ⟨kB⟩, ⟨kB⟩, ⟨kB⟩, ⟨bH⟩⟩
 case round =>
  clear H'; (try clear bo bp bs bu bq br bv bw); obtain ⟨ac, ah, ai, rfl, HA, aY, ag, aa, ab, ae, af, HB⟩ := hrel
  cases gk with
  | zero => exact absurd HA.out (by simp [lift_less.l0])
  | succ k1 =>
   have H := HA.out; clear HA; simp only [lift_less.l0] at H
   by_cases ak : ac < (l0_0.length : Int)
   ·rw [if_pos ak] at H
    have bz := decide_eq_true ak; clear ak
    by_cases am : 0 ≤ ac
    ·rw [if_pos am] at H
     have cf := decide_eq_true am; clear am
     by_cases ao : ac < (l0_0.length : Int)
     ·rw [if_pos ao] at H
      have cg := decide_eq_true ao; clear ao
      by_cases ap : ac < (l1_0.length : Int)
      ·rw [if_pos ap] at H
       have ch := decide_eq_true ap; clear ap; replace H := Option.bind_eq_some_iff.mp H; obtain ⟨⟨aq, bC⟩, aZ, H⟩ := H; dsimp only at H; have bE := mk0 aZ; clear aZ
       by_cases ar : bC = true
       ·subst ar
        replace H := iT H
        by_cases au : ah.length < 17592186044416
        ·rw [if_pos au] at H
         have bF := mk0 au; clear au; obtain ⟨av, aK⟩ : ∃ y_ : List Int, y_ = (ah ++ [aq]) := ⟨_, rfl⟩; (replace H : (lift_less.l0 k1 l0_0 (l0_0.length : Int) (wrap64 (ac + 1)) l0_0 a0_1 l1_0 a1_1 av 0) = some (r1, r2, r3) := by (try rw [aK]); first | with_reducible exact H | with_reducible exact oN H | exact H); have bG := mk0 aK; clear aK; have H' := mk0 H; clear H; have aM : 0 ≤ (ac : Int) := dY; have aN : ac < (l0_0.length : Int) := dY; obtain ⟨bI, bJ, a_⟩ := Kd.at_int bm.out ac aM aN
         cases bJ
         replace a_ := oC HB a_; replace aM := eq_true aM; replace aN := eq_true aN; have ci := aC.out; have cj := aA.out; have ck := aW.out; have cl := aX.out; have cm := aG.out; have cn := aH.out; obtain ⟨cp, cq, cr, ct⟩ := cL2 ab; have aQ : 0 ≤ (ac : Int) := dY; have aT : ac < (l1_0.length : Int) := dY; obtain ⟨bK, bL, bf⟩ := Kd.at_int bn.out ac aQ aT
         cases bL
         replace bf := oC HB bf; replace aQ := eq_true aQ; replace aT := eq_true aT
         go_wp2_with (first | ((with_reducible refine gate_dst (N := 29) rfl ?_); refine gsM (some 29) Tryz.func85 #[.int .i64 (rd l0_0 ac), .int .i64 (rd l1_0 ac)] ?_; (with_reducible refine (num_Sub.calls (rd l0_0 ac) (rd l1_0 ac) aq true _ bE.out).mono ?_); rintro e w' ⟨rfl, ⟨nd, rfl⟩⟩; refine ⟨_, rfl, ?_⟩; (try (rw [drewN_self wr]; generalize hq_ : World.drewN wr _ = wr; have n0_ : Aside0 (Kd.R (Kd.int .i64) 2 wr w.heap.size (fun _ => True) ai ah) := ⟨by rw [← hq_]; exact (uR ag.out)⟩; have n1_ : Aside0 (wr.heap[ay]? = some (.cells #[.slice (some bI) l0_0.length c0_0, .int .i64 a0_1] 46 (0, 0))) := ⟨by rw [← hq_]; exact (uB aa.out)⟩; have n2_ : Aside0 (wr.heap[az]? = some (.cells #[.slice (some bK) l1_0.length c1_0, .int .i64 a1_1] 46 (0, 0))) := ⟨by rw [← hq_]; exact (uB ab.out)⟩; have n3_ : Aside0 (wr.heap[aj]? = some (.cells #[.slice none 0 0, .int .i64 0] 46 (0, 0))) := ⟨by rw [← hq_]; exact (uB ae.out)⟩; have n4_ : Aside0 (wr.heap[al]? = some (.cells #[ai, .int .i64 0] 46 (0, 0))) := ⟨by rw [← hq_]; exact (uB af.out)⟩; have n5_ : Aside0 (Below w.heap.size w wr) := ⟨by rw [← hq_]; exact bH⟩; clear ag aa ab ae af HB hq_; have ag := n0_; have aa := n1_; have ab := n2_; have ae := n3_; have af := n4_; have HB := n5_; clear n0_ n1_ n2_ n3_ n4_ n5_)); have cu := aE.out; have cv := aD.out; have cw := aJ.out; have cx := aI.out; obtain ⟨cy, cz, cA, cD⟩ := cL2 af) | ((with_reducible refine gate_builtin (b := .append) (xs := #[.tmp 37, .tmp 39]) rfl ?_); at_builtin; refine Kd.R_append (Kd.int .i64) (w0 := w) w.heap.size rfl (.tmp 37) (.tmp 39) 37 2 (.int .i64 0) 8 rfl Tryz.underlying37 info2 rfl (by decide) (by omega) ai ah aq [.int .i64 aq] (fun _ => True) (fun _ => False) rfl rfl ?aP (fun _ hk => hk.elim) ?aF ?aO ?aB ?aS ?aL ?_; (case aP => exact rfl); (case aB => exact bH); (case aF => exact (fun _ _ => trivial)); (case aO => exact (uR ag.out)); (case aS => exact (below_size bH)); (case aL => have := bF.out; omega); intro cE cF ho hb hg hat; rw [← bG.out] at ho; have n0_ := (gB aa hg (Kd.R_ne ag.out aa.out (by decide))); have n1_ := (gB ab hg (Kd.R_ne ag.out ab.out (by decide))); have n2_ := (gB ae hg (Kd.R_ne ag.out ae.out (by decide))); have n3_ := (gB af hg (Kd.R_ne ag.out af.out (by decide))); have n4_ := mk0 (hb); have n5_ := mk0 (ho); clear aa ab ae af HB ag; have aa := n0_; have ab := n1_; have ae := n2_; have af := n3_; have HB := n4_; have bg := n5_; clear n0_ n1_ n2_ n3_ n4_ n5_; clear ho hb hg hat; obtain ⟨bh, bi, bM⟩ := Kd.R_slice bg.out; subst bM; obtain ⟨cG, cH, cI, cJ⟩ := cL2 af))
         go_roundg k1
         case measure => have := aY.out; omega
         case rel => exact ⟨(wrap64 (ac + 1)), (av), (.slice bh av.length bi), eK, H', ⟨by have := aY.out; omega⟩, ⟨uR (Kd.R_mono (Kd.R_far (p := ⟨al, 0, none⟩) (Kd.R_types bg.out af.out (by decide)) (fun _ hk => hk.2) (.slice bh av.length bi)) (fun _ hk => trivial))⟩, ⟨kB⟩, ⟨kB⟩, ⟨kB⟩, ⟨kB⟩, ⟨bH⟩⟩
        ·exact nO H au
       ·replace ar := Bool.eq_false_iff.mpr ar
        subst ar; replace H := iF H; exact absurd H (by simp)
      ·exact nO H ap
     ·exact nO H ao
    ·exact nO H am
   ·rw [if_neg ak] at H
    have bz := decide_eq_false ak; clear ak; replace H := Option.bind_eq_some_iff.mp H; obtain ⟨⟨aw, bO⟩, bj, H⟩ := H; dsimp only at H; have bP := mk0 bj; clear bj
    by_cases ax : bO = true
    ·subst ax
     replace H := iT H; simp only [Option.some.injEq, Prod.mk.injEq] at H; obtain ⟨rfl, rfl, rfl⟩ := H; have cK := aA.out; have cL := aC.out; have cM := aU.out; have cN := aV.out; have cO := aD.out; have cP := aE.out; obtain ⟨cR, cS, cT, cU⟩ := cL2 aa; have cV := aW.out; have cW := aX.out; have cX := aG.out; have cY := aH.out; obtain ⟨cZ, c_, da, db⟩ := cL2 ab
     go_wp2_with (first | ((with_reducible refine gate_dst (N := 48) rfl ?_); refine gsM (some 48) Tryz.func85 #[.int .i64 a0_1, .int .i64 a1_1] ?_; (with_reducible refine (num_Sub.calls a0_1 a1_1 aw true _ bP.out).mono ?_); rintro e w' ⟨rfl, ⟨nd, rfl⟩⟩; refine ⟨_, rfl, ?_⟩; (try (rw [drewN_self wr]; generalize hq_ : World.drewN wr _ = wr; have n0_ : Aside0 (Kd.R (Kd.int .i64) 2 wr w.heap.size (fun _ => True) ai ah) := ⟨by rw [← hq_]; exact (uR ag.out)⟩; have n1_ : Aside0 (wr.heap[ay]? = some (.cells #[.slice A0_0 l0_0.length c0_0, .int .i64 a0_1] 46 (0, 0))) := ⟨by rw [← hq_]; exact (uB aa.out)⟩; have n2_ : Aside0 (wr.heap[az]? = some (.cells #[.slice A1_0 l1_0.length c1_0, .int .i64 a1_1] 46 (0, 0))) := ⟨by rw [← hq_]; exact (uB ab.out)⟩; have n3_ : Aside0 (wr.heap[aj]? = some (.cells #[.slice none 0 0, .int .i64 0] 46 (0, 0))) := ⟨by rw [← hq_]; exact (uB ae.out)⟩; have n4_ : Aside0 (wr.heap[al]? = some (.cells #[ai, .int .i64 0] 46 (0, 0))) := ⟨by rw [← hq_]; exact (uB af.out)⟩; have n5_ : Aside0 (Below w.heap.size w wr) := ⟨by rw [← hq_]; exact bH⟩; clear ag aa ab ae af HB hq_; have ag := n0_; have aa := n1_; have ab := n2_; have ae := n3_; have af := n4_; have HB := n5_; clear n0_ n1_ n2_ n3_ n4_ n5_)); have dc := aJ.out; have dd := aI.out; obtain ⟨de, df, dh, di⟩ := cL2 af; obtain ⟨bk, bl, bQ⟩ := Kd.R_slice ag.out; subst bQ; obtain ⟨dj, dl, dn, dp⟩ := cL2 ae))
     refine bodyPost_ret (results_ct rfl _ _ aj 46 #[.slice bk ah.length bl, .int .i64 aw] (0, 0) _ rfl (kB) Tryz.underlying46 rfl (by kernel_rfl)) rfl ?_; exact ⟨_, rE, uR (Kd.R_mono (Kd.R_far (p := ⟨aj, 1, none⟩) (Kd.R_far (p := ⟨aj, 0, none⟩) (Kd.R_far (p := ⟨al, 1, none⟩) (Kd.R_types (Kd.R_types ag.out af.out (by decide)) ae.out (by decide)) (fun _ hk => hk.1.2) (.int .i64 aw)) (fun _ hk => hk.2) (.slice bk ah.length bl)) (fun _ hk => hk.2) (.int .i64 aw)) (fun _ hk => trivial)), bH⟩
    ·replace ax := Bool.eq_false_iff.mpr ax
     subst ax; replace H := iF H; exact absurd H (by simp)

/-! ### furrowlaw12_Op: function 17 -/
def furrowlaw12_Op.f (a0 : Int) (a1_0 : Int) (a1_1 : Int) (a1_2 : ByteArray) (l1_3 : List (S24)) (a2_0 : Int) (a2_1 : Int) (a2_2 : ByteArray) (l2_3 : List (S24)) : Option (Int × Int × ByteArray × (List (S24))) := some (a0, 0, (⟨#[]⟩ : ByteArray), (([(⟨a1_0, a1_1, a1_2, l1_3⟩ : S24), (⟨a2_0, a2_1, a2_2, l2_3⟩ : S24)] : List (S24))))
set_option maxHeartbeats 8000000 in
set_option maxRecDepth 100000 in
theorem furrowlaw12_Op.calls (a0 : Int) (a1_0 : Int) (a1_1 : Int) (a1_2 : ByteArray) (P1_3_ : Nat → Prop) (A1_3 : Option Addr) (c1_3 : Nat) (l1_3 : List (S24)) (a2_0 : Int) (a2_1 : Int) (a2_2 : ByteArray) (P2_3_ : Nat → Prop) (A2_3 : Option Addr) (c2_3 : Nat) (l2_3 : List (S24)) (r1 : Int) (r2 : Int) (r3 : ByteArray) (r4 : List (S24)) (w : World) (hs1_3 : Kd.V k24 24 w w.heap.size (fun k_ => P1_3_ k_) (.slice A1_3 l1_3.length c1_3) l1_3) (hs2_3 : Kd.V k24 24 w w.heap.size (fun k_ => P2_3_ k_) (.slice A2_3 l2_3.length c2_3) l2_3) (h : furrowlaw12_Op.f a0 a1_0 a1_1 a1_2 l1_3 a2_0 a2_1 a2_2 l2_3 = some (r1, r2, r3, r4)) :
  Calls Tryz.prog 17 #[.int .i64 a0, .agg #[.int .i64 a1_0, .int .i64 a1_1, .string a1_2, .slice A1_3 l1_3.length c1_3], .agg #[.int .i64 a2_0, .int .i64 a2_1, .string a2_2, .slice A2_3 l2_3.length c2_3]] w fun e w' => ∃ v3_ : Value, e = .returned (.agg #[.int .i64 r1, .int .i64 r2, .string r3, v3_]) ∧ Kd.N k24 24 w' w.heap.size (fun k_ => ((P1_3_ k_ ∨ P2_3_ k_) ∨ w.heap.size ≤ k_)) v3_ r4 ∧ Below w.heap.size w w' := by
 have hu24 := Tryz.underlying24
 have af := mk0 (show Kd.V k24 24 w w.heap.size (fun k_ => ((P1_3_ k_ ∨ P2_3_ k_) ∨ w.heap.size ≤ k_)) (.slice A1_3 l1_3.length c1_3) l1_3 from Kd.V_mono hs1_3 (fun k_ hk => .inl (.inl hk)))
 have ag := mk0 (show Kd.V k24 24 w w.heap.size (fun k_ => ((P1_3_ k_ ∨ P2_3_ k_) ∨ w.heap.size ≤ k_)) (.slice A2_3 l2_3.length c2_3) l2_3 from Kd.V_mono hs2_3 (fun k_ hk => .inl (.inr hk)))
 have HB := mk0 (Below.refl w.heap.size w)
 have H : (some (a0, 0, (⟨#[]⟩ : ByteArray), (([(⟨a1_0, a1_1, a1_2, l1_3⟩ : S24), (⟨a2_0, a2_1, a2_2, l2_3⟩ : S24)] : List (S24))))) = some (r1, r2, r3, r4) := h
 clear h
 obtain ⟨ak, ai⟩ : ∃ y_ : List (S24), y_ = (([(⟨a1_0, a1_1, a1_2, l1_3⟩ : S24), (⟨a2_0, a2_1, a2_2, l2_3⟩ : S24)] : List (S24))) := ⟨_, rfl⟩
 replace H : (some (a0, 0, (⟨#[]⟩ : ByteArray), ak)) = some (r1, r2, r3, r4) := by first | (rw [ai]; with_reducible exact H) | (have H2_ := (Option.bind_some _ _).symm.trans H; rw [ai]; with_reducible exact H2_) | (have H2_ := (Option.bind_some _ _).symm.trans H; with_reducible exact H2_) | with_reducible exact H | (rw [ai]; exact H) | exact H
 have al := mk0 ai
 clear ai
 simp only [Option.some.injEq, Prod.mk.injEq] at H
 obtain ⟨rfl, rfl, rfl, rfl⟩ := H
 go_enter Tryz.func17, Tryz.ntmps17
 go_wp2_with (first | ((with_reducible refine gate_dst (N := 4) rfl ?_); refine bxE 4 #[.int .i64 a1_0, .int .i64 a1_1, .string a1_2, .slice A1_3 l1_3.length c1_3] 24 ?_; intro ac hg w4 hbox hb; replace af := vD af ac hg hb; replace ag := vD ag ac hg hb; have ab := mk0 (hbox); have az := gE (uL HB.out) hg; replace HB := hbB (uL HB.out) hb; clear hb hbox hg) | ((with_reducible refine gate_dst (N := 5) rfl ?_); refine bxE 5 #[.int .i64 a2_0, .int .i64 a2_1, .string a2_2, .slice A2_3 l2_3.length c2_3] 24 ?_; intro ae hg w5 hbox hb; replace af := vD af ae hg hb; replace ag := vD ag ae hg hb; have ah := mk0 (hbox); have aA := gE bH hg; replace HB := hbB bH hb; have aq := nL ab hg; have ar := nG ab hg; replace ab := bB ab hb; clear hb hbox hg) | ((with_reducible refine gate_dst (N := 6) rfl ?_); refine bxE 6 #[.int .i64 0, .int .i64 0, .string (⟨#[]⟩ : ByteArray), .slice none 0 0] 24 ?_; intro aa hg w6 hbox hb; replace af := vD af aa hg hb; replace ag := vD ag aa hg hb; have aj := mk0 (hbox); have aC := gE bH hg; replace HB := hbB bH hb; have au := nL ab hg; have av := nG ab hg; replace ab := bB ab hb; have aw := nL ah hg; have ax := nG ah hg; replace ah := bB ah hb; clear hb hbox hg; have aD := aq.out; have aE := ar.out; have aG := au.out; have aH := av.out; obtain ⟨aI, aJ, aK, aM, aN, aQ, aT, aU⟩ := cL4 ab; have aV := aw.out; have aW := ax.out; obtain ⟨aX, aY, aZ, a_, bf, bg, bh, bi⟩ := cL4 ah) | ((with_reducible refine gate_dst (N := 10) rfl ?_); refine Kd.N_lit k24 _ 24 ?hg (N' := 10) ?hd (xs := ([(⟨a1_0, a1_1, a1_2, l1_3⟩ : S24), (⟨a2_0, a2_1, a2_2, l2_3⟩ : S24)] : List (S24))) (inner := [.int .i64 a1_0, .int .i64 a1_1, .string a1_2, .slice A1_3 l1_3.length c1_3, .int .i64 a2_0, .int .i64 a2_1, .string a2_2, .slice A2_3 l2_3.length c2_3]) (ok := (fun k_ => ((P1_3_ k_ ∨ P2_3_ k_) ∨ w.heap.size ≤ k_) ∧ k_ ≠ ac ∧ k_ ≠ ae ∧ k_ ≠ aa)) (okp := (fun k_ => ((P1_3_ k_ ∨ P2_3_ k_) ∨ w.heap.size ≤ k_) ∧ k_ ≠ ac ∧ k_ ≠ ae ∧ k_ ≠ aa)) ?hr ?hp (fun _ hk => hk) ((show ∀ k_, w6.heap.size ≤ k_ → (fun k_ => ((P1_3_ k_ ∨ P2_3_ k_) ∨ w.heap.size ≤ k_) ∧ k_ ≠ ac ∧ k_ ≠ ae ∧ k_ ≠ aa) k_ from fun k_ hk => ⟨(.inr (Nat.le_trans (below_size bH) hk)), fB ab hk, fB ah hk, fB aj hk⟩) _ (Nat.le_refl _)) (Below.refl _ _) (Nat.le_refl _) (by simp) ?_; (case hd => rfl); (case hg => rfl); (case hr => first | (go_simp; done) | (go_simp; rfl)); (case hp => exact (Reps.c4 (show Kd.FK k24 _ _ (⟨a1_0, a1_1, a1_2, l1_3⟩ : S24) [.int .i64 a1_0, .int .i64 a1_1, .string a1_2, .slice A1_3 l1_3.length c1_3] from (k24_mkF _ _ (⟨a1_0, a1_1, a1_2, l1_3⟩ : S24) (Kd.V_reads' (vP (ok' := (fun k_ => ((P1_3_ k_ ∨ P2_3_ k_) ∨ w.heap.size ≤ k_) ∧ k_ ≠ ac ∧ k_ ≠ ae ∧ k_ ≠ aa)) af)).2.1 (Kd.V_F (vP (ok' := (fun k_ => ((P1_3_ k_ ∨ P2_3_ k_) ∨ w.heap.size ≤ k_) ∧ k_ ≠ ac ∧ k_ ≠ ae ∧ k_ ≠ aa)) af)))) (Reps.c4 (show Kd.FK k24 _ _ (⟨a2_0, a2_1, a2_2, l2_3⟩ : S24) [.int .i64 a2_0, .int .i64 a2_1, .string a2_2, .slice A2_3 l2_3.length c2_3] from (k24_mkF _ _ (⟨a2_0, a2_1, a2_2, l2_3⟩ : S24) (Kd.V_reads' (vP (ok' := (fun k_ => ((P1_3_ k_ ∨ P2_3_ k_) ∨ w.heap.size ≤ k_) ∧ k_ ≠ ac ∧ k_ ≠ ae ∧ k_ ≠ aa)) ag)).2.1 (Kd.V_F (vP (ok' := (fun k_ => ((P1_3_ k_ ∨ P2_3_ k_) ∨ w.heap.size ≤ k_) ∧ k_ ≠ ac ∧ k_ ≠ ae ∧ k_ ≠ aa)) ag)))) (Reps.none _ _)))); intro bj bk ho13 hb hg_ hnew_; clear hg_ hnew_; (first | rw [← al.out] at ho13 | (simp only [Int.reduceToNat] at ho13; rw [← al.out] at ho13)); have am := mk0 (Kd.N_lower ho13 (below_size bH)); replace aj := bB aj hb; replace HB := hbB bH hb; clear hb ho13; obtain ⟨ao, ap, ay⟩ := Kd.N_slice am.out; subst ay; obtain ⟨bl, bm, bn, bo, bp, bq, br, bs⟩ := cL4 aj))
 refine bodyPost_ret (results_cell_row rfl _ _ aa 24 #[.int .i64 a0, .int .i64 0, .string (⟨#[]⟩ : ByteArray), .slice ao ak.length ap] (0, 0) _ rfl (kB) Tryz.underlying24 rfl (by kernel_rfl)) rfl ?_
 exact ⟨_, rE, uN (Kd.N_mono (Kd.N_far (p := ⟨aa, 3, none⟩) (Kd.N_far (p := ⟨aa, 2, none⟩) (Kd.N_far (p := ⟨aa, 1, none⟩) (Kd.N_far (p := ⟨aa, 0, none⟩) (Kd.N_mono am.out (fun k_ hk => (⟨hk, hk.2.2.2⟩ : _ ∧ k_ ≠ aa))) (fun _ hk => hk.2) (.int .i64 a0)) (fun _ hk => hk.2) (.int .i64 0)) (fun _ hk => hk.2) (.string (⟨#[]⟩ : ByteArray))) (fun _ hk => hk.2) (.slice ao ak.length ap)) (fun _ hk => hk.1.1)), bH⟩

/-! ### furrowlaw12_N: function 18 -/
def furrowlaw12_N.f (a0 : Int) : Option (Int × Int × ByteArray × (List (S24))) := some (1, a0, (⟨#[]⟩ : ByteArray), ([] : List (S24)))
set_option maxHeartbeats 8000000 in
set_option maxRecDepth 100000 in
theorem furrowlaw12_N.calls (a0 : Int) (r1 : Int) (r2 : Int) (r3 : ByteArray) (r4 : List (S24)) (w : World) (h : furrowlaw12_N.f a0 = some (r1, r2, r3, r4)) :
  Calls Tryz.prog 18 #[.int .i64 a0] w fun e w' => ∃ v3_ : Value, e = .returned (.agg #[.int .i64 r1, .int .i64 r2, .string r3, v3_]) ∧ Kd.R k24 24 w' w.heap.size (fun _ => True) v3_ r4 ∧ Below w.heap.size w w' := by
 have hu24 := Tryz.underlying24
 have HB := mk0 (Below.refl w.heap.size w)
 have H : (some (1, a0, (⟨#[]⟩ : ByteArray), ([] : List (S24)))) = some (r1, r2, r3, r4) := h
 clear h
 simp only [Option.some.injEq, Prod.mk.injEq] at H
 obtain ⟨rfl, rfl, rfl, rfl⟩ := H
 go_enter Tryz.func18, Tryz.ntmps18
 go_wp2_with (first | ((with_reducible refine gate_dst (N := 2) rfl ?_); refine bxE 2 #[.int .i64 0, .int .i64 0, .string (⟨#[]⟩ : ByteArray), .slice none 0 0] 24 ?_; intro gb248 hg w2 hbox hb; have BK248 := mk0 (hbox); have GW248 := gE (uL HB.out) hg; replace HB := hbB (uL HB.out) hb; clear hb hbox hg; obtain ⟨hcz3_0, hcz3_1, hcz3_2, hcz3_3, hfz3_0, hfz3_1, hfz3_2, hfz3_3⟩ := cL4 BK248))
 refine bodyPost_ret (results_cell_row rfl _ _ gb248 24 #[.int .i64 1, .int .i64 a0, .string (⟨#[]⟩ : ByteArray), .slice none 0 0] (0, 0) _ rfl (kB) Tryz.underlying24 rfl (by kernel_rfl)) rfl ?_
 exact ⟨_, rE, nK, bH⟩

/-! ### furrowlaw12_V: function 19 -/
def furrowlaw12_V.f (a0 : ByteArray) : Option (Int × Int × ByteArray × (List (S24))) := some (2, 0, a0, ([] : List (S24)))
set_option maxHeartbeats 8000000 in
set_option maxRecDepth 100000 in
theorem furrowlaw12_V.calls (a0 : ByteArray) (r1 : Int) (r2 : Int) (r3 : ByteArray) (r4 : List (S24)) (w : World) (h : furrowlaw12_V.f a0 = some (r1, r2, r3, r4)) :
  Calls Tryz.prog 19 #[.string a0] w fun e w' => ∃ v3_ : Value, e = .returned (.agg #[.int .i64 r1, .int .i64 r2, .string r3, v3_]) ∧ Kd.R k24 24 w' w.heap.size (fun _ => True) v3_ r4 ∧ Below w.heap.size w w' := by
 have hu24 := Tryz.underlying24
 have HB := mk0 (Below.refl w.heap.size w)
 have H : (some (2, 0, a0, ([] : List (S24)))) = some (r1, r2, r3, r4) := h
 clear h
 simp only [Option.some.injEq, Prod.mk.injEq] at H
 obtain ⟨rfl, rfl, rfl, rfl⟩ := H
 go_enter Tryz.func19, Tryz.ntmps19
 go_wp2_with (first | ((with_reducible refine gate_dst (N := 2) rfl ?_); refine bxE 2 #[.int .i64 0, .int .i64 0, .string (⟨#[]⟩ : ByteArray), .slice none 0 0] 24 ?_; intro gb249 hg w2 hbox hb; have BK249 := mk0 (hbox); have GW249 := gE (uL HB.out) hg; replace HB := hbB (uL HB.out) hb; clear hb hbox hg; obtain ⟨hcz3_0, hcz3_1, hcz3_2, hcz3_3, hfz3_0, hfz3_1, hfz3_2, hfz3_3⟩ := cL4 BK249))
 refine bodyPost_ret (results_cell_row rfl _ _ gb249 24 #[.int .i64 2, .int .i64 0, .string a0, .slice none 0 0] (0, 0) _ rfl (kB) Tryz.underlying24 rfl (by kernel_rfl)) rfl ?_
 exact ⟨_, rE, nK, bH⟩

/-! ### slices_Contains_string_string: function 39 -/
def slices_Contains_string_string.f (k : Nat) (l0 : List ByteArray) (a1 : ByteArray) : Option (Bool) := (slices_Index_string_string.f k l0 a1).bind fun t259 => (some (decide (t259 ≥ 0)))
theorem slices_Contains_string_string.mono : ∀ a0 a1 k, LeO (slices_Contains_string_string.f k a0 a1) (slices_Contains_string_string.f (k + 1) a0 a1) := by
 intro a0 a1 k
 have m0_ := @slices_Index_string_string.mono; unfold slices_Contains_string_string.f; exact lO_
set_option maxHeartbeats 8000000 in
set_option maxRecDepth 100000 in
theorem slices_Contains_string_string.calls (k : Nat) (A0 : Option Addr) (c0 : Nat) (l0 : List ByteArray) (a1 : ByteArray) (r : Bool) (w : World) (hr0 : Kd.C Kd.string w A0 l0.length l0) (hc0 : l0.length ≤ c0) (h : slices_Contains_string_string.f k l0 a1 = some r) :
  Calls Tryz.prog 39 #[.slice A0 l0.length c0, .string a1] w fun e w' => e = .returned (.bool r) ∧ Drawn0 w w' := by
 have HR0 := mk0 hr0
 have HC0 := mk0 hc0
 clear hr0 hc0
 have H : ((slices_Index_string_string.f k l0 a1).bind fun t259 => (some (decide (t259 ≥ 0)))) = some r := h
 clear h
 replace H := Option.bind_eq_some_iff.mp H
 obtain ⟨t259, A30, H⟩ := H
 have A3 := mk0 A30
 clear A30
 obtain rfl := Option.some.inj H
 go_enter Tryz.func39, Tryz.ntmps39
 go_wp2_with (first | ((with_reducible refine gate_dst (N := 7) rfl ?_); refine gsM (some 7) Tryz.func53 #[.slice A0 l0.length c0, .string a1] ?_; (with_reducible refine (slices_Index_string_string.calls k _ _ l0 a1 t259 _ ?side1 ?side2 A3.out).mono ?_); (case side1 => exact uC HR0.out); (case side2 => exact HC0.out); rintro e w' ⟨rfl, ⟨nd, rfl⟩⟩; refine ⟨_, rfl, ?_⟩))
 go_ret
 exact ⟨eK, by repeat (first | exact Drawn0.refl _ | apply Drawn0.step)⟩


/-! ### lift_Names: function 21 -/
mutual
def lift_Names.j0 : Nat → List ByteArray → Bool → Int → Int → ByteArray → List (S24) → Option (List ByteArray)
 | 0, _, _, _, _, _, _ => none
 | k + 1, x3, x15, x261000, x261001, x261002, x261003 => if x15 = true then (if x3.length < 8796093022208 then (lift_Names.j1 k (x3 ++ [x261002]) x261000 x261001 x261002 x261003) else (none)) else (lift_Names.j1 k x3 x261000 x261001 x261002 x261003)
def lift_Names.j1 : Nat → List ByteArray → Int → Int → ByteArray → List (S24) → Option (List ByteArray)
 | 0, _, _, _, _, _ => none
 | k + 1, x3, x261000, x261001, x261002, x261003 => lift_Names.l0 k x3 x261003 (x261003.length : Int) 0
def lift_Names.l0 : Nat → List ByteArray → List (S24) → Int → Int → Option (List ByteArray)
 | 0, _, _, _, _ => none
 | k + 1, x3, x22, x23, x24 => if x24 < x23 then (if 0 ≤ x24 then (if x24 < (x22.length : Int) then ((lift_Names.f k ((rd_T24 x22 x24).f0) ((rd_T24 x22 x24).f1) ((rd_T24 x22 x24).f2) ((rd_T24 x22 x24).f3)).bind fun t266 => (lift_Names.l1 k x3 x22 x23 x24 t266 (t266.length : Int) 0)) else (none)) else (none)) else (some x3)
def lift_Names.l1 : Nat → List ByteArray → List (S24) → Int → Int → List ByteArray → Int → Int → Option (List ByteArray)
 | 0, _, _, _, _, _, _, _ => none
 | k + 1, x3, x22, x23, x24, x29, x30, x31 => if x31 < x30 then (if 0 ≤ x31 then (if x31 < (x29.length : Int) then ((slices_Contains_string_string.f k x3 (rdOf ByteArray.empty x29 x31)).bind fun t270 => (if t270 = true then (lift_Names.l1 k x3 x22 x23 x24 x29 x30 (wrap64 (x31 + 1))) else (if x3.length < 8796093022208 then (lift_Names.l1 k (x3 ++ [rdOf ByteArray.empty x29 x31]) x22 x23 x24 x29 x30 (wrap64 (x31 + 1))) else (none)))) else (none)) else (none)) else (lift_Names.l0 k x3 x22 x23 (wrap64 (x24 + 1)))
def lift_Names.f : Nat → Int → Int → ByteArray → List (S24) → Option (List ByteArray)
 | 0, _, _, _, _ => none
 | k + 1, a0_0, a0_1, a0_2, l0_3 => if a0_0 = 2 then (lift_Names.j0 k ([] : List ByteArray) true a0_0 a0_1 a0_2 l0_3) else (lift_Names.j0 k ([] : List ByteArray) (a0_0 == 3) a0_0 a0_1 a0_2 l0_3)
end
theorem lift_Names.mono_l : ∀ k, (∀ y0 y1 y2 y3, LeO (lift_Names.f k y0 y1 y2 y3) (lift_Names.f (k + 1) y0 y1 y2 y3)) ∧ (∀ y0 y1 y2 y3 y4 y5, LeO (lift_Names.j0 k y0 y1 y2 y3 y4 y5) (lift_Names.j0 (k + 1) y0 y1 y2 y3 y4 y5)) ∧ (∀ y0 y1 y2 y3 y4, LeO (lift_Names.j1 k y0 y1 y2 y3 y4) (lift_Names.j1 (k + 1) y0 y1 y2 y3 y4)) ∧ (∀ y0 y1 y2 y3, LeO (lift_Names.l0 k y0 y1 y2 y3) (lift_Names.l0 (k + 1) y0 y1 y2 y3)) ∧ (∀ y0 y1 y2 y3 y4 y5 y6, LeO (lift_Names.l1 k y0 y1 y2 y3 y4 y5 y6) (lift_Names.l1 (k + 1) y0 y1 y2 y3 y4 y5 y6))
 | 0 => by refine ⟨?_, ?_, ?_, ?_, ?_⟩ <;> intros <;> exact fun r h => by simp [lift_Names.f, lift_Names.j0, lift_Names.j1, lift_Names.l0, lift_Names.l1] at h
 | k + 1 => by
  obtain ⟨i0_, i1_, i2_, i3_, i4_⟩ := lift_Names.mono_l k; have m0_ := @slices_Contains_string_string.mono; refine ⟨?_, ?_, ?_, ?_, ?_⟩ <;> intros
  ·unfold lift_Names.f; exact lO_
  ·unfold lift_Names.j0; exact lO_
  ·unfold lift_Names.j1; exact lO_
  ·unfold lift_Names.l0; exact lO_
  ·unfold lift_Names.l1; exact lO_
theorem lift_Names.mono : ∀ a0 a1 a2 a3 k, LeO (lift_Names.f k a0 a1 a2 a3) (lift_Names.f (k + 1) a0 a1 a2 a3) := by
 intro a0 a1 a2 a3 k
 obtain ⟨ih0, ih1, ih2, ih3, ih4⟩ := lift_Names.mono_l k
 exact ih0 a0 a1 a2 a3
set_option maxHeartbeats 8000000 in
set_option maxRecDepth 100000 in
theorem lift_Names.calls (k : Nat) : ∀ (a0_0 : Int) (a0_1 : Int) (a0_2 : ByteArray) (A0_3 : Option Addr) (c0_3 : Nat) (l0_3 : List (S24)) (r : List ByteArray) (w : World) (hr0_3 : Kd.C k24 w A0_3 l0_3.length l0_3) (hc0_3 : l0_3.length ≤ c0_3) (h : lift_Names.f k a0_0 a0_1 a0_2 l0_3 = some r),
  Calls Tryz.prog 21 #[.agg #[.int .i64 a0_0, .int .i64 a0_1, .string a0_2, .slice A0_3 l0_3.length c0_3]] w fun e w' => ∃ v0_ : Value, e = .returned (v0_) ∧ Kd.R Kd.string 9 w' w.heap.size (fun _ => True) v0_ r ∧ Below w.heap.size w w' := by
 induction k using Nat.strongRecOn with
 | _ k ih =>
 intro a0_0 a0_1 a0_2 A0_3 c0_3 l0_3 r w hr0_3 hc0_3 h
 cases k with
 | zero => exact absurd h (by simp [lift_Names.f])
 | succ k =>
 simp only [lift_Names.f] at h
 have hu24 := Tryz.underlying24
 have bz := mk0 hr0_3
 have ci := mk0 hc0_3
 clear hr0_3 hc0_3
 have HB := mk0 (Below.refl w.heap.size w)
 have H : (if a0_0 = 2 then (lift_Names.j0 k ([] : List ByteArray) true a0_0 a0_1 a0_2 l0_3) else (lift_Names.j0 k ([] : List ByteArray) (a0_0 == 3) a0_0 a0_1 a0_2 l0_3)) = some r := h
 clear h
 have aJ := mk0 H
 clear H
 go_enter Tryz.func21, Tryz.ntmps21
 go_upto_region 2 with (first | ((with_reducible refine gate_dst (N := 1) rfl ?_); refine bxE 1 #[.int .i64 a0_0, .int .i64 a0_1, .string a0_2, .slice A0_3 l0_3.length c0_3] 24 ?_; intro au hg w3 hbox hb; have ab := mk0 (hbox); have cj := gE (uL HB.out) hg; replace HB := hbB (uL HB.out) hb; clear hb hbox hg))
 (try simp only [AP])
 go_cut [15] (fun v15 wc => ∃ (kq : Nat) (aA : Bool), v15 = .bool aA ∧ Aside0 (lift_Names.j0 kq ([] : List ByteArray) aA a0_0 a0_1 a0_2 l0_3 = some r) ∧ Aside0 (kq ≤ k) ∧ Aside0 (Kd.R Kd.string 9 wc w.heap.size (fun _ => True) (.slice none 0 0) ([] : List ByteArray)) ∧ Aside0 (wc.heap[au]? = some (.cells #[.int .i64 a0_0, .int .i64 a0_1, .string a0_2, (.slice A0_3 l0_3.length c0_3)] 24 (0, 0))) ∧ Aside0 (Below w.heap.size w wc))
 case first =>
  have H := aJ.out; clear aJ
  by_cases c4 : a0_0 = 2
  ·rw [if_pos c4] at H
   obtain ⟨av, bC⟩ := yQ c4; clear c4; (first | rw [av] | (simp only [i64_w, i32_w]; rw [av]) | skip); have H' := mk0 H; clear H; obtain ⟨ck, cl, cm, cn, cp, cq, cr, ct⟩ := cL4 ab; go_wp2
   go_meet
   case rel => exact ⟨_, (true), eK, H', ⟨by first | omega | exact Nat.le_refl _⟩, ⟨nK⟩, ⟨uB ab.out⟩, ⟨bH⟩⟩
  ·rw [if_neg c4] at H
   obtain ⟨av, bC⟩ := nQ c4; (first | rw [av] | (simp only [i64_w, i32_w]; rw [av]) | skip); have H' := mk0 H; clear H; obtain ⟨cu, cv, cw, cx, cy, cz, cA, cD⟩ := cL4 ab; go_wp2
   go_meet
   case rel => exact ⟨_, ((a0_0 == 3)), eK, H', ⟨by first | omega | exact Nat.le_refl _⟩, ⟨nK⟩, ⟨uB ab.out⟩, ⟨bH⟩⟩
 case rest =>
  clear aJ; obtain ⟨kq, aA, rfl, HA, ai, ac, ab, HB⟩ := hcut
  cases kq with
  | zero => exact absurd HA.out (by simp [lift_Names.j0])
  | succ kj1 =>
   have H := HA.out; clear HA; simp only [lift_Names.j0] at H; have aK := mk0 H; clear H
   go_upto_if 15 with (fail)
   go_cut [3] (fun v3 wc => ∃ (kq : Nat) (x3_6 : List ByteArray), Aside0 (lift_Names.j1 kq x3_6 a0_0 a0_1 a0_2 l0_3 = some r) ∧ Aside0 (kq ≤ kj1) ∧ Aside0 (Kd.R Kd.string 9 wc w.heap.size (fun _ => True) v3 x3_6) ∧ Aside0 (wc.heap[au]? = some (.cells #[.int .i64 a0_0, .int .i64 a0_1, .string a0_2, (.slice A0_3 l0_3.length c0_3)] 24 (0, 0))) ∧ Aside0 (Below w.heap.size w wc))
   case first =>
    have H := aK.out; clear aK
    by_cases c8 : aA = true
    ·subst c8
     replace H := iT H
     by_cases c9 : ([] : List ByteArray).length < 8796093022208
     ·rw [if_pos c9] at H
      have bE := mk0 c9; clear c9; obtain ⟨aY, aM⟩ : ∃ y_ : List ByteArray, y_ = (([] : List ByteArray) ++ [a0_2]) := ⟨_, rfl⟩; (replace H : (lift_Names.j1 kj1 aY a0_0 a0_1 a0_2 l0_3) = some r := by (try rw [aM]); first | with_reducible exact H | with_reducible exact oN H | exact H); have bF := mk0 aM; clear aM; have H' := mk0 H; clear H; obtain ⟨cE, cF, cG, cH, cI, cJ, cK, cL⟩ := cL4 ab
      go_wp2_with (first | ((with_reducible refine gate_builtin (b := .append) (xs := #[.tmp 16, .tmp 19]) rfl ?_); at_builtin; refine Kd.R_append Kd.string (w0 := w) w.heap.size rfl (.tmp 16) (.tmp 19) 45 9 (.string ⟨#[]⟩) 16 rfl Tryz.underlying45 info9 rfl (by decide) (by omega) (.slice none 0 0) ([] : List ByteArray) a0_2 [.string a0_2] (fun _ => True) (fun _ => False) rfl rfl ?aP (fun _ hk => hk.elim) ?aF ?aO ?aB ?aS ?aL ?_; (case aP => exact rfl); (case aB => exact bH); (case aF => exact (fun _ _ => trivial)); (case aO => exact (uR ac.out)); (case aS => exact (below_size bH)); (case aL => have := bE.out; omega); intro cM cN ho hb hg hat; rw [← bF.out] at ho; have n0_ := (gB ab hg (Kd.R_ne ac.out ab.out (by decide))); have n1_ := mk0 (hb); have n2_ := mk0 (ho); clear ab HB ac; have ab := n0_; have HB := n1_; have bG := n2_; clear n0_ n1_ n2_; clear ho hb hg hat))
      go_meet
      case rel => exact ⟨_, (aY), H', ⟨by have := ai.out; first | omega | exact Nat.le_refl _⟩, ⟨uR bG.out⟩, ⟨uB ab.out⟩, ⟨bH⟩⟩
     ·exact nO H c9
    ·replace c8 := Bool.eq_false_iff.mpr c8
     subst c8; replace H := iF H; have H' := mk0 H; clear H; go_wp2
     go_meet
     case rel => exact ⟨_, (([] : List ByteArray)), H', ⟨by have := ai.out; first | omega | exact Nat.le_refl _⟩, ⟨uR ac.out⟩, ⟨uB ab.out⟩, ⟨bH⟩⟩
   case rest =>
    clear aK; obtain ⟨kq, x3_6, HA, ak, ac, ab, HB⟩ := hcut
    cases kq with
    | zero => exact absurd HA.out (by simp [lift_Names.j1])
    | succ kj6 =>
     have H := HA.out; clear HA; simp only [lift_Names.j1] at H; have H' := mk0 H; clear H; obtain ⟨aZ, a_, bf, bg, bh, bi, bj, bk⟩ := cL4 ab; go_wp2
     go_loopg [3, 24] kj6 (fun kq v3 v24 w' => ∃ (x3_3 : List ByteArray) (aa : Int), v24 = .int .i64 aa ∧ Aside0 (lift_Names.l0 kq x3_3 l0_3 (l0_3.length : Int) aa = some r) ∧ Aside0 (kq ≤ kj6) ∧ Aside0 (Kd.R Kd.string 9 w' w.heap.size (fun _ => True) v3 x3_3) ∧ Aside0 (w'.heap[au]? = some (.cells #[.int .i64 a0_0, .int .i64 a0_1, .string a0_2, (.slice A0_3 l0_3.length c0_3)] 24 (0, 0))) ∧ Aside0 (Below w.heap.size w w'))
     case atStart => exact ⟨(x3_6), (0), eK, H', ⟨Nat.le_refl _⟩, ⟨uR ac.out⟩, ⟨uB ab.out⟩, ⟨bH⟩⟩
     case round =>
      clear H'; (try clear aZ a_ bf bg bh bi bj bk); obtain ⟨x3_3, aa, rfl, HA, al, ac, ab, HB⟩ := hrel
      cases gk with
      | zero => exact absurd HA.out (by simp [lift_Names.l0])
      | succ k3 =>
       have H := HA.out; clear HA; simp only [lift_Names.l0] at H
       by_cases am : aa < (l0_3.length : Int)
       ·rw [if_pos am] at H
        have bl := decide_eq_true am; clear am
        by_cases aw : 0 ≤ aa
        ·rw [if_pos aw] at H
         have bI := decide_eq_true aw; clear aw
         by_cases ax : aa < (l0_3.length : Int)
         ·rw [if_pos ax] at H
          have bJ := decide_eq_true ax; clear ax; obtain ⟨af, bK, H⟩ := oB H; have H' := mk0 H; clear H; have aC : 0 ≤ (aa : Int) := dY; have aD : aa < (l0_3.length : Int) := dY; obtain ⟨bm, ay, az, bL, aN, aQ, aT, aU, bn, bo⟩ := at_T24 bz.out aa aC aD
          cases bL
          replace aN := oC HB aN; replace aQ := oC HB aQ; replace aT := oC HB aT; replace aU := oC HB aU; have bM := mk0 bo; have bO := mk0 bn; clear bo bn; replace aC := eq_true aC; replace aD := eq_true aD
          go_wp2_with (first | ((with_reducible refine gate_dst (N := 5) rfl ?_); refine bxE 5 #[.int .i64 0, .int .i64 0, .string (⟨#[]⟩ : ByteArray), .slice none 0 0] 24 ?_; intro ah hg cO hbox hb; replace ac := rB ac hb; have ag := mk0 (hbox); have cP := gE bH hg; replace HB := hbB bH hb; have bP := nL ab hg; have bQ := nG ab hg; replace ab := bB ab hb; clear hb hbox hg; have cR := bQ.out; have cS := bP.out; obtain ⟨bR, bT, bU, bV, bW, bX, bY, bZ⟩ := cL4 ag) | ((with_reducible refine gate_dst (N := 29) rfl ?_); refine gsM (some 29) Tryz.func21 #[.agg #[.int .i64 ((rd_T24 l0_3 aa).f0), .int .i64 ((rd_T24 l0_3 aa).f1), .string ((rd_T24 l0_3 aa).f2), .slice ay ((rd_T24 l0_3 aa).f3).length az]] ?_; (with_reducible refine (ih k3 (by have := ai.out; have := ak.out; have := al.out; omega) ((rd_T24 l0_3 aa).f0) ((rd_T24 l0_3 aa).f1) ((rd_T24 l0_3 aa).f2) _ _ ((rd_T24 l0_3 aa).f3) af _ ?side1 ?side2 bK.out).mono ?_); (case side1 => exact Kd.C_below bM.out bH); (case side2 => exact bO.out); rintro e cT ⟨cU, rfl, ho0, hb⟩; refine ⟨_, rfl, ?_⟩; have bp := mk0 (Kd.R_lower (Kd.R_new' ho0 (Kd.R_lt (uR (Kd.R_mono (Kd.R_far (p := ⟨ah, 3, none⟩) (Kd.R_far (p := ⟨ah, 2, none⟩) (Kd.R_far (p := ⟨ah, 1, none⟩) (Kd.R_far (p := ⟨ah, 0, none⟩) (Kd.R_types ac.out ag.out (by decide)) (fun _ hk => hk.2) (.int .i64 ((rd_T24 l0_3 aa).f0))) (fun _ hk => hk.2) (.int .i64 ((rd_T24 l0_3 aa).f1))) (fun _ hk => hk.2) (.string ((rd_T24 l0_3 aa).f2))) (fun _ hk => hk.2) (.slice ay ((rd_T24 l0_3 aa).f3).length az)) (fun _ h_ => h_.1))))) (below_size bH)); replace ac := mk0 (Kd.R_elder' (uR (Kd.R_mono (Kd.R_far (p := ⟨ah, 3, none⟩) (Kd.R_far (p := ⟨ah, 2, none⟩) (Kd.R_far (p := ⟨ah, 1, none⟩) (Kd.R_far (p := ⟨ah, 0, none⟩) (Kd.R_types ac.out ag.out (by decide)) (fun _ hk => hk.2) (.int .i64 ((rd_T24 l0_3 aa).f0))) (fun _ hk => hk.2) (.int .i64 ((rd_T24 l0_3 aa).f1))) (fun _ hk => hk.2) (.string ((rd_T24 l0_3 aa).f2))) (fun _ hk => hk.2) (.slice ay ((rd_T24 l0_3 aa).f3).length az)) (fun _ h_ => h_.1))) (Kd.R_base ho0) hb); replace ab := mk0 (blk_below (g := au) (o := .cells #[.int .i64 a0_0, .int .i64 a0_1, .string a0_2, .slice (some bm) l0_3.length c0_3] 24 (0, 0)) (kB) hb); replace ag := mk0 (blk_below (g := ah) (o := .cells #[.int .i64 ((rd_T24 l0_3 aa).f0), .int .i64 ((rd_T24 l0_3 aa).f1), .string ((rd_T24 l0_3 aa).f2), .slice ay ((rd_T24 l0_3 aa).f3).length az] 24 (0, 0)) (kB) hb); replace HB := hbB bH hb; (try clear hb hk ho0); obtain ⟨bq, aV, b4⟩ := Kd.R_slice bp.out; subst b4))
          go_loopg [3, 31] k3 (fun kq v3 v31 w' => ∃ (x3_4 : List ByteArray) (ae : Int), v31 = .int .i64 ae ∧ Aside0 (lift_Names.l1 kq x3_4 l0_3 (l0_3.length : Int) aa af (af.length : Int) ae = some r) ∧ Aside0 (kq ≤ k3) ∧ Aside0 (Kd.R Kd.string 9 w' w.heap.size (fun k_ => some k_ ≠ ((.slice bq af.length aV) : Value).ownBlock) v3 x3_4) ∧ Aside0 (Kd.R Kd.string 9 w' w.heap.size (fun k_ => some k_ ≠ (v3 : Value).ownBlock) (.slice bq af.length aV) af) ∧ Aside0 (w'.heap[au]? = some (.cells #[.int .i64 a0_0, .int .i64 a0_1, .string a0_2, (.slice (some bm) l0_3.length c0_3)] 24 (0, 0))) ∧ Aside0 (w'.heap[ah]? = some (.cells #[.int .i64 ((rd_T24 l0_3 aa).f0), .int .i64 ((rd_T24 l0_3 aa).f1), .string ((rd_T24 l0_3 aa).f2), (.slice ay ((rd_T24 l0_3 aa).f3).length az)] 24 (0, 0))) ∧ Aside0 (Below w.heap.size w w'))
          case atStart => exact ⟨(x3_3), (0), eK, H', ⟨Nat.le_refl _⟩, ⟨uR (Kd.R_mono ac.out (fun _ hk => hk.2))⟩, ⟨uR (Kd.R_mono bp.out (fun _ hk => hk.2))⟩, ⟨uB ab.out⟩, ⟨uB ag.out⟩, ⟨bH⟩⟩
          case round =>
           clear H'; (try clear am bl aw bI ax bJ aZ a_ bf bg bR bT bU bV bh bi bj bk bW bX bY bZ aN aQ aT aU aC aD); obtain ⟨x3_4, ae, rfl, HA, aq, ac, aj, ab, ag, HB⟩ := hrel
           cases gk with
           | zero => exact absurd HA.out (by simp [lift_Names.l1])
           | succ k4 =>
            have H := HA.out; clear HA; simp only [lift_Names.l1] at H
            by_cases ar : ae < (af.length : Int)
            ·rw [if_pos ar] at H
             have b5 := decide_eq_true ar; clear ar
             by_cases aE : 0 ≤ ae
             ·rw [if_pos aE] at H
              have cV := decide_eq_true aE; clear aE
              by_cases aG : ae < (af.length : Int)
              ·rw [if_pos aG] at H
               have cW := decide_eq_true aG; clear aG; obtain ⟨b6, br, H⟩ := oB H
               by_cases aH : b6 = true
               ·subst aH
                replace H := iT H; have H' := mk0 H; clear H; have ao : 0 ≤ (ae : Int) := dY; have ap : ae < (af.length : Int) := dY; obtain ⟨bs, aW, b7⟩ := Kd.at_string (Kd.R_reads' aj.out).2.2 ae ao ap
                cases aW
                replace ao := eq_true ao; replace ap := eq_true ap; obtain ⟨b8, b9, cd⟩ := Kd.R_slice ac.out; subst cd
                go_wp2_with (first | ((with_reducible refine gate_dst (N := 37) rfl ?_); refine gsM (some 37) Tryz.func39 #[.slice b8 x3_4.length b9, .string (rdOf ByteArray.empty af ae)] ?_; (with_reducible refine (slices_Contains_string_string.calls k4 _ _ x3_4 (rdOf ByteArray.empty af ae) true _ ?side1 ?side2 br.out).mono ?_); (case side1 => exact uC ((Kd.R_reads' ac.out).2.2)); (case side2 => exact (Kd.R_reads' ac.out).2.1); rintro e w' ⟨rfl, ⟨nd, rfl⟩⟩; refine ⟨_, rfl, ?_⟩))
                go_roundg k4
                case measure => have := ai.out; have := ak.out; have := al.out; have := aq.out; omega
                case rel => exact ⟨(x3_4), (wrap64 (ae + 1)), eK, H', ⟨by have := ai.out; have := ak.out; have := al.out; have := aq.out; omega⟩, ⟨uR ac.out⟩, ⟨uR aj.out⟩, ⟨uB ab.out⟩, ⟨uB ag.out⟩, ⟨bH⟩⟩
               ·replace aH := Bool.eq_false_iff.mpr aH
                subst aH; replace H := iF H
                by_cases aI : x3_4.length < 8796093022208
                ·rw [if_pos aI] at H
                 have ce := mk0 aI; clear aI; obtain ⟨bu, aX⟩ : ∃ y_ : List ByteArray, y_ = (x3_4 ++ [rdOf ByteArray.empty af ae]) := ⟨_, rfl⟩; (replace H : (lift_Names.l1 k4 bu l0_3 (l0_3.length : Int) aa af (af.length : Int) (wrap64 (ae + 1))) = some r := by (try rw [aX]); first | with_reducible exact H | with_reducible exact oN H | exact H); have cf := mk0 aX; clear aX; have H' := mk0 H; clear H; have ao : 0 ≤ (ae : Int) := dY; have ap : ae < (af.length : Int) := dY; obtain ⟨bs, aW, b7⟩ := Kd.at_string (Kd.R_reads' aj.out).2.2 ae ao ap
                 cases aW
                 replace ao := eq_true ao; replace ap := eq_true ap; obtain ⟨bv, bw, cg⟩ := Kd.R_slice ac.out; subst cg
                 go_wp2_with (first | ((with_reducible refine gate_dst (N := 37) rfl ?_); refine gsM (some 37) Tryz.func39 #[.slice bv x3_4.length bw, .string (rdOf ByteArray.empty af ae)] ?_; (with_reducible refine (slices_Contains_string_string.calls k4 _ _ x3_4 (rdOf ByteArray.empty af ae) false _ ?side1 ?side2 br.out).mono ?_); (case side1 => exact uC ((Kd.R_reads' ac.out).2.2)); (case side2 => exact (Kd.R_reads' ac.out).2.1); rintro e w' ⟨rfl, ⟨nd, rfl⟩⟩; refine ⟨_, rfl, ?_⟩) | ((with_reducible refine gate_builtin (b := .append) (xs := #[.tmp 39, .tmp 41]) rfl ?_); at_builtin; refine Kd.R_append Kd.string (w0 := w) w.heap.size rfl (.tmp 39) (.tmp 41) 45 9 (.string ⟨#[]⟩) 16 rfl Tryz.underlying45 info9 rfl (by decide) (by omega) (.slice bv x3_4.length bw) x3_4 (rdOf ByteArray.empty af ae) [.string (rdOf ByteArray.empty af ae)] (fun k_ => some k_ ≠ (.slice (some bs) af.length aV : Value).ownBlock) (fun _ => False) rfl rfl ?aP (fun _ hk => hk.elim) ?aF ?aO ?aB ?aS ?aL ?_; (case aP => exact rfl); (case aB => exact bH); (case aF => exact (fun k_ hk => Kd.fresh' (Kd.R_lt (uR aj.out)) k_ hk)); (case aO => exact (uR ac.out)); (case aS => exact (below_size bH)); (case aL => have := ce.out; omega); intro cX cY ho hb hg hat; rw [← cf.out] at ho; have n0_ := mk0 (Kd.R_after (ok := (fun _ => True)) (uR (Kd.R_mono aj.out (fun _ hk => ⟨trivial, hk⟩))) hg hat); have n1_ := (gB ab hg (Kd.R_ne ac.out ab.out (by decide))); have n2_ := (gB ag hg (Kd.R_ne ac.out ag.out (by decide))); have n3_ := mk0 (hb); have n4_ := mk0 (ho); clear aj ab ag HB ac; have aj := n0_; have ab := n1_; have ag := n2_; have HB := n3_; have ch := n4_; clear n0_ n1_ n2_ n3_ n4_; clear ho hb hg hat))
                 go_roundg k4
                 case measure => have := ai.out; have := ak.out; have := al.out; have := aq.out; omega
                 case rel => exact ⟨(bu), (wrap64 (ae + 1)), eK, H', ⟨by have := ai.out; have := ak.out; have := al.out; have := aq.out; omega⟩, ⟨uR ch.out⟩, ⟨uR (Kd.R_mono aj.out (fun _ hk => hk.2))⟩, ⟨uB ab.out⟩, ⟨uB ag.out⟩, ⟨bH⟩⟩
                ·exact nO H aI
              ·exact nO H aG
             ·exact nO H aE
            ·rw [if_neg ar] at H
             have b5 := decide_eq_false ar; clear ar; have H' := mk0 H; clear H; go_wp2
             go_roundg k4
             case measure => have := ai.out; have := ak.out; have := al.out; have := aq.out; omega
             case rel => exact ⟨(x3_4), (wrap64 (aa + 1)), eK, H', ⟨by have := ai.out; have := ak.out; have := al.out; have := aq.out; omega⟩, ⟨uR (Kd.R_mono ac.out (fun _ hk => trivial))⟩, ⟨uB ab.out⟩, ⟨bH⟩⟩
         ·exact nO H ax
        ·exact nO H aw
       ·rw [if_neg am] at H
        have bl := decide_eq_false am; clear am; obtain rfl := Option.some.inj H; go_wp2; go_ret; exact ⟨_, rE, uR ac.out, bH⟩

end Go.Proofs.YtnkckdbjeemjeaaGreatDoor.X
