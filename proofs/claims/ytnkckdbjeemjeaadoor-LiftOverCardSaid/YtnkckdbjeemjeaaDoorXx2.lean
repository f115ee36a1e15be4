-- PRINTED by print.py (a twelfth state) out of the translation. Not trusted: Lean checks it.
import Derived.Test.YtnkckdbjeemjeaaDoorXx0
import Derived.Test.YtnkckdbjeemjeaaDoorXx1
namespace Go.Proofs.YtnkckdbjeemjeaaDoor.X
open Go.Proofs.YtnkckdbjeemjeaaDoor.Flt Go.Proofs.YtnkckdbjeemjeaaDoor.H Go.RowKit Go.Proofs.YtnkckdbjeemjeaaDoorW.PrintWords Go.Proofs.YtnkckdbjeemjeaaDoorW.PrintLast Go.Proofs.YtnkckdbjeemjeaaDoorW.PrintMore
attribute [local go_sem] max2_int min2_int max_two min_two max_three min_three max_four min_four   -- for this text's walks alone
set_option linter.unusedVariables false
set_option linter.unusedSimpArgs false

/-! ### slices_Index_string_string: function 28 -/
def slices_Index_string_string.l0 : Nat → List ByteArray → ByteArray → Int → Int → Option (Int)
 | 0, _, _, _, _ => none
 | k + 1, x0, x1, x7, x8 => if x8 < x7 then (if 0 ≤ x8 then (if x8 < (x0.length : Int) then (if x1.toList = (rdOf ByteArray.empty x0 x8).toList then (some x8) else (slices_Index_string_string.l0 k x0 x1 x7 (wrap64 (x8 + 1)))) else (none)) else (none)) else (some (-1))
def slices_Index_string_string.f (k : Nat) (l0 : List ByteArray) (a1 : ByteArray) : Option (Int) := slices_Index_string_string.l0 k l0 a1 (l0.length : Int) 0
theorem slices_Index_string_string.mono_l : ∀ k, (∀ y0 y1 y2 y3, LeO (slices_Index_string_string.l0 k y0 y1 y2 y3) (slices_Index_string_string.l0 (k + 1) y0 y1 y2 y3))
 | 0 => fun _ _ _ _ r h => by simp [slices_Index_string_string.l0] at h
 | k + 1 => by
  have ih0 := slices_Index_string_string.mono_l k
  ·intro y0 y1 y2 y3
   unfold slices_Index_string_string.l0
   repeat' first
   | (with_reducible exact ih0 _ _ _ _)
   | (with_reducible exact LeO.refl _)
   | (with_reducible exact LeO.none _)
   | (with_reducible refine LeO.ite ?_ ?_)
   | (with_reducible refine LeO.bind ?_ (fun _ => ?_))
   | exact ih0 _ _ _ _
   | exact LeO.none _
   | refine LeO.ite ?_ ?_
   | refine LeO.bind ?_ (fun _ => ?_)
theorem slices_Index_string_string.mono : ∀ a0 a1 k, LeO (slices_Index_string_string.f k a0 a1) (slices_Index_string_string.f (k + 1) a0 a1) := by
 intro a0 a1 k
 have ih0 := slices_Index_string_string.mono_l k
 unfold slices_Index_string_string.f
 repeat' first
   | (with_reducible exact ih0 _ _ _ _)
   | (with_reducible exact LeO.refl _)
   | (with_reducible exact LeO.none _)
   | (with_reducible refine LeO.ite ?_ ?_)
   | (with_reducible refine LeO.bind ?_ (fun _ => ?_))
   | exact ih0 _ _ _ _
   | exact LeO.none _
   | refine LeO.ite ?_ ?_
   | refine LeO.bind ?_ (fun _ => ?_)
set_option maxHeartbeats 8000000 in
set_option maxRecDepth 100000 in
theorem slices_Index_string_string.calls (k : Nat) (A0 : Option Addr) (c0 : Nat) (l0 : List ByteArray) (a1 : ByteArray) (r : Int) (w : World) (hr0 : Kd.C Kd.string w A0 l0.length l0) (hc0 : l0.length ≤ c0) (h : slices_Index_string_string.f k l0 a1 = some r) :
  Calls Tryd.prog 28 #[.slice A0 l0.length c0, .string a1] w fun e w' => e = .returned (.int .i64 r) ∧ Drawn0 w w' := by
 have HR0 := mk0 hr0
 have HC0 := mk0 hc0
 clear hr0 hc0
 have H : (slices_Index_string_string.l0 k l0 a1 (l0.length : Int) 0) = some r := h
 clear h
 have H' := mk0 H
 clear H
 go_enter Tryd.func28, Tryd.ntmps28
 go_wp2
 go_loopg [8] k (fun kq v8 w' => ∃ (x8_1 : Int), v8 = .int .i64 x8_1 ∧ Aside0 (slices_Index_string_string.l0 kq l0 a1 (l0.length : Int) x8_1 = some r) ∧ Aside0 (kq ≤ k) ∧ Drawn0 w w')
 case atStart => exact ⟨(0), eK, H', ⟨Nat.le_refl _⟩, by repeat (first | exact Drawn0.refl _ | apply Drawn0.step)⟩
 case round =>
  clear H'; obtain ⟨x8_1, rfl, HA, HK1, ⟨m1, rfl⟩⟩ := hrel
  cases gk with
  | zero => exact absurd HA.out (by simp [slices_Index_string_string.l0])
  | succ k1 =>
   have H := HA.out; clear HA; simp only [slices_Index_string_string.l0] at H
   by_cases c3 : x8_1 < (l0.length : Int)
   ·rw [if_pos c3] at H
    have c3b0 := decide_eq_true c3; clear c3
    by_cases c4 : 0 ≤ x8_1
    ·rw [if_pos c4] at H
     have c4b0 := decide_eq_true c4; clear c4
     by_cases c5 : x8_1 < (l0.length : Int)
     ·rw [if_pos c5] at H
      have c5b0 := decide_eq_true c5; clear c5
      by_cases c6 : a1.toList = (rdOf ByteArray.empty l0 x8_1).toList
      ·rw [if_pos c6] at H
       obtain ⟨c6b0, c6b1⟩ := yQ c6; clear c6; obtain rfl := Option.some.inj H; have p119 : 0 ≤ (x8_1 : Int) := dY; have q119 : x8_1 < (l0.length : Int) := dY; obtain ⟨ad119, e119, hx119_0⟩ := Kd.at_string HR0.out x8_1 p119 q119
       cases e119
       replace p119 := eq_true p119; replace q119 := eq_true q119; go_wp2; go_ret; exact ⟨eK, by repeat (first | exact Drawn0.refl _ | apply Drawn0.step)⟩
      ·rw [if_neg c6] at H
       obtain ⟨c6b0, c6b1⟩ := nQ c6; have H' := mk0 H; clear H; have p119 : 0 ≤ (x8_1 : Int) := dY; have q119 : x8_1 < (l0.length : Int) := dY; obtain ⟨ad119, e119, hx119_0⟩ := Kd.at_string HR0.out x8_1 p119 q119
       cases e119
       replace p119 := eq_true p119; replace q119 := eq_true q119; go_wp2
       go_roundg k1
       case measure => have := HK1.out; omega
       case rel => exact ⟨(wrap64 (x8_1 + 1)), eK, H', ⟨by have := HK1.out; omega⟩, by repeat (first | exact Drawn0.refl _ | apply Drawn0.step)⟩
     ·exact nO H c5
    ·exact nO H c4
   ·rw [if_neg c3] at H
    have c3b0 := decide_eq_false c3; clear c3; obtain rfl := Option.some.inj H; go_wp2; go_ret; exact ⟨eK, by repeat (first | exact Drawn0.refl _ | apply Drawn0.step)⟩

/-! ### lin_Index: function 29 -/
def lin_Index.f (a0 : Int) (a1 : Int) : Option (List Int × Int) := (lin_Const.f a0 0).bind fun bt121 => (if a1 ≥ 0 then (if a1 < a0 then (if 0 ≤ a1 then (if a1 < (bt121.1.length : Int) then (some ((bt121.1.set (a1 : Int).toNat 1), bt121.2)) else (none)) else (none)) else (some (bt121.1, bt121.2))) else (some (bt121.1, bt121.2)))
set_option maxHeartbeats 8000000 in
set_option maxRecDepth 100000 in
theorem lin_Index.calls (a0 : Int) (a1 : Int) (r1 : List Int) (r2 : Int) (w : World) (h : lin_Index.f a0 a1 = some (r1, r2)) :
  Calls Tryd.prog 29 #[.int .i64 a0, .int .i64 a1] w fun e w' => ∃ v0_ : Value, e = .returned (.agg #[v0_, .int .i64 r2]) ∧ Kd.R (Kd.int .i64) 2 w' w.heap.size (fun _ => True) v0_ r1 ∧ Below w.heap.size w w' := by
 have hu32 := Tryd.underlying32
 have HB := mk0 (Below.refl w.heap.size w)
 have H : ((lin_Const.f a0 0).bind fun ai => (if a1 ≥ 0 then (if a1 < a0 then (if 0 ≤ a1 then (if a1 < (ai.1.length : Int) then (some ((ai.1.set (a1 : Int).toNat 1), ai.2)) else (none)) else (none)) else (some (ai.1, ai.2))) else (some (ai.1, ai.2)))) = some (r1, r2) := h
 clear h
 replace H := Option.bind_eq_some_iff.mp H
 obtain ⟨⟨ac, ae⟩, az, H⟩ := H
 dsimp only at H
 have A3 := mk0 az
 clear az
 by_cases c4 : a1 ≥ 0
 ·rw [if_pos c4] at H
  have aJ := decide_eq_true c4; clear c4
  by_cases c5 : a1 < a0
  ·rw [if_pos c5] at H
   have aK := decide_eq_true c5; clear c5
   by_cases c6 : 0 ≤ a1
   ·rw [if_pos c6] at H
    have aW := decide_eq_true c6; clear c6
    by_cases c7 : a1 < (ac.length : Int)
    ·rw [if_pos c7] at H
     have aX := decide_eq_true c7; clear c7; obtain ⟨aA, aq⟩ : ∃ y_ : List Int, y_ = (ac.set (a1 : Int).toNat 1) := ⟨_, rfl⟩; (replace H : (some (aA, ae)) = some (r1, r2) := by (try rw [aq]); first | with_reducible exact H | with_reducible exact oN H | exact H); have aM := mk0 aq; clear aq; simp only [Option.some.injEq, Prod.mk.injEq] at H; obtain ⟨rfl, rfl⟩ := H; go_enter Tryd.func29, Tryd.ntmps29
     go_wp2_with (first | ((with_reducible refine gate_dst (N := 4) rfl ?_); refine bxE 4 #[.slice none 0 0, .int .i64 0] 32 ?_; intro ag hg w9 hbox hb; have aa := mk0 (hbox); have aC := gE (uL HB.out) hg; replace HB := hbB (uL HB.out) hb; clear hb hbox hg) | ((with_reducible refine gate_dst (N := 7) rfl ?_); refine gsM (some 7) Tryd.func27 #[.int .i64 a0, .int .i64 0] ?_; (with_reducible refine (lin_Const.calls a0 0 ac ae _ A3.out).mono ?_); rintro e aY ⟨aD, rfl, ho0, hb⟩; refine ⟨_, rfl, ?_⟩; have ab := mk0 (Kd.R_lower ho0 (below_size bH)); replace aa := bB aa hb; replace HB := hbB bH hb; (try clear hb hk ho0)) | ((with_reducible refine gate_dst (N := 5) rfl ?_); refine bxE 5 #[.slice none 0 0, .int .i64 0] 32 ?_; intro ah hg aN hbox hb; replace ab := rB ab hb; have af := mk0 (hbox); have aE := gE bH hg; replace HB := hbB bH hb; have al := nL aa hg; have am := nG aa hg; replace aa := bB aa hb; clear hb hbox hg; obtain ⟨ap, aj, aQ⟩ := Kd.R_slice ab.out; subst aQ; have aZ := am.out; have a_ := al.out; obtain ⟨bf, bg, bh, bi⟩ := cL2 af) | ((with_reducible refine gate_store (t := 32) (p := 5) rfl ?_); refine store_event (t := 32) (p := 5) (v := ?vo_w15) (w1 := ((aN.setCell ⟨ah, 0, none⟩ (.slice ap ac.length aj)).setCell ⟨ah, 1, none⟩ (.int .i64 ae))) ?hg ?ho ?hn ?hr ?_; (case ho => rfl); (case hg => rfl); (case hn => rfl); (case hr => first | (go_simp; done) | (go_simp; rfl)); intro ak hw; have n0_ : Aside0 (Kd.R (Kd.int .i64) 2 ak w.heap.size (fun _ => True) (.slice ap ac.length aj) ac) := ⟨(by rw [hw]; exact (uR (Kd.R_mono (Kd.R_far (p := ⟨ah, 1, none⟩) (Kd.R_far (p := ⟨ah, 0, none⟩) (Kd.R_types ab.out af.out (by decide)) (fun _ hk => hk.2) (.slice ap ac.length aj)) (fun _ hk => hk.2) (.int .i64 ae)) (fun _ hk => trivial))))⟩; have n1_ : Aside0 (ak.heap[ag]? = some (.cells #[.slice none 0 0, .int .i64 0] 32 (0, 0))) := ⟨(by rw [hw]; exact (kB))⟩; have n2_ : Aside0 (ak.heap[ah]? = some (.cells #[.slice ap ac.length aj, .int .i64 ae] 32 (0, 0))) := ⟨(by rw [hw]; exact (kB))⟩; have n3_ : Aside0 (Below w.heap.size w ak) := ⟨(by rw [hw]; exact bH)⟩; clear hw ab aa af HB; have ab := n0_; have aa := n1_; have af := n2_; have HB := n3_; clear n0_ n1_ n2_ n3_; obtain ⟨bj, bk, bl, bm⟩ := cL2 af; have p8 : 0 ≤ (a1 : Int) := dY; have q8 : (a1 : Int) < ((ac.length : Int) : Int) := dY; obtain ⟨ao, bn, aG, aH, gl8, cl8, aI⟩ := Kd.R_form ab.out (by omega); (first | cases aG | (injection aG with ea_ en_ ec_; (first | subst ea_ | (injection ea_ with ea_; subst ea_)); subst ec_; clear en_)); have aT := mk0 aH; have GG8 := mk0 aI; clear aH gl8 aI; obtain ⟨bo, bp⟩ := Kd.R_celln 0 ab.out (a1 : Int) p8 q8; replace p8 := eq_true p8; replace q8 := eq_true q8; obtain ⟨hy17_, hz17_⟩ := Kd.R_celln 0 ab.out (a1 : Int) (dY) (dY); have ar := Kd.R_putg ab.out (a1 : Int) 1) | ((with_reducible refine gate_store (t := 2) (p := 18) rfl ?_); refine store_event (t := 2) (p := 18) (v := ?vo_w18) (w1 := (ak.setCell ⟨ao, (a1 : Int).toNat, none⟩ (.int .i64 1))) ?hg ?ho ?hn ?hr ?_; (case ho => rfl); (case hg => rfl); (case hn => rfl); (case hr => first | (go_simp; done) | (go_simp; rfl)); intro au hw; have hg : ak.grownBy au (some ao) := (by rw [hw]; exact ar.2); have hp_ : Kd.R (Kd.int .i64) 2 au w.heap.size (fun _ => True) (.slice (some ⟨ao, 0, none⟩) ac.length aj) aA := (by rw [hw, aM.out]; exact ar.1); clear ar; replace aa := (gB aa hg (Kd.R_ne ab.out aa.out (by decide))); replace af := (gB af hg (Kd.R_ne ab.out af.out (by decide))); replace ab := mk0 (hp_); replace HB := mk0 ((by rw [hw]; exact below_set (HB.out) aT.out : Below w.heap.size w au)); clear hg hw hp_; obtain ⟨bq, br, bs, bu⟩ := cL2 af; obtain ⟨bv, bw, bx, bz⟩ := cL2 aa))
     refine bodyPost_ret (results_cell_row rfl _ _ ag 32 #[.slice (some ⟨ao, 0, none⟩) ac.length aj, .int .i64 ae] (0, 0) _ rfl (kB) Tryd.underlying32 rfl (by kernel_rfl)) rfl ?_; exact ⟨_, rE, uR (Kd.R_mono (Kd.R_far (p := ⟨ag, 1, none⟩) (Kd.R_far (p := ⟨ag, 0, none⟩) (Kd.R_types ab.out aa.out (by decide)) (fun _ hk => hk.2) (.slice (some ⟨ao, 0, none⟩) ac.length aj)) (fun _ hk => hk.2) (.int .i64 ae)) (fun _ hk => trivial)), bH⟩
    ·exact nO H c7
   ·exact nO H c6
  ·rw [if_neg c5] at H
   have aK := decide_eq_false c5; clear c5; simp only [Option.some.injEq, Prod.mk.injEq] at H; obtain ⟨rfl, rfl⟩ := H; go_enter Tryd.func29, Tryd.ntmps29
   go_wp2_with (first | ((with_reducible refine gate_dst (N := 4) rfl ?_); refine bxE 4 #[.slice none 0 0, .int .i64 0] 32 ?_; intro ag hg bC hbox hb; have aa := mk0 (hbox); have aC := gE (uL HB.out) hg; replace HB := hbB (uL HB.out) hb; clear hb hbox hg) | ((with_reducible refine gate_dst (N := 7) rfl ?_); refine gsM (some 7) Tryd.func27 #[.int .i64 a0, .int .i64 0] ?_; (with_reducible refine (lin_Const.calls a0 0 ac ae _ A3.out).mono ?_); rintro e bE ⟨aD, rfl, ho0, hb⟩; refine ⟨_, rfl, ?_⟩; have ab := mk0 (Kd.R_lower ho0 (below_size bH)); replace aa := bB aa hb; replace HB := hbB bH hb; (try clear hb ho0)) | ((with_reducible refine gate_dst (N := 5) rfl ?_); refine bxE 5 #[.slice none 0 0, .int .i64 0] 32 ?_; intro ah hg bF hbox hb; replace ab := rB ab hb; have af := mk0 (hbox); have aE := gE bH hg; replace HB := hbB bH hb; have al := nL aa hg; have am := nG aa hg; replace aa := bB aa hb; clear hb hbox hg; obtain ⟨av, aw, aU⟩ := Kd.R_slice ab.out; subst aU; have bG := am.out; have bI := al.out; obtain ⟨bJ, bK, bL, bM⟩ := cL2 af; obtain ⟨bO, bP, bQ, bR⟩ := cL2 aa))
   refine bodyPost_ret (results_cell_row rfl _ _ ag 32 #[.slice av ac.length aw, .int .i64 ae] (0, 0) _ rfl (kB) Tryd.underlying32 rfl (by kernel_rfl)) rfl ?_; exact ⟨_, rE, uR (Kd.R_mono (Kd.R_far (p := ⟨ag, 1, none⟩) (Kd.R_far (p := ⟨ag, 0, none⟩) (Kd.R_far (p := ⟨ah, 1, none⟩) (Kd.R_far (p := ⟨ah, 0, none⟩) (Kd.R_types (Kd.R_types ab.out af.out (by decide)) aa.out (by decide)) (fun _ hk => hk.1.2) (.slice av ac.length aw)) (fun _ hk => hk.1.2) (.int .i64 ae)) (fun _ hk => hk.2) (.slice av ac.length aw)) (fun _ hk => hk.2) (.int .i64 ae)) (fun _ hk => trivial)), bH⟩
 ·rw [if_neg c4] at H
  have aJ := decide_eq_false c4; clear c4; simp only [Option.some.injEq, Prod.mk.injEq] at H; obtain ⟨rfl, rfl⟩ := H; go_enter Tryd.func29, Tryd.ntmps29
  go_wp2_with (first | ((with_reducible refine gate_dst (N := 4) rfl ?_); refine bxE 4 #[.slice none 0 0, .int .i64 0] 32 ?_; intro ag hg bT hbox hb; have aa := mk0 (hbox); have aC := gE (uL HB.out) hg; replace HB := hbB (uL HB.out) hb; clear hb hbox hg) | ((with_reducible refine gate_dst (N := 7) rfl ?_); refine gsM (some 7) Tryd.func27 #[.int .i64 a0, .int .i64 0] ?_; (with_reducible refine (lin_Const.calls a0 0 ac ae _ A3.out).mono ?_); rintro e bU ⟨aD, rfl, ho0, hb⟩; refine ⟨_, rfl, ?_⟩; have ab := mk0 (Kd.R_lower ho0 (below_size bH)); replace aa := bB aa hb; replace HB := hbB bH hb; (try clear hb ho0)) | ((with_reducible refine gate_dst (N := 5) rfl ?_); refine bxE 5 #[.slice none 0 0, .int .i64 0] 32 ?_; intro ah hg bV hbox hb; replace ab := rB ab hb; have af := mk0 (hbox); have aE := gE bH hg; replace HB := hbB bH hb; have al := nL aa hg; have am := nG aa hg; replace aa := bB aa hb; clear hb hbox hg; obtain ⟨ax, ay, aV⟩ := Kd.R_slice ab.out; subst aV; have bW := am.out; have bX := al.out; obtain ⟨bY, bZ, b3, b4⟩ := cL2 af; obtain ⟨b5, b6, b7, b8⟩ := cL2 aa))
  refine bodyPost_ret (results_cell_row rfl _ _ ag 32 #[.slice ax ac.length ay, .int .i64 ae] (0, 0) _ rfl (kB) Tryd.underlying32 rfl (by kernel_rfl)) rfl ?_; exact ⟨_, rE, uR (Kd.R_mono (Kd.R_far (p := ⟨ag, 1, none⟩) (Kd.R_far (p := ⟨ag, 0, none⟩) (Kd.R_far (p := ⟨ah, 1, none⟩) (Kd.R_far (p := ⟨ah, 0, none⟩) (Kd.R_types (Kd.R_types ab.out af.out (by decide)) aa.out (by decide)) (fun _ hk => hk.1.2) (.slice ax ac.length ay)) (fun _ hk => hk.1.2) (.int .i64 ae)) (fun _ hk => hk.2) (.slice ax ac.length ay)) (fun _ hk => hk.2) (.int .i64 ae)) (fun _ hk => trivial)), bH⟩
 -- NOT PRINTED: function 44 (lin_each)

/-! ### lin_Same: function 61 -/
mutual
def lin_Same.l0 : Nat → Int → Int → List Int → Int → List Int → Int → Option (Bool)
 | 0, _, _, _, _, _, _ => none
 | k + 1, x14, x15, x128000, x128001, x129000, x129001 => if x15 < x14 then (if x15 < (x128000.length : Int) then (if 0 ≤ x15 then (lin_Same.j1 k x15 (rd x128000 x15) 0 x14 x15 x128000 x128001 x129000 x129001) else (none)) else (lin_Same.j1 k x15 0 0 x14 x15 x128000 x128001 x129000 x129001)) else (some (x128001 == x129001))
def lin_Same.j1 : Nat → Int → Int → Int → Int → Int → List Int → Int → List Int → Int → Option (Bool)
 | 0, _, _, _, _, _, _, _, _, _ => none
 | k + 1, x5, x6, x7, x14, x15, x128000, x128001, x129000, x129001 => if x5 < (x129000.length : Int) then (if 0 ≤ x5 then (if x6 = (rd x129000 x5) then (lin_Same.l0 k x14 (wrap64 (x15 + 1)) x128000 x128001 x129000 x129001) else (some false)) else (none)) else (if x6 = x7 then (lin_Same.l0 k x14 (wrap64 (x15 + 1)) x128000 x128001 x129000 x129001) else (some false))
end
def lin_Same.f (k : Nat) (l0_0 : List Int) (a0_1 : Int) (l1_0 : List Int) (a1_1 : Int) : Option (Bool) := lin_Same.l0 k (mx (l0_0.length : Int) (l1_0.length : Int)) 0 l0_0 a0_1 l1_0 a1_1
theorem lin_Same.mono_l : ∀ k, (∀ y0 y1 y2 y3 y4 y5, LeO (lin_Same.l0 k y0 y1 y2 y3 y4 y5) (lin_Same.l0 (k + 1) y0 y1 y2 y3 y4 y5)) ∧ (∀ y0 y1 y2 y3 y4 y5 y6 y7 y8, LeO (lin_Same.j1 k y0 y1 y2 y3 y4 y5 y6 y7 y8) (lin_Same.j1 (k + 1) y0 y1 y2 y3 y4 y5 y6 y7 y8))
 | 0 => by refine ⟨?_, ?_⟩ <;> intros <;> exact fun r h => by simp [lin_Same.l0, lin_Same.j1] at h
 | k + 1 => by
  obtain ⟨i0_, i1_⟩ := lin_Same.mono_l k; refine ⟨?_, ?_⟩ <;> intros
  ·unfold lin_Same.l0; exact lO_
  ·unfold lin_Same.j1; exact lO_
theorem lin_Same.mono : ∀ a0 a1 a2 a3 k, LeO (lin_Same.f k a0 a1 a2 a3) (lin_Same.f (k + 1) a0 a1 a2 a3) := by
 intro a0 a1 a2 a3 k
 obtain ⟨i0_, i1_⟩ := lin_Same.mono_l k; unfold lin_Same.f; exact lO_
set_option maxHeartbeats 8000000 in
set_option maxRecDepth 100000 in
theorem lin_Same.calls (k : Nat) (A0_0 : Option Addr) (c0_0 : Nat) (l0_0 : List Int) (a0_1 : Int) (A1_0 : Option Addr) (c1_0 : Nat) (l1_0 : List Int) (a1_1 : Int) (r : Bool) (w : World) (hr0_0 : Kd.C (Kd.int .i64) w A0_0 l0_0.length l0_0) (hc0_0 : l0_0.length ≤ c0_0) (hr1_0 : Kd.C (Kd.int .i64) w A1_0 l1_0.length l1_0) (hc1_0 : l1_0.length ≤ c1_0) (h : lin_Same.f k l0_0 a0_1 l1_0 a1_1 = some r) :
  Calls Tryd.prog 61 #[.agg #[.slice A0_0 l0_0.length c0_0, .int .i64 a0_1], .agg #[.slice A1_0 l1_0.length c1_0, .int .i64 a1_1]] w fun e w' => e = .returned (.bool r) ∧ Below w.heap.size w w' := by
 have hu32 := Tryd.underlying32
 have aT := mk0 hr0_0
 have bj := mk0 hc0_0
 clear hr0_0 hc0_0
 have az := mk0 hr1_0
 have bk := mk0 hc1_0
 clear hr1_0 hc1_0
 have HB := mk0 (Below.refl w.heap.size w)
 have H : (lin_Same.l0 k (mx (l0_0.length : Int) (l1_0.length : Int)) 0 l0_0 a0_1 l1_0 a1_1) = some r := h
 clear h
 obtain ⟨ji3, hji3⟩ : ∃ j_ : Int, (mx (l0_0.length : Int) (l1_0.length : Int)) = j_ := ⟨_, rfl⟩
 replace H : (lin_Same.l0 k ji3 0 l0_0 a0_1 l1_0 a1_1) = some r := by first | (rw [hji3] at H; exact H) | (simp only [hji3] at H ⊢; exact H)
 (try (have hji3l : 0 ≤ ji3 := by (rw [← hji3]; unfold mx; (repeat' split) <;> omega)))
 (try (have hji3m : 0 ≤ ji3 := by omega))
 have hji3_ : (if (l0_0.length : Int) < (l1_0.length : Int) then (l1_0.length : Int) else (l0_0.length : Int)) = ji3 := hji3
 have hji3n : (if l0_0.length < l1_0.length then (l1_0.length : Int) else (l0_0.length : Int)) = ji3 := by (have h_ := hji3_; simp only [Int.ofNat_lt] at h_; exact h_)
 have H' := mk0 H
 clear H
 go_enter Tryd.func61, Tryd.ntmps61
 go_wp2_with (first | ((with_reducible refine gate_dst (N := 2) rfl ?_); refine bxE 2 #[.slice A0_0 l0_0.length c0_0, .int .i64 a0_1] 32 ?_; intro aA hg w4 hbox hb; have ab := mk0 (hbox); have bl := gE (uL HB.out) hg; replace HB := hbB (uL HB.out) hb; clear hb hbox hg) | ((with_reducible refine gate_dst (N := 3) rfl ?_); refine bxE 3 #[.slice A1_0 l1_0.length c1_0, .int .i64 a1_1] 32 ?_; intro aC hg w5 hbox hb; have ac := mk0 (hbox); have bm := gE bH hg; replace HB := hbB bH hb; have ae := nL ab hg; have af := nG ab hg; replace ab := bB ab hb; clear hb hbox hg; have bn := ae.out; have bo := af.out; obtain ⟨aD, aE, aG, aH⟩ := cL2 ab; obtain ⟨aI, aJ, aK, aM⟩ := cL2 ac))
 go_loopg [15] k (fun kq v15 w' => ∃ (aa : Int), v15 = .int .i64 aa ∧ Aside0 (lin_Same.l0 kq ji3 aa l0_0 a0_1 l1_0 a1_1 = some r) ∧ Aside0 (kq ≤ k) ∧ Aside0 (w'.heap[aA]? = some (.cells #[(.slice A0_0 l0_0.length c0_0), .int .i64 a0_1] 32 (0, 0))) ∧ Aside0 (w'.heap[aC]? = some (.cells #[(.slice A1_0 l1_0.length c1_0), .int .i64 a1_1] 32 (0, 0))) ∧ Aside0 (Below w.heap.size w w'))
 case atStart => exact ⟨(0), eK, H', ⟨Nat.le_refl _⟩, ⟨uB ab.out⟩, ⟨uB ac.out⟩, ⟨bH⟩⟩
 case round =>
  clear H'; (try clear aD aE aI aJ aG aH aK aM); obtain ⟨aa, rfl, HA, ai, ab, ac, HB⟩ := hrel
  cases gk with
  | zero => exact absurd HA.out (by simp [lin_Same.l0])
  | succ k1 =>
   have H := HA.out; clear HA; simp only [lin_Same.l0] at H
   by_cases c9 : aa < ji3
   ·rw [if_pos c9] at H
    have aN := decide_eq_true c9; clear c9; have av := mk0 H; clear H; have bp := ae.out; have bq := af.out; obtain ⟨aU, aV, aW, aX⟩ := cL2 ab
    go_upto_if 22 with (fail)
    go_cut [6] (fun v6 wc => ∃ (kq : Nat) (x6_9 : Int), v6 = .int .i64 x6_9 ∧ Aside0 (lin_Same.j1 kq aa x6_9 0 ji3 aa l0_0 a0_1 l1_0 a1_1 = some r) ∧ Aside0 (kq ≤ k1) ∧ Aside0 (wc.heap[aA]? = some (.cells #[(.slice A0_0 l0_0.length c0_0), .int .i64 a0_1] 32 (0, 0))) ∧ Aside0 (wc.heap[aC]? = some (.cells #[(.slice A1_0 l1_0.length c1_0), .int .i64 a1_1] 32 (0, 0))) ∧ Aside0 (Below w.heap.size w wc))
    case first =>
     have H := av.out; clear av
     by_cases aj : aa < (l0_0.length : Int)
     ·rw [if_pos aj] at H
      have al := decide_eq_true aj; clear aj; (first | rw [al] | (simp only [i64_w, i32_w]; rw [al]) | skip)
      by_cases aq : 0 ≤ aa
      ·rw [if_pos aq] at H
       have br := decide_eq_true aq; clear aq; have H' := mk0 H; clear H; have bs := ae.out; have bu := af.out; obtain ⟨bv, bw, bx, bz⟩ := cL2 ab; have aw : 0 ≤ (aa : Int) := dY; have ax : aa < (l0_0.length : Int) := dY; obtain ⟨bC, aY, aQ⟩ := Kd.at_int aT.out aa aw ax
       cases aY
       replace aQ := oC HB aQ; replace aw := eq_true aw; replace ax := eq_true ax; go_wp2
       go_meet
       case rel => exact ⟨_, (rd l0_0 aa), eK, H', ⟨by have := ai.out; first | omega | exact Nat.le_refl _⟩, ⟨uB ab.out⟩, ⟨uB ac.out⟩, ⟨bH⟩⟩
      ·exact nO H aq
     ·rw [if_neg aj] at H
      have al := decide_eq_false aj; clear aj; (first | rw [al] | (simp only [i64_w, i32_w]; rw [al]) | skip); have H' := mk0 H; clear H; go_wp2
      go_meet
      case rel => exact ⟨_, (0), eK, H', ⟨by have := ai.out; first | omega | exact Nat.le_refl _⟩, ⟨uB ab.out⟩, ⟨uB ac.out⟩, ⟨bH⟩⟩
    case rest =>
     clear av; (try clear c9 aN aU aV aD aE aI aJ aW aX aG aH aK aM); obtain ⟨kq, x6_9, rfl, HA, ar, ab, ac, HB⟩ := hcut
     cases kq with
     | zero => exact absurd HA.out (by simp [lin_Same.j1])
     | succ kj9 =>
      have H := HA.out; clear HA; simp only [lin_Same.j1] at H
      by_cases ak : aa < (l1_0.length : Int)
      ·rw [if_pos ak] at H
       have aZ := decide_eq_true ak; clear ak
       by_cases au : 0 ≤ aa
       ·rw [if_pos au] at H
        have bE := decide_eq_true au; clear au
        by_cases am : x6_9 = (rd l1_0 aa)
        ·rw [if_pos am] at H
         obtain ⟨a_, bf⟩ := yQ am; clear am; have H' := mk0 H; clear H; have bF := af.out; have bG := ae.out; obtain ⟨bI, bJ, bK, bL⟩ := cL2 ac; have ag : 0 ≤ (aa : Int) := dY; have ah : aa < (l1_0.length : Int) := dY; obtain ⟨bg, ay, ao⟩ := Kd.at_int az.out aa ag ah
         cases ay
         replace ao := oC HB ao; replace ag := eq_true ag; replace ah := eq_true ah; go_wp2
         go_roundg kj9
         case measure => have := ai.out; have := ar.out; omega
         case rel => exact ⟨(wrap64 (aa + 1)), eK, H', ⟨by have := ai.out; have := ar.out; omega⟩, ⟨uB ab.out⟩, ⟨uB ac.out⟩, ⟨bH⟩⟩
        ·rw [if_neg am] at H
         obtain ⟨a_, bf⟩ := nQ am; obtain rfl := Option.some.inj H; have bM := af.out; have bO := ae.out; obtain ⟨bP, bQ, bR, bT⟩ := cL2 ac; have ag : 0 ≤ (aa : Int) := dY; have ah : aa < (l1_0.length : Int) := dY; obtain ⟨bg, ay, ao⟩ := Kd.at_int az.out aa ag ah
         cases ay
         replace ao := oC HB ao; replace ag := eq_true ag; replace ah := eq_true ah; go_wp2; go_ret; exact ⟨by first | rfl | (simp [errW_none, errW_some] <;> rfl) | (simp only [← hji3]; first | rfl | (simp [errW_none, errW_some] <;> rfl)) | (simp [*, errW_none, errW_some] <;> rfl), bH⟩
       ·exact nO H au
      ·rw [if_neg ak] at H
       have aZ := decide_eq_false ak; clear ak
       by_cases ap : x6_9 = 0
       ·rw [if_pos ap] at H
        obtain ⟨bh, bi⟩ := yQ ap; clear ap; have H' := mk0 H; clear H; have bU := af.out; have bV := ae.out; obtain ⟨bW, bX, bY, bZ⟩ := cL2 ac; go_wp2
        go_roundg kj9
        case measure => have := ai.out; have := ar.out; omega
        case rel => exact ⟨(wrap64 (aa + 1)), eK, H', ⟨by have := ai.out; have := ar.out; omega⟩, ⟨uB ab.out⟩, ⟨uB ac.out⟩, ⟨bH⟩⟩
       ·rw [if_neg ap] at H
        obtain ⟨bh, bi⟩ := nQ ap; obtain rfl := Option.some.inj H; have b3 := af.out; have b4 := ae.out; obtain ⟨b5, b6, b7, b8⟩ := cL2 ac; go_wp2; go_ret; exact ⟨by first | rfl | (simp [errW_none, errW_some] <;> rfl) | (simp only [← hji3]; first | rfl | (simp [errW_none, errW_some] <;> rfl)) | (simp [*, errW_none, errW_some] <;> rfl), bH⟩
   ·rw [if_neg c9] at H
    have aN := decide_eq_false c9; clear c9; obtain rfl := Option.some.inj H; have b9 := ae.out; have cd := af.out; obtain ⟨ce, cf, cg, ch⟩ := cL2 ab; obtain ⟨ci, cj, ck, cl⟩ := cL2 ac; go_wp2; go_ret; exact ⟨by first | rfl | (simp [errW_none, errW_some] <;> rfl) | (simp only [← hji3]; first | rfl | (simp [errW_none, errW_some] <;> rfl)) | (simp [*, errW_none, errW_some] <;> rfl), bH⟩

end Go.Proofs.YtnkckdbjeemjeaaDoor.X
