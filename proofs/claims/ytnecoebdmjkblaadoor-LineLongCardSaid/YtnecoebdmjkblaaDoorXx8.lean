-- PRINTED by print.py (a twelfth state) out of the translation. Not trusted: Lean checks it.
import Derived.Test.YtnecoebdmjkblaaDoorXx0
import Derived.Test.YtnecoebdmjkblaaDoorXx2
import Derived.Test.YtnecoebdmjkblaaDoorXx5
import Derived.Test.YtnecoebdmjkblaaDoorHandE
import Derived.Test.YtnecoebdmjkblaaDoorHandU
namespace Go.Proofs.YtnecoebdmjkblaaDoor.X
open Go.Proofs.YtnecoebdmjkblaaDoor.Flt Go.Proofs.YtnecoebdmjkblaaDoor.H Go.RowKit Go.Proofs.YtnecoebdmjkblaaDoorW.PrintWords Go.Proofs.YtnecoebdmjkblaaDoorW.PrintLast Go.Proofs.YtnecoebdmjkblaaDoorW.PrintMore
attribute [local go_sem] max2_int min2_int max_two min_two max_three min_three max_four min_four   -- for this text's walks alone
set_option linter.unusedVariables false
set_option linter.unusedSimpArgs false

/-! ### furrowlaw2_LineLong: function 6 -/
mutual
def furrowlaw2_LineLong.l0 : Nat → Int → Int → List Int → Int → Option (Bool)
 | 0, _, _, _, _ => none
 | k + 1, x0, x1, x5, x6 => if x6 < (x5.length : Int) then (if 0 ≤ x6 then (furrowlaw2_LineLong.l0 k x0 x1 (x5.set (x6 : Int).toNat 32) (wrap64 (x6 + 1))) else (none)) else (if (strOfNums x5).size + 1 ≤ 9223372036854775807 then ((line_Split.f ((strOfNums x5) ++ (⟨#[10]⟩ : ByteArray))).bind fun bt220 => (if (wrap64 ((wrap64 (x0)) + 1)) > 200 then ((furrowref4_At.f (⟨#[108, 105, 110, 101]⟩ : ByteArray) 0 4).bind fun bt227 => (furrowlaw2_LineLong.j1 k x1 bt220.2 bt227.1 bt227.2)) else (furrowlaw2_LineLong.j1 k x1 bt220.2 ([] : List (S63)) 0))) else (none))
def furrowlaw2_LineLong.j1 : Nat → Int → List (Flt) → List (S63) → Int → Option (Bool)
 | 0, _, _, _, _ => none
 | k + 1, x1, x8, x227000, x227001 => if 0 ≤ (wrap64 ((wrap64 (65536 + (wrap64 (Int.tmod x1 8)))) - 4)) then (if (wrap64 ((wrap64 (65536 + (wrap64 (Int.tmod x1 8)))) - 4) : Int).toNat ≤ 281474976710656 then (furrowlaw2_LineLong.l1 k x8 (wrap64 (Int.tmod x1 8)) (List.replicate (wrap64 ((wrap64 (65536 + (wrap64 (Int.tmod x1 8)))) - 4) : Int).toNat 0) 0 x227000 x227001) else (none)) else (none)
def furrowlaw2_LineLong.l1 : Nat → List (Flt) → Int → List Int → Int → List (S63) → Int → Option (Bool)
 | 0, _, _, _, _, _, _ => none
 | k + 1, x8, x10, x11, x12, x227000, x227001 => if x12 < (x11.length : Int) then (if 0 ≤ x12 then (furrowlaw2_LineLong.l1 k x8 x10 (x11.set (x12 : Int).toNat 10) (wrap64 (x12 + 1)) x227000 x227001) else (none)) else ((line_Split.f (strOfNums x11)).bind fun bt235 => (if x10 > 4 then ((furrowlaw2_Tells.f x8 x227000 x227001).bind fun t241 => (if t241 = true then ((furrowref4_At.f (⟨#[116, 101, 120, 116]⟩ : ByteArray) 0 4).bind fun bt242 => ((furrowlaw2_Tells.f bt235.2 bt242.1 bt242.2).bind fun t246 => (if t246 = true then (some ((bt235.1.length : Int) == 0)) else (some false)))) else (some false))) else ((furrowlaw2_Tells.f x8 x227000 x227001).bind fun t247 => (if t247 = true then (if (bt235.2.length : Int) = 0 then (some ((bt235.1.length : Int) == (x11.length : Int))) else (some false)) else (some false)))))
end
def furrowlaw2_LineLong.f (k : Nat) (a0 : Int) (a1 : Int) : Option (Bool) := (furrowlaw2_known.f).bind fun t215 => (if t215 = true then (if 0 ≤ (wrap64 (a0)) then (if (wrap64 (a0) : Int).toNat ≤ 281474976710656 then (furrowlaw2_LineLong.l0 k a0 a1 (List.replicate (wrap64 (a0) : Int).toNat 0) 0) else (none)) else (none)) else (some false))
theorem furrowlaw2_LineLong.mono_l : ∀ k, (∀ y0 y1 y2 y3, LeO (furrowlaw2_LineLong.l0 k y0 y1 y2 y3) (furrowlaw2_LineLong.l0 (k + 1) y0 y1 y2 y3)) ∧ (∀ y0 y1 y2 y3, LeO (furrowlaw2_LineLong.j1 k y0 y1 y2 y3) (furrowlaw2_LineLong.j1 (k + 1) y0 y1 y2 y3)) ∧ (∀ y0 y1 y2 y3 y4 y5, LeO (furrowlaw2_LineLong.l1 k y0 y1 y2 y3 y4 y5) (furrowlaw2_LineLong.l1 (k + 1) y0 y1 y2 y3 y4 y5))
 | 0 => ⟨fun _ _ _ _ r h => by simp [furrowlaw2_LineLong.l0] at h, fun _ _ _ _ r h => by simp [furrowlaw2_LineLong.j1] at h, fun _ _ _ _ _ _ r h => by simp [furrowlaw2_LineLong.l1] at h⟩
 | k + 1 => by
  obtain ⟨ih0, ih1, ih2⟩ := furrowlaw2_LineLong.mono_l k
  refine ⟨?_, ?_, ?_⟩
  ·intro y0 y1 y2 y3
   unfold furrowlaw2_LineLong.l0
   repeat' first
   | (with_reducible exact ih0 _ _ _ _)
   | (with_reducible exact ih1 _ _ _ _)
   | (with_reducible exact ih2 _ _ _ _ _ _)
   | (with_reducible exact LeO.refl _)
   | (with_reducible exact LeO.none _)
   | (with_reducible refine LeO.ite ?_ ?_)
   | (with_reducible refine LeO.bind ?_ (fun _ => ?_))
   | exact ih0 _ _ _ _
   | exact ih1 _ _ _ _
   | exact ih2 _ _ _ _ _ _
   | exact LeO.none _
   | refine LeO.ite ?_ ?_
   | refine LeO.bind ?_ (fun _ => ?_)
  ·intro y0 y1 y2 y3
   unfold furrowlaw2_LineLong.j1
   repeat' first
   | (with_reducible exact ih0 _ _ _ _)
   | (with_reducible exact ih1 _ _ _ _)
   | (with_reducible exact ih2 _ _ _ _ _ _)
   | (with_reducible exact LeO.refl _)
   | (with_reducible exact LeO.none _)
   | (with_reducible refine LeO.ite ?_ ?_)
   | (with_reducible refine LeO.bind ?_ (fun _ => ?_))
   | exact ih0 _ _ _ _
   | exact ih1 _ _ _ _
   | exact ih2 _ _ _ _ _ _
   | exact LeO.none _
   | refine LeO.ite ?_ ?_
   | refine LeO.bind ?_ (fun _ => ?_)
  ·intro y0 y1 y2 y3 y4 y5
   unfold furrowlaw2_LineLong.l1
   repeat' first
   | (with_reducible exact ih0 _ _ _ _)
   | (with_reducible exact ih1 _ _ _ _)
   | (with_reducible exact ih2 _ _ _ _ _ _)
   | (with_reducible exact LeO.refl _)
   | (with_reducible exact LeO.none _)
   | (with_reducible refine LeO.ite ?_ ?_)
   | (with_reducible refine LeO.bind ?_ (fun _ => ?_))
   | exact ih0 _ _ _ _
   | exact ih1 _ _ _ _
   | exact ih2 _ _ _ _ _ _
   | exact LeO.none _
   | refine LeO.ite ?_ ?_
   | refine LeO.bind ?_ (fun _ => ?_)
theorem furrowlaw2_LineLong.mono : ∀ a0 a1 k, LeO (furrowlaw2_LineLong.f k a0 a1) (furrowlaw2_LineLong.f (k + 1) a0 a1) := by
 intro a0 a1 k
 obtain ⟨ih0, ih1, ih2⟩ := furrowlaw2_LineLong.mono_l k
 unfold furrowlaw2_LineLong.f
 repeat' first
   | (with_reducible exact ih0 _ _ _ _)
   | (with_reducible exact ih1 _ _ _ _)
   | (with_reducible exact ih2 _ _ _ _ _ _)
   | (with_reducible exact LeO.refl _)
   | (with_reducible exact LeO.none _)
   | (with_reducible refine LeO.ite ?_ ?_)
   | (with_reducible refine LeO.bind ?_ (fun _ => ?_))
   | exact ih0 _ _ _ _
   | exact ih1 _ _ _ _
   | exact ih2 _ _ _ _ _ _
   | exact LeO.none _
   | refine LeO.ite ?_ ?_
   | refine LeO.bind ?_ (fun _ => ?_)
set_option maxHeartbeats 8000000 in
set_option maxRecDepth 100000 in
theorem furrowlaw2_LineLong.calls (k : Nat) (a0 : Int) (a1 : Int) (w : World) (hG : Glob w) (h : furrowlaw2_LineLong.f k a0 a1 = some true) :
  Calls Tryd.prog 6 #[.int .u8 a0, .int .u16 a1] w fun e w' => e = .returned (.bool true) ∧ Below w.heap.size w w' := by
 have hu36 := Tryd.underlying36
 have HG := mk0 hG
 clear hG
 have HB := mk0 (Below.refl w.heap.size w)
 have H : ((furrowlaw2_known.f).bind fun t215 => (if t215 = true then (if 0 ≤ (wrap64 (a0)) then (if (wrap64 (a0) : Int).toNat ≤ 281474976710656 then (furrowlaw2_LineLong.l0 k a0 a1 (List.replicate (wrap64 (a0) : Int).toNat 0) 0) else (none)) else (none)) else (some false))) = some true := h
 clear h
 replace H := Option.bind_eq_some_iff.mp H
 obtain ⟨t215, A30, H⟩ := H
 replace H : (if t215 = true then (if 0 ≤ (wrap64 (a0)) then (if (wrap64 (a0) : Int).toNat ≤ 281474976710656 then (furrowlaw2_LineLong.l0 k a0 a1 (List.replicate (wrap64 (a0) : Int).toNat 0) 0) else (none)) else (none)) else (some false)) = some true := H
 have A3 := mk0 A30
 clear A30
 by_cases c4 : t215 = true
 ·subst c4
  have H1 : (if 0 ≤ (wrap64 (a0)) then (if (wrap64 (a0) : Int).toNat ≤ 281474976710656 then (furrowlaw2_LineLong.l0 k a0 a1 (List.replicate (wrap64 (a0) : Int).toNat 0) 0) else (none)) else (none)) = some true := by rw [if_pos rfl] at H; first | done | exact H
  clear H
  have H := H1
  clear H1
  obtain ⟨ji5, hji5⟩ : ∃ j_ : Int, (wrap64 (a0)) = j_ := ⟨_, rfl⟩
  replace H : (if 0 ≤ (ji5) then (if (ji5 : Int).toNat ≤ 281474976710656 then (furrowlaw2_LineLong.l0 k a0 a1 (List.replicate (ji5 : Int).toNat 0) 0) else (none)) else (none)) = some true := by first | (rw [hji5] at H; exact H) | (simp only [hji5] at H ⊢; exact H)
  (try rw [hji5] at A3)
  have hji5w : (IntKind.i64.wrap (a0)) = ji5 := (i64_w _).trans hji5
  by_cases c6 : 0 ≤ (ji5)
  ·rw [if_pos c6] at H
   have c6b0 := eq_true c6
   have c6b1 : decide (0 ≤ (ji5)) = true := decide_eq_true c6
   clear c6
   by_cases c7 : (ji5 : Int).toNat ≤ 281474976710656
   ·rw [if_pos c7] at H
    have c7b0 := eq_true c7
    have c7b1 : decide ((ji5 : Int).toNat ≤ 281474976710656) = true := decide_eq_true c7
    clear c7
    obtain ⟨y216, hy216⟩ : ∃ y_ : List Int, y_ = (List.replicate (ji5 : Int).toNat 0) := ⟨_, rfl⟩
    replace H : (furrowlaw2_LineLong.l0 k a0 a1 y216 0) = some true := by first | (rw [hy216]; with_reducible exact H) | (have H2_ := (Option.bind_some _ _).symm.trans H; rw [hy216]; with_reducible exact H2_) | (have H2_ := (Option.bind_some _ _).symm.trans H; with_reducible exact H2_) | with_reducible exact H | (rw [hy216]; exact H) | exact H
    have Ny216 := mk0 hy216
    clear hy216
    have H' := mk0 H
    clear H
    go_enter Tryd.func6, Tryd.ntmps6
    go_wp2_with (first | ((with_reducible refine gate_callee (f := 8) rfl ?_); refine goesL_ (some 15) rfl rfl Tryd.func8 (by kernel_rfl) rfl #[] rfl (by (try simp only [List.map_toArray, List.map_cons, List.map_nil]); first | done | rfl | (simp only [List.length_drop, List.length_take]; rfl)) ?_; (with_reducible refine (furrowlaw2_known.calls   _ A3.out).mono ?_); rintro e w8 ⟨rfl, hb⟩; refine ⟨_, rfl, ?_⟩; have n0_ := mk0 (below_step (uL HB.out) hb); clear HB; have HB := n0_; clear n0_; (try clear hb); (try clear hb2); (try clear hk); (try clear hi)) | ((with_reducible refine gate_dst (N := 19) rfl ?_); (try (refine gate_guard (by rfl) ?_; dsimp only)); refine Kd.R_make (Kd.int .u8) _ 5 rfl (N := 19) rfl 41 _ _ rfl ji5 rfl rfl Tryd.underlying41 (.int .u8 0) 1 info5 rfl (by decide) (by omega) 0 (ok := fun _ => True) (okp := fun _ => True) rfl (fun _ hk => hk) trivial (of_decide_eq_true (by first | (with_reducible assumption) | assumption)) (Nat.le_trans (Nat.mul_le_mul_right _ (of_decide_eq_true (by first | (with_reducible assumption) | assumption) : ji5.toNat ≤ 281474976710656)) (by omega)) (Below.refl _ _) (Nat.le_refl _) ?_; intro v217 w9 ho10 hb hg_ hnew_; clear hg_ hnew_; (first | rw [← Ny216.out] at ho10 | (simp only [Int.reduceToNat] at ho10; rw [← Ny216.out] at ho10)); have n0_ := mk0 (Kd.R_lower ho10 (below_size (uL HB.out))); have n1_ := mk0 (below_step (uL HB.out) hb); clear HB; have HO218 := n0_; have HB := n1_; clear n0_ n1_; clear hb ho10))
    go_loopg [6] k (fun kq v6 w' => ∃ (x5_1 : List Int) (x6_1 : Int), v6 = .int .i64 x6_1 ∧ Aside0 (furrowlaw2_LineLong.l0 kq a0 a1 x5_1 x6_1 = some true) ∧ Aside0 (kq ≤ k) ∧ Aside0 (Kd.R (Kd.int .u8) 5 w' w.heap.size (fun _ => True) v217 x5_1) ∧ Aside0 (Below w.heap.size w w'))
    case atStart => exact ⟨(y216), (0), (by first | rfl | (simp; done) | (simp [*]; done) | (simp [bne_nil_, beq_nil_]; done)), H', ⟨Nat.le_refl _⟩, ⟨uR HO218.out⟩, ⟨uL HB.out⟩⟩
    case round =>
     clear H'
     try clear p2
     try clear c4
     try clear c6
     try clear c6b0
     try clear c6b1
     try clear p6
     try clear c7
     try clear c7b0
     try clear c7b1
     try clear c8
     obtain ⟨x5_1, x6_1, rfl, HA, HK1, HO_5, HB⟩ := hrel
     cases gk with
     | zero => exact absurd HA.out (by simp [furrowlaw2_LineLong.l0])
     | succ k1 =>
      have H := HA.out
      clear HA
      simp only [furrowlaw2_LineLong.l0] at H
      by_cases c11 : x6_1 < (x5_1.length : Int)
      ·rw [if_pos c11] at H
       have c11b0 : decide (x6_1 < (x5_1.length : Int)) = true := decide_eq_true c11
       clear c11
       by_cases c12 : 0 ≤ x6_1
       ·rw [if_pos c12] at H
        have c12b0 : decide (0 ≤ x6_1) = true := decide_eq_true c12
        clear c12
        obtain ⟨y219, hy219⟩ : ∃ y_ : List Int, y_ = (x5_1.set (x6_1 : Int).toNat 32) := ⟨_, rfl⟩
        replace H : (furrowlaw2_LineLong.l0 k1 a0 a1 y219 (wrap64 (x6_1 + 1))) = some true := by first | (rw [hy219]; with_reducible exact H) | (have H2_ := (Option.bind_some _ _).symm.trans H; rw [hy219]; with_reducible exact H2_) | (have H2_ := (Option.bind_some _ _).symm.trans H; with_reducible exact H2_) | with_reducible exact H | (rw [hy219]; exact H) | exact H
        have Ny219 := mk0 hy219
        clear hy219
        have H' := mk0 H
        clear H
        obtain ⟨Ao14, co14, eo14⟩ := Kd.R_slice HO_5.out
        subst eo14
        have p13 : 0 ≤ (x6_1 : Int) := of_decide_eq_true (by first | (with_reducible assumption) | assumption)
        have q13 : (x6_1 : Int) < ((x5_1.length : Int) : Int) := of_decide_eq_true (by first | (with_reducible assumption) | assumption)
        obtain ⟨go13, co13, eo13, gb13, gl13, cl13, HG13⟩ := Kd.R_form HO_5.out (by omega)
        (first | cases eo13 | (injection eo13 with ea_ en_ ec_; (first | subst ea_ | (injection ea_ with ea_; subst ea_)); subst ec_; clear en_))
        have GB13 := mk0 gb13
        have GG13 := mk0 HG13
        clear gb13 gl13 HG13
        obtain ⟨hx13_0, hf13_0⟩ := Kd.R_celln 0 HO_5.out (x6_1 : Int) p13 q13
        replace p13 := eq_true p13
        replace q13 := eq_true q13
        have HP15 := Kd.R_putg HO_5.out (x6_1 : Int) 32
        go_wp2_with (first | ((with_reducible refine gate_store (t := 5) (p := 28) rfl ?_); refine store_event (t := 5) (p := 28) (v := ?vo_w16) (w1 := (wr.setCell ⟨go13, (x6_1 : Int).toNat, none⟩ (.int .u8 32))) ?hg ?ho ?hn ?hr ?_; (case ho => rfl); (case hg => rfl); (case hn => rfl); (case hr => first | (go_simp; done) | (go_simp; rfl)); intro w16 hw; have hg : wr.grownBy w16 (some go13) := (by rw [hw]; exact HP15.2); have hp_ : Kd.R (Kd.int .u8) 5 w16 w.heap.size (fun _ => True) (.slice (some ⟨go13, 0, none⟩) x5_1.length co14) y219 := (by rw [hw, Ny219.out]; exact HP15.1); clear HP15; have n0_ := mk0 (hp_); have n1_ := mk0 ((by rw [hw]; exact below_set (HB.out) GB13.out : Below w.heap.size w w16)); clear HO_5; clear HB; have HO_5 := n0_; have HB := n1_; clear n0_ n1_; clear hg hw hp_))
        go_roundg k1
        case measure => have := HK1.out; omega
        case rel => exact ⟨(y219), (wrap64 (x6_1 + 1)), (by first | rfl | (simp; done) | (simp [*]; done) | (simp [bne_nil_, beq_nil_]; done)), H', ⟨by have := HK1.out; omega⟩, ⟨uR HO_5.out⟩, ⟨uL HB.out⟩⟩
       ·rw [if_neg c12] at H
        exact absurd H (by simp)
      ·rw [if_neg c11] at H
       have c11b0 : decide (x6_1 < (x5_1.length : Int)) = false := decide_eq_false c11
       clear c11
       by_cases c17 : (strOfNums x5_1).size + 1 ≤ 9223372036854775807
       ·rw [if_pos c17] at H
        have c17b0 := eq_true c17
        have c17b1 : decide ((strOfNums x5_1).size + 1 ≤ 9223372036854775807) = true := decide_eq_true c17
        try have c17b2 : (9223372036854775807 < (strOfNums x5_1).size + 1) = False := eq_false (Nat.not_lt.2 c17)
        replace H := Option.bind_eq_some_iff.mp H
        obtain ⟨⟨t220, t221⟩, A180, H⟩ := H
        replace H : (if (wrap64 ((wrap64 (a0)) + 1)) > 200 then ((furrowref4_At.f (⟨#[108, 105, 110, 101]⟩ : ByteArray) 0 4).bind fun bt227 => (furrowlaw2_LineLong.j1 k1 a1 t221 bt227.1 bt227.2)) else (furrowlaw2_LineLong.j1 k1 a1 t221 ([] : List (S63)) 0)) = some true := H
        have A18 := mk0 A180
        clear A180
        have HC19 := mk0 H
        clear H
        obtain ⟨Ao20, co20, eo20⟩ := Kd.R_slice HO_5.out
        subst eo20
        have hcv21 := own_string (P := Tryd.prog) Tryd.underlying41 Tryd.underlying5 Tryd.underlying9 (Kd.own_of_R HO_5.out)
        go_upto_if 40 with (first | ((with_reducible refine gate_callee (f := 13) rfl ?_); refine goesL_ (some 33) rfl rfl Tryd.func13 (by kernel_rfl) rfl #[.string ((strOfNums x5_1) ++ (⟨#[10]⟩ : ByteArray))] rfl (by (try simp only [List.map_toArray, List.map_cons, List.map_nil]); first | done | rfl | (simp only [List.length_drop, List.length_take]; rfl)) ?_; (with_reducible refine (line_Split.calls ((strOfNums x5_1) ++ (⟨#[10]⟩ : ByteArray)) t220 t221 _ A18.out).mono ?_); rintro e w22 ⟨v222, v224, rfl, ho0, ho1, hb⟩; refine ⟨_, rfl, ?_⟩; have n0_ := mk0 (Kd.R_below (uR HO_5.out) hb); have n1_ := mk0 (Kd.R_lower ho0 (below_size (uL HB.out))); have n2_ := mk0 (Kd.R_lower ho1 (below_size (uL HB.out))); have n3_ := mk0 (below_step (uL HB.out) hb); clear HO_5; clear HB; have HO_5 := n0_; have HO223 := n1_; have HO225 := n2_; have HB := n3_; clear n0_ n1_ n2_ n3_; (try clear hb); (try clear hb2); (try clear hk); (try clear hi); (try clear ho0); (try clear ho1); (first | (have EHO225 := cmpV_no HO225.out (by with_reducible assumption)) | (have EHO225 := cmpV_yes HO225.out (by with_reducible assumption)) | skip)) | ((with_reducible refine gate_dst (N := 9) rfl ?_); (try (refine gate_guard (by rfl) ?_; dsimp only)); refine box_event ?hg (N := 9) ?hd (cs := #[.slice none 0 0, .int .i64 0]) (t := 36) ?hr ?_; (case hd => rfl); (case hg => rfl); (case hr => first | (go_simp; done) | (go_simp; rfl)); intro gb226 hg w23 hbox hb; have n0_ := mk0 (Kd.R_below (uR HO_5.out) hb); have n1_ := mk0 (Kd.R_below (uR HO223.out) hb); have n2_ := mk0 (Kd.R_below (uR HO225.out) hb); have n3_ := mk0 (below_step (uL HB.out) hb); have n4_ := mk0 (hbox); have n5_ := mk0 ((by rw [hg]; exact (below_size (uL HB.out)) : w.heap.size ≤ gb226)); have n6_ := mk0 ((by rw [hg]; exact (below_size (uL HB.out)) : w.heap.size ≤ gb226)); clear HO_5; clear HO223; clear HO225; clear HB; have HO_5 := n0_; have HO223 := n1_; have HO225 := n2_; have HB := n3_; have BK226 := n4_; have GW226 := n5_; have GE226 := n6_; clear n0_ n1_ n2_ n3_ n4_ n5_ n6_; clear hb hbox hg; have hcz24_0 : w23.cell? ⟨gb226, 0, none⟩ = some (.slice none 0 0) := (blk_cell BK226.out 0).trans rfl; have hcz24_1 : w23.cell? ⟨gb226, 1, none⟩ = some (.int .i64 0) := (blk_cell BK226.out 1).trans rfl; have hfz24_0 := blk_frozen BK226.out 0; have hfz24_1 := blk_frozen BK226.out 1))
        (try simp only [Act.put, List.setIfInBounds_toArray, List.set_cons_zero, List.set_cons_succ])
        go_cut [] (fun wc => ∃ (kq : Nat) (x227000_18 : List (S63)) (x227001_18 : Int) (u227000 : Value), Aside0 (furrowlaw2_LineLong.j1 kq a1 t221 x227000_18 x227001_18 = some true) ∧ Aside0 (kq ≤ k1) ∧ Aside0 (Kd.R fltK 52 wc w.heap.size (fun _ => True) v224 t221) ∧ Aside0 (Kd.R k63 63 wc w.heap.size (fun _ => True) u227000 x227000_18) ∧ Aside0 (wc.heap[gb226]? = some (.cells #[u227000, .int .i64 x227001_18] 36 (0, 0))) ∧ Aside0 (Below w.heap.size w wc))
        case first =>
         have H := HC19.out
         clear HC19
         by_cases c25 : (wrap64 ((wrap64 (a0)) + 1)) > 200
         ·rw [if_pos c25] at H
          have c25b0 : decide (200 < (wrap64 ((wrap64 (a0)) + 1))) = true := decide_eq_true c25
          try rw [hji5] at c25b0
          clear c25
          (first | rw [c25b0] | (simp only [i64_w, i32_w]; rw [c25b0]) | skip)
          replace H := Option.bind_eq_some_iff.mp H
          obtain ⟨⟨t227, t230⟩, A260, H⟩ := H
          replace H : (furrowlaw2_LineLong.j1 k1 a1 t221 t227 t230) = some true := H
          have A26 := mk0 A260
          clear A260
          have H' := mk0 H
          clear H
          (first | (have EHO225 := cmpV_no HO225.out (by with_reducible assumption)) | (have EHO225 := cmpV_yes HO225.out (by with_reducible assumption)) | skip)
          go_wp2_with (first | ((with_reducible refine gate_callee (f := 18) rfl ?_); refine goesL_ (some 41) rfl rfl Tryd.func18 (by kernel_rfl) rfl #[.string (⟨#[108, 105, 110, 101]⟩ : ByteArray), .int .i64 0, .int .i64 4] rfl (by (try simp only [List.map_toArray, List.map_cons, List.map_nil]); first | done | rfl | (simp only [List.length_drop, List.length_take]; rfl)) ?_; (with_reducible refine (furrowref4_At.calls (⟨#[108, 105, 110, 101]⟩ : ByteArray) 0 4 t227 t230 _ A26.out).mono ?_); rintro e w27 ⟨v228, rfl, ho0, hb⟩; refine ⟨_, rfl, ?_⟩; have n0_ := mk0 (Kd.R_below (uR (Kd.R_mono (Kd.R_far (p := ⟨gb226, 1, none⟩) (Kd.R_far (p := ⟨gb226, 0, none⟩) (Kd.R_types HO_5.out BK226.out (by decide)) (fun _ hk => hk.2) (.slice none 0 0)) (fun _ hk => hk.2) (.int .i64 0)) (fun _ h_ => h_.1))) hb); have n1_ := mk0 (Kd.R_below (uR (Kd.R_mono (Kd.R_far (p := ⟨gb226, 1, none⟩) (Kd.R_far (p := ⟨gb226, 0, none⟩) (Kd.R_types HO223.out BK226.out (by decide)) (fun _ hk => hk.2) (.slice none 0 0)) (fun _ hk => hk.2) (.int .i64 0)) (fun _ h_ => h_.1))) hb); have n2_ := mk0 (Kd.R_below (uR (Kd.R_mono (Kd.R_far (p := ⟨gb226, 1, none⟩) (Kd.R_far (p := ⟨gb226, 0, none⟩) (Kd.R_types HO225.out BK226.out (by decide)) (fun _ hk => hk.2) (.slice none 0 0)) (fun _ hk => hk.2) (.int .i64 0)) (fun _ h_ => h_.1))) hb); have n3_ := mk0 (Kd.R_lower ho0 (below_size (by repeat (first | (with_reducible first | exact HB.out | apply bA | apply bN | apply bD | refine bS ?_ (by assumption)) | exact HB.out)))); have n4_ := mk0 (blk_below (g := gb226) (o := .cells #[.slice none 0 0, .int .i64 0] 36 (0, 0)) (by (with_reducible repeat (first | refine blk_drewN ?_ _ | refine blk_drew ?_ | refine blk_alloc ?_ _)); refine blk_put (cs := #[.slice none 0 0, .int .i64 0]) ?_ 1 _ rfl; (with_reducible repeat (first | refine blk_drewN ?_ _ | refine blk_drew ?_ | refine blk_alloc ?_ _)); refine blk_put (cs := #[.slice none 0 0, .int .i64 0]) ?_ 0 _ rfl; (with_reducible repeat (first | refine blk_drewN ?_ _ | refine blk_drew ?_ | refine blk_alloc ?_ _)); exact BK226.out) hb); have n5_ := mk0 (below_step (by repeat (first | (with_reducible first | exact HB.out | apply bA | apply bN | apply bD | refine bS ?_ (by assumption)) | exact HB.out)) hb); clear HO_5; clear HO223; clear HO225; clear BK226; clear HB; have HO_5 := n0_; have HO223 := n1_; have HO225 := n2_; have HO229 := n3_; have BK226 := n4_; have HB := n5_; clear n0_ n1_ n2_ n3_ n4_ n5_; (try clear hb); (try clear hb2); (try clear hk); (try clear hi); (try clear ho0); obtain ⟨Ao28, co28, eo28⟩ := Kd.R_slice HO229.out; subst eo28; have hcz29_0 : w27.cell? ⟨gb226, 0, none⟩ = some (.slice none 0 0) := (blk_cell BK226.out 0).trans rfl; have hcz29_1 : w27.cell? ⟨gb226, 1, none⟩ = some (.int .i64 0) := (blk_cell BK226.out 1).trans rfl; have hfz29_0 := blk_frozen BK226.out 0; have hfz29_1 := blk_frozen BK226.out 1))
          go_meet
          case rel => exact ⟨_, (t227), (t230), (.slice Ao28 t227.length co28), H', ⟨by have := HK1.out; first | omega | exact Nat.le_refl _⟩, ⟨uR (Kd.R_mono (Kd.R_far (p := ⟨gb226, 1, none⟩) (Kd.R_far (p := ⟨gb226, 0, none⟩) (Kd.R_types HO225.out BK226.out (by decide)) (fun _ hk => hk.2) (.slice Ao28 t227.length co28)) (fun _ hk => hk.2) (.int .i64 t230)) (fun _ hk => trivial))⟩, ⟨uR (Kd.R_mono (Kd.R_far (p := ⟨gb226, 1, none⟩) (Kd.R_far (p := ⟨gb226, 0, none⟩) (Kd.R_types HO229.out BK226.out (by decide)) (fun _ hk => hk.2) (.slice Ao28 t227.length co28)) (fun _ hk => hk.2) (.int .i64 t230)) (fun _ hk => trivial))⟩, ⟨by (with_reducible repeat (first | refine blk_drewN ?_ _ | refine blk_drew ?_ | refine blk_alloc ?_ _)); refine blk_put (cs := #[.slice Ao28 t227.length co28, .int .i64 0]) ?_ 1 _ rfl; (with_reducible repeat (first | refine blk_drewN ?_ _ | refine blk_drew ?_ | refine blk_alloc ?_ _)); refine blk_put (cs := #[.slice none 0 0, .int .i64 0]) ?_ 0 _ rfl; (with_reducible repeat (first | refine blk_drewN ?_ _ | refine blk_drew ?_ | refine blk_alloc ?_ _)); exact BK226.out⟩, ⟨by repeat (first | (with_reducible first | exact HB.out | apply bA | apply bN | apply bD | refine bS ?_ (by assumption)) | exact HB.out)⟩⟩
         ·rw [if_neg c25] at H
          have c25b0 : decide (200 < (wrap64 ((wrap64 (a0)) + 1))) = false := decide_eq_false c25
          try rw [hji5] at c25b0
          clear c25
          (first | rw [c25b0] | (simp only [i64_w, i32_w]; rw [c25b0]) | skip)
          have H' := mk0 H
          clear H
          (first | (have EHO225 := cmpV_no HO225.out (by with_reducible assumption)) | (have EHO225 := cmpV_yes HO225.out (by with_reducible assumption)) | skip)
          go_wp2
          go_meet
          case rel => exact ⟨_, (([] : List (S63))), (0), (.slice none 0 0), H', ⟨by have := HK1.out; first | omega | exact Nat.le_refl _⟩, ⟨uR (Kd.R_mono (Kd.R_far (p := ⟨gb226, 1, none⟩) (Kd.R_far (p := ⟨gb226, 0, none⟩) (Kd.R_types HO225.out BK226.out (by decide)) (fun _ hk => hk.2) (.slice none 0 0)) (fun _ hk => hk.2) (.int .i64 0)) (fun _ hk => trivial))⟩, ⟨by first | exact Kd.R_nil _ _ _ _ _ | exact Kd.N_nil _ _ _ _ _ | exact Kd.V_nil _ _ _ _ _ | exact Kd.Q_nil _ _ _ _ _ | exact Kd.S_nil _ _ _ _ _⟩, ⟨by (with_reducible repeat (first | refine blk_drewN ?_ _ | refine blk_drew ?_ | refine blk_alloc ?_ _)); refine blk_put (cs := #[.slice none 0 0, .int .i64 0]) ?_ 1 _ rfl; (with_reducible repeat (first | refine blk_drewN ?_ _ | refine blk_drew ?_ | refine blk_alloc ?_ _)); refine blk_put (cs := #[.slice none 0 0, .int .i64 0]) ?_ 0 _ rfl; (with_reducible repeat (first | refine blk_drewN ?_ _ | refine blk_drew ?_ | refine blk_alloc ?_ _)); exact BK226.out⟩, ⟨by repeat (first | (with_reducible first | exact HB.out | apply bA | apply bN | apply bD | refine bS ?_ (by assumption)) | exact HB.out)⟩⟩
        case rest =>
         clear HC19
         try clear c1
         try clear p1
         try clear q1
         try clear hx1
         try clear c2
         try clear p2
         try clear hcv2
         try clear c4
         try clear c6
         try clear c6b0
         try clear c6b1
         try clear p6
         try clear c7
         try clear c7b0
         try clear c7b1
         try clear c8
         try clear c11
         try clear c11b0
         try clear c12
         try clear c12b0
         try clear c13
         try clear p13
         try clear q13
         try clear hx13
         try clear hf13
         try clear c17
         try clear c17b0
         try clear c17b1
         try clear c17b2
         try clear c18
         try clear hcv21
         try clear c25
         try clear c25b0
         try clear hcz24_0
         try clear hcz24_1
         try clear hcz29_0
         try clear hcz29_1
         try clear hfz24_0
         try clear hfz24_1
         try clear hfz29_0
         try clear hfz29_1
         try clear hx13_0
         try clear p13
         try clear p2
         try clear p6
         try clear q13
         obtain ⟨kq, x227000_18, x227001_18, u227000, HA, HJ18, HO_8, HO_227000, BK226, HB⟩ := hcut
         cases kq with
         | zero => exact absurd HA.out (by simp [furrowlaw2_LineLong.j1])
         | succ kj18 =>
          have H := HA.out
          clear HA
          simp only [furrowlaw2_LineLong.j1] at H
          obtain ⟨ji30, hji30⟩ : ∃ j_ : Int, (wrap64 ((wrap64 (65536 + (wrap64 (Int.tmod a1 8)))) - 4)) = j_ := ⟨_, rfl⟩
          replace H : (if 0 ≤ (ji30) then (if (ji30 : Int).toNat ≤ 281474976710656 then (furrowlaw2_LineLong.l1 kj18 t221 (wrap64 (Int.tmod a1 8)) (List.replicate (ji30 : Int).toNat 0) 0 x227000_18 x227001_18) else (none)) else (none)) = some true := by first | (rw [hji30] at H; exact H) | (simp only [hji30] at H ⊢; exact H)
          have hji30w : (IntKind.i64.wrap ((wrap64 (65536 + (wrap64 (Int.tmod a1 8)))) - 4)) = ji30 := (i64_w _).trans hji30
          by_cases c31 : 0 ≤ (ji30)
          ·rw [if_pos c31] at H
           have c31b0 := eq_true c31
           have c31b1 : decide (0 ≤ (ji30)) = true := decide_eq_true c31
           clear c31
           by_cases c32 : (ji30 : Int).toNat ≤ 281474976710656
           ·rw [if_pos c32] at H
            have c32b0 := eq_true c32
            have c32b1 : decide ((ji30 : Int).toNat ≤ 281474976710656) = true := decide_eq_true c32
            clear c32
            obtain ⟨y231, hy231⟩ : ∃ y_ : List Int, y_ = (List.replicate (ji30 : Int).toNat 0) := ⟨_, rfl⟩
            replace H : (furrowlaw2_LineLong.l1 kj18 t221 (wrap64 (Int.tmod a1 8)) y231 0 x227000_18 x227001_18) = some true := by first | (rw [hy231]; with_reducible exact H) | (have H2_ := (Option.bind_some _ _).symm.trans H; rw [hy231]; with_reducible exact H2_) | (have H2_ := (Option.bind_some _ _).symm.trans H; with_reducible exact H2_) | with_reducible exact H | (rw [hy231]; exact H) | exact H
            have Ny231 := mk0 hy231
            clear hy231
            have H' := mk0 H
            clear H
            (first | (have EHO_8 := cmpV_no HO_8.out (by with_reducible assumption)) | (have EHO_8 := cmpV_yes HO_8.out (by with_reducible assumption)) | skip)
            go_wp2_with (first | ((with_reducible refine gate_dst (N := 48) rfl ?_); (try (refine gate_guard (by rfl) ?_; dsimp only)); refine Kd.R_make (Kd.int .u8) _ 5 rfl (N := 48) rfl 41 _ _ rfl ji30 rfl rfl Tryd.underlying41 (.int .u8 0) 1 info5 rfl (by decide) (by omega) 0 (ok := fun _ => True) (okp := fun _ => True) rfl (fun _ hk => hk) trivial (of_decide_eq_true (by first | (with_reducible assumption) | assumption)) (Nat.le_trans (Nat.mul_le_mul_right _ (of_decide_eq_true (by first | (with_reducible assumption) | assumption) : ji30.toNat ≤ 281474976710656)) (by omega)) (Below.refl _ _) (Nat.le_refl _) ?_; intro v232 w33 ho34 hb hg_ hnew_; clear hg_ hnew_; (first | rw [← Ny231.out] at ho34 | (simp only [Int.reduceToNat] at ho34; rw [← Ny231.out] at ho34)); have n0_ := mk0 (Kd.R_below (uR HO_8.out) hb); have n1_ := mk0 (Kd.R_below (uR HO_227000.out) hb); have n2_ := mk0 (Kd.R_lower ho34 (below_size (by repeat (first | (with_reducible first | exact HB.out | apply bA | apply bN | apply bD | refine bS ?_ (by assumption)) | exact HB.out)))); have n3_ := mk0 (blk_below (g := gb226) (o := .cells #[u227000, .int .i64 x227001_18] 36 (0, 0)) (uB BK226.out) hb); have n4_ := mk0 (below_step (by repeat (first | (with_reducible first | exact HB.out | apply bA | apply bN | apply bD | refine bS ?_ (by assumption)) | exact HB.out)) hb); clear HO_8; clear HO_227000; clear BK226; clear HB; have HO_8 := n0_; have HO_227000 := n1_; have HO233 := n2_; have BK226 := n3_; have HB := n4_; clear n0_ n1_ n2_ n3_ n4_; clear hb ho34))
            go_loopg [12] kj18 (fun kq v12 w' => ∃ (x11_3 : List Int) (x12_3 : Int), v12 = .int .i64 x12_3 ∧ Aside0 (furrowlaw2_LineLong.l1 kq t221 (wrap64 (Int.tmod a1 8)) x11_3 x12_3 x227000_18 x227001_18 = some true) ∧ Aside0 (kq ≤ kj18) ∧ Aside0 (Kd.R fltK 52 w' w.heap.size (fun _ => True) v224 t221) ∧ Aside0 (Kd.R (Kd.int .u8) 5 w' w.heap.size (fun _ => True) v232 x11_3) ∧ Aside0 (Kd.R k63 63 w' w.heap.size (fun _ => True) u227000 x227000_18) ∧ Aside0 (w'.heap[gb226]? = some (.cells #[u227000, .int .i64 x227001_18] 36 (0, 0))) ∧ Aside0 (Below w.heap.size w w'))
            case atStart => exact ⟨(y231), (0), (by first | rfl | (simp; done) | (simp [*]; done) | (simp [bne_nil_, beq_nil_]; done)), H', ⟨Nat.le_refl _⟩, ⟨uR HO_8.out⟩, ⟨uR HO233.out⟩, ⟨uR HO_227000.out⟩, ⟨uB BK226.out⟩, ⟨by repeat (first | (with_reducible first | exact HB.out | apply bA | apply bN | apply bD | refine bS ?_ (by assumption)) | exact HB.out)⟩⟩
            case round =>
             clear H'
             try clear c1
             try clear p1
             try clear q1
             try clear hx1
             try clear c2
             try clear p2
             try clear hcv2
             try clear c3
             try clear c4
             try clear c6
             try clear c6b0
             try clear c6b1
             try clear p6
             try clear c7
             try clear c7b0
             try clear c7b1
             try clear c8
             try clear c11
             try clear c11b0
             try clear c12
             try clear c12b0
             try clear c13
             try clear p13
             try clear q13
             try clear hx13
             try clear hf13
             try clear c17
             try clear c17b0
             try clear c17b1
             try clear c17b2
             try clear c18
             try clear hcv21
             try clear c25
             try clear c25b0
             try clear c31
             try clear c31b0
             try clear c31b1
             try clear c32
             try clear c32b0
             try clear c32b1
             try clear hcz24_0
             try clear hcz24_1
             try clear hcz29_0
             try clear hcz29_1
             try clear hfz24_0
             try clear hfz24_1
             try clear hfz29_0
             try clear hfz29_1
             try clear hx13_0
             try clear p1
             try clear p13
             try clear p2
             try clear p6
             try clear q1
             try clear q13
             obtain ⟨x11_3, x12_3, rfl, HA, HK3, HO_8, HO_11, HO_227000, BK226, HB⟩ := hrel
             cases gk with
             | zero => exact absurd HA.out (by simp [furrowlaw2_LineLong.l1])
             | succ k3 =>
              have H := HA.out
              clear HA
              simp only [furrowlaw2_LineLong.l1] at H
              by_cases c35 : x12_3 < (x11_3.length : Int)
              ·rw [if_pos c35] at H
               have c35b0 : decide (x12_3 < (x11_3.length : Int)) = true := decide_eq_true c35
               clear c35
               by_cases c36 : 0 ≤ x12_3
               ·rw [if_pos c36] at H
                have c36b0 : decide (0 ≤ x12_3) = true := decide_eq_true c36
                clear c36
                obtain ⟨y234, hy234⟩ : ∃ y_ : List Int, y_ = (x11_3.set (x12_3 : Int).toNat 10) := ⟨_, rfl⟩
                replace H : (furrowlaw2_LineLong.l1 k3 t221 (wrap64 (Int.tmod a1 8)) y234 (wrap64 (x12_3 + 1)) x227000_18 x227001_18) = some true := by first | (rw [hy234]; with_reducible exact H) | (have H2_ := (Option.bind_some _ _).symm.trans H; rw [hy234]; with_reducible exact H2_) | (have H2_ := (Option.bind_some _ _).symm.trans H; with_reducible exact H2_) | with_reducible exact H | (rw [hy234]; exact H) | exact H
                have Ny234 := mk0 hy234
                clear hy234
                have H' := mk0 H
                clear H
                (first | (have EHO_8 := cmpV_no HO_8.out (by with_reducible assumption)) | (have EHO_8 := cmpV_yes HO_8.out (by with_reducible assumption)) | skip)
                obtain ⟨Ao38, co38, eo38⟩ := Kd.R_slice HO_11.out
                subst eo38
                have p37 : 0 ≤ (x12_3 : Int) := of_decide_eq_true (by first | (with_reducible assumption) | assumption)
                have q37 : (x12_3 : Int) < ((x11_3.length : Int) : Int) := of_decide_eq_true (by first | (with_reducible assumption) | assumption)
                obtain ⟨go37, co37, eo37, gb37, gl37, cl37, HG37⟩ := Kd.R_form HO_11.out (by omega)
                (first | cases eo37 | (injection eo37 with ea_ en_ ec_; (first | subst ea_ | (injection ea_ with ea_; subst ea_)); subst ec_; clear en_))
                have GB37 := mk0 gb37
                have GG37 := mk0 HG37
                clear gb37 gl37 HG37
                obtain ⟨hx37_0, hf37_0⟩ := Kd.R_celln 0 HO_11.out (x12_3 : Int) p37 q37
                replace p37 := eq_true p37
                replace q37 := eq_true q37
                have HP39 := Kd.R_putg HO_11.out (x12_3 : Int) 10
                go_wp2_with (first | ((with_reducible refine gate_store (t := 5) (p := 57) rfl ?_); refine store_event (t := 5) (p := 57) (v := ?vo_w40) (w1 := (wr.setCell ⟨go37, (x12_3 : Int).toNat, none⟩ (.int .u8 10))) ?hg ?ho ?hn ?hr ?_; (case ho => rfl); (case hg => rfl); (case hn => rfl); (case hr => first | (go_simp; done) | (go_simp; rfl)); intro w40 hw; have hg : wr.grownBy w40 (some go37) := (by rw [hw]; exact HP39.2); have hp_ : Kd.R (Kd.int .u8) 5 w40 w.heap.size (fun _ => True) (.slice (some ⟨go37, 0, none⟩) x11_3.length co38) y234 := (by rw [hw, Ny234.out]; exact HP39.1); clear HP39; have n0_ := mk0 (Kd.R_over' (v := (.slice (some ⟨go37, 0, none⟩) x11_3.length co38)) (uR HO_8.out) (Kd.R_typed HO_11.out) (by decide) hg); have n1_ := mk0 (hp_); have n2_ := mk0 (Kd.R_over' (v := (.slice (some ⟨go37, 0, none⟩) x11_3.length co38)) (uR HO_227000.out) (Kd.R_typed HO_11.out) (by decide) hg); have n3_ := mk0 (blk_grown (g := gb226) (o := .cells #[u227000, .int .i64 x227001_18] 36 (0, 0)) (uB BK226.out) hg (Kd.R_ne HO_11.out BK226.out (by decide))); have n4_ := mk0 ((by rw [hw]; exact below_set (HB.out) GB37.out : Below w.heap.size w w40)); clear HO_8; clear HO_11; clear HO_227000; clear BK226; clear HB; have HO_8 := n0_; have HO_11 := n1_; have HO_227000 := n2_; have BK226 := n3_; have HB := n4_; clear n0_ n1_ n2_ n3_ n4_; clear hg hw hp_))
                go_roundg k3
                case measure => have := HK1.out; have := HJ18.out; have := HK3.out; omega
                case rel => exact ⟨(y234), (wrap64 (x12_3 + 1)), (by first | rfl | (simp; done) | (simp [*]; done) | (simp [bne_nil_, beq_nil_]; done)), H', ⟨by have := HK1.out; have := HJ18.out; have := HK3.out; omega⟩, ⟨uR HO_8.out⟩, ⟨uR HO_11.out⟩, ⟨uR HO_227000.out⟩, ⟨uB BK226.out⟩, ⟨by repeat (first | (with_reducible first | exact HB.out | apply bA | apply bN | apply bD | refine bS ?_ (by assumption)) | exact HB.out)⟩⟩
               ·rw [if_neg c36] at H
                exact absurd H (by simp)
              ·rw [if_neg c35] at H
               have c35b0 : decide (x12_3 < (x11_3.length : Int)) = false := decide_eq_false c35
               clear c35
               replace H := Option.bind_eq_some_iff.mp H
               obtain ⟨⟨t235, t236⟩, A410, H⟩ := H
               replace H : (if (wrap64 (Int.tmod a1 8)) > 4 then ((furrowlaw2_Tells.f t221 x227000_18 x227001_18).bind fun t241 => (if t241 = true then ((furrowref4_At.f (⟨#[116, 101, 120, 116]⟩ : ByteArray) 0 4).bind fun bt242 => ((furrowlaw2_Tells.f t236 bt242.1 bt242.2).bind fun t246 => (if t246 = true then (some ((t235.length : Int) == 0)) else (some false)))) else (some false))) else ((furrowlaw2_Tells.f t221 x227000_18 x227001_18).bind fun t247 => (if t247 = true then (if (t236.length : Int) = 0 then (some ((t235.length : Int) == (x11_3.length : Int))) else (some false)) else (some false)))) = some true := H
               have A41 := mk0 A410
               clear A410
               by_cases c42 : (wrap64 (Int.tmod a1 8)) > 4
               ·rw [if_pos c42] at H
                have c42b0 : decide (4 < (wrap64 (Int.tmod a1 8))) = true := decide_eq_true c42
                clear c42
                replace H := Option.bind_eq_some_iff.mp H
                obtain ⟨t241, A430, H⟩ := H
                replace H : (if t241 = true then ((furrowref4_At.f (⟨#[116, 101, 120, 116]⟩ : ByteArray) 0 4).bind fun bt242 => ((furrowlaw2_Tells.f t236 bt242.1 bt242.2).bind fun t246 => (if t246 = true then (some ((t235.length : Int) == 0)) else (some false)))) else (some false)) = some true := H
                have A43 := mk0 A430
                clear A430
                by_cases c44 : t241 = true
                ·subst c44
                 have H1 : ((furrowref4_At.f (⟨#[116, 101, 120, 116]⟩ : ByteArray) 0 4).bind fun bt242 => ((furrowlaw2_Tells.f t236 bt242.1 bt242.2).bind fun t246 => (if t246 = true then (some ((t235.length : Int) == 0)) else (some false)))) = some true := by rw [if_pos rfl] at H; first | done | exact H
                 clear H
                 have H := H1
                 clear H1
                 replace H := Option.bind_eq_some_iff.mp H
                 obtain ⟨⟨t242, t245⟩, A450, H⟩ := H
                 replace H : ((furrowlaw2_Tells.f t236 t242 t245).bind fun t246 => (if t246 = true then (some ((t235.length : Int) == 0)) else (some false))) = some true := H
                 have A45 := mk0 A450
                 clear A450
                 replace H := Option.bind_eq_some_iff.mp H
                 obtain ⟨t246, A460, H⟩ := H
                 replace H : (if t246 = true then (some ((t235.length : Int) == 0)) else (some false)) = some true := H
                 have A46 := mk0 A460
                 clear A460
                 by_cases c47 : t246 = true
                 ·subst c47
                  have H1 : (some ((t235.length : Int) == 0)) = some true := by rw [if_pos rfl] at H; first | done | exact H
                  clear H
                  have H := H1
                  clear H1
                  have HT := mk0 (Option.some.inj H)
                  clear H
                  (first | (have EHO_8 := cmpV_no HO_8.out (by with_reducible assumption)) | (have EHO_8 := cmpV_yes HO_8.out (by with_reducible assumption)) | skip)
                  obtain ⟨Ao48, co48, eo48⟩ := Kd.R_slice HO_11.out
                  subst eo48
                  have hcv49 := own_string (P := Tryd.prog) Tryd.underlying41 Tryd.underlying5 Tryd.underlying9 (Kd.own_of_R HO_11.out)
                  go_wp2_with (first | ((with_reducible refine gate_callee (f := 13) rfl ?_); refine goesL_ (some 61) rfl rfl Tryd.func13 (by kernel_rfl) rfl #[.string (strOfNums x11_3)] rfl (by (try simp only [List.map_toArray, List.map_cons, List.map_nil]); first | done | rfl | (simp only [List.length_drop, List.length_take]; rfl)) ?_; (with_reducible refine (line_Split.calls (strOfNums x11_3) t235 t236 _ A41.out).mono ?_); rintro e w50 ⟨v237, v239, rfl, ho0, ho1, hb⟩; refine ⟨_, rfl, ?_⟩; have n0_ := mk0 (Kd.R_elder' (uR HO_8.out) (Kd.R_base ho1) hb); have n1_ := mk0 (Kd.R_below (uR HO_11.out) hb); have n2_ := mk0 (Kd.R_below (uR HO_227000.out) hb); have n3_ := mk0 (Kd.R_lower ho0 (below_size (by repeat (first | (with_reducible first | exact HB.out | apply bA | apply bN | apply bD | refine bS ?_ (by assumption)) | exact HB.out)))); have n4_ := mk0 (Kd.R_lower (Kd.R_new' ho1 (Kd.R_lt (uR HO_8.out))) (below_size (by repeat (first | (with_reducible first | exact HB.out | apply bA | apply bN | apply bD | refine bS ?_ (by assumption)) | exact HB.out)))); have n5_ := mk0 (blk_below (g := gb226) (o := .cells #[u227000, .int .i64 x227001_18] 36 (0, 0)) (uB BK226.out) hb); have n6_ := mk0 (below_step (by repeat (first | (with_reducible first | exact HB.out | apply bA | apply bN | apply bD | refine bS ?_ (by assumption)) | exact HB.out)) hb); clear HO_8; clear HO_11; clear HO_227000; clear BK226; clear HB; have HO_8 := n0_; have HO_11 := n1_; have HO_227000 := n2_; have HO238 := n3_; have HO240 := n4_; have BK226 := n5_; have HB := n6_; clear n0_ n1_ n2_ n3_ n4_ n5_ n6_; (try clear hb); (try clear hb2); (try clear hk); (try clear hi); (try clear ho0); (try clear ho1); (first | (have EHO240 := cmpV_no HO240.out (by with_reducible assumption)) | (have EHO240 := cmpV_yes HO240.out (by with_reducible assumption)) | skip); have hcz51_0 : w50.cell? ⟨gb226, 0, none⟩ = some (u227000) := (blk_cell BK226.out 0).trans rfl; have hcz51_1 : w50.cell? ⟨gb226, 1, none⟩ = some (.int .i64 x227001_18) := (blk_cell BK226.out 1).trans rfl; have hfz51_0 := blk_frozen BK226.out 0; have hfz51_1 := blk_frozen BK226.out 1; obtain ⟨Ao52, co52, eo52⟩ := Kd.R_slice HO_8.out; subst eo52; obtain ⟨Ao53, co53, eo53⟩ := Kd.R_slice HO_227000.out; subst eo53) | ((with_reducible refine gate_callee (f := 17) rfl ?_); refine goesL_ (some 68) rfl rfl Tryd.func17 (by kernel_rfl) rfl #[errV (.slice Ao52 t221.length co52), .agg #[.slice Ao53 x227000_18.length co53, .int .i64 x227001_18]] rfl (by (try simp only [List.map_toArray, List.map_cons, List.map_nil]); first | done | rfl | (simp only [List.length_drop, List.length_take]; rfl)) ?_; (with_reducible refine (furrowlaw2_Tells.calls _ _ t221 _ _ x227000_18 x227001_18 true _ ?side1 ?side2 ?side3 ?side4 ?side5 A43.out).mono ?_); (case side1 => repeat (first | exact (Kd.R_reads' HO_8.out).2.2 | (with_reducible refine Kd.C_alloc ?_ _) | (with_reducible refine Kd.C_drewN ?_ _) | (with_reducible refine Kd.C_drew ?_))); (case side2 => exact (Kd.R_reads' HO_8.out).2.1); (case side3 => repeat (first | exact (Kd.R_reads' HO_227000.out).2.2 | (with_reducible refine Kd.C_alloc ?_ _) | (with_reducible refine Kd.C_drewN ?_ _) | (with_reducible refine Kd.C_drew ?_))); (case side4 => exact (Kd.R_reads' HO_227000.out).2.1); (case side5 => exact Glob.below HG.out (by repeat (first | (with_reducible first | exact HB.out | apply bA | apply bN | apply bD | refine bS ?_ (by assumption)) | exact HB.out))); rintro e w54 ⟨rfl, hb⟩; refine ⟨_, rfl, ?_⟩; have n0_ := mk0 (Kd.R_below (uR HO_8.out) hb); have n1_ := mk0 (Kd.R_below (uR HO_11.out) hb); have n2_ := mk0 (Kd.R_below (uR HO_227000.out) hb); have n3_ := mk0 (Kd.R_below (uR HO238.out) hb); have n4_ := mk0 (Kd.R_below (uR HO240.out) hb); have n5_ := mk0 (blk_below (g := gb226) (o := .cells #[.slice Ao53 x227000_18.length co53, .int .i64 x227001_18] 36 (0, 0)) (uB BK226.out) hb); have n6_ := mk0 (below_step (by repeat (first | (with_reducible first | exact HB.out | apply bA | apply bN | apply bD | refine bS ?_ (by assumption)) | exact HB.out)) hb); clear HO_8; clear HO_11; clear HO_227000; clear HO238; clear HO240; clear BK226; clear HB; have HO_8 := n0_; have HO_11 := n1_; have HO_227000 := n2_; have HO238 := n3_; have HO240 := n4_; have BK226 := n5_; have HB := n6_; clear n0_ n1_ n2_ n3_ n4_ n5_ n6_; (try clear hb); (try clear hb2); (try clear hk); (try clear hi)) | (go_at_call 18; (with_reducible refine (furrowref4_At.calls (⟨#[116, 101, 120, 116]⟩ : ByteArray) 0 4 t242 t245 _ A45.out).mono ?_); rintro e w55 ⟨v243, rfl, ho0, hb⟩; have n0_ := mk0 (Kd.R_below (uR HO_8.out) hb); have n1_ := mk0 (Kd.R_below (uR HO_11.out) hb); have n2_ := mk0 (Kd.R_elder' (uR HO_227000.out) (Kd.R_base ho0) hb); have n3_ := mk0 (Kd.R_below (uR HO238.out) hb); have n4_ := mk0 (Kd.R_below (uR HO240.out) hb); have n5_ := mk0 (Kd.R_lower (Kd.R_new' ho0 (Kd.R_lt (uR HO_227000.out))) (below_size (by repeat (first | (with_reducible first | exact HB.out | apply bA | apply bN | apply bD | refine bS ?_ (by assumption)) | exact HB.out)))); have n6_ := mk0 (blk_below (g := gb226) (o := .cells #[.slice Ao53 x227000_18.length co53, .int .i64 x227001_18] 36 (0, 0)) (uB BK226.out) hb); have n7_ := mk0 (below_step (by repeat (first | (with_reducible first | exact HB.out | apply bA | apply bN | apply bD | refine bS ?_ (by assumption)) | exact HB.out)) hb); clear HO_8; clear HO_11; clear HO_227000; clear HO238; clear HO240; clear BK226; clear HB; have HO_8 := n0_; have HO_11 := n1_; have HO_227000 := n2_; have HO238 := n3_; have HO240 := n4_; have HO244 := n5_; have BK226 := n6_; have HB := n7_; clear n0_ n1_ n2_ n3_ n4_ n5_ n6_ n7_; (try clear hb); (try clear hb2); (try clear hk); (try clear hi); (try clear ho0); obtain ⟨Ao56, co56, eo56⟩ := Kd.R_slice HO240.out; subst eo56; obtain ⟨Ao57, co57, eo57⟩ := Kd.R_slice HO244.out; subst eo57) | (go_at_call 17; (with_reducible refine (furrowlaw2_Tells.calls _ _ t236 _ _ t242 t245 true _ ?side1 ?side2 ?side3 ?side4 ?side5 A46.out).mono ?_); (case side1 => repeat (first | exact (Kd.R_reads' HO240.out).2.2 | (with_reducible refine Kd.C_alloc ?_ _) | (with_reducible refine Kd.C_drewN ?_ _) | (with_reducible refine Kd.C_drew ?_))); (case side2 => exact (Kd.R_reads' HO240.out).2.1); (case side3 => repeat (first | exact (Kd.R_reads' HO244.out).2.2 | (with_reducible refine Kd.C_alloc ?_ _) | (with_reducible refine Kd.C_drewN ?_ _) | (with_reducible refine Kd.C_drew ?_))); (case side4 => exact (Kd.R_reads' HO244.out).2.1); (case side5 => exact Glob.below HG.out (by repeat (first | (with_reducible first | exact HB.out | apply bA | apply bN | apply bD | refine bS ?_ (by assumption)) | exact HB.out))); rintro e w58 ⟨rfl, hb⟩; have n0_ := mk0 (Kd.R_below (uR HO_8.out) hb); have n1_ := mk0 (Kd.R_below (uR HO_11.out) hb); have n2_ := mk0 (Kd.R_below (uR HO_227000.out) hb); have n3_ := mk0 (Kd.R_below (uR HO238.out) hb); have n4_ := mk0 (Kd.R_below (uR HO240.out) hb); have n5_ := mk0 (Kd.R_below (uR HO244.out) hb); have n6_ := mk0 (blk_below (g := gb226) (o := .cells #[.slice Ao53 x227000_18.length co53, .int .i64 x227001_18] 36 (0, 0)) (uB BK226.out) hb); have n7_ := mk0 (below_step (by repeat (first | (with_reducible first | exact HB.out | apply bA | apply bN | apply bD | refine bS ?_ (by assumption)) | exact HB.out)) hb); clear HO_8; clear HO_11; clear HO_227000; clear HO238; clear HO240; clear HO244; clear BK226; clear HB; have HO_8 := n0_; have HO_11 := n1_; have HO_227000 := n2_; have HO238 := n3_; have HO240 := n4_; have HO244 := n5_; have BK226 := n6_; have HB := n7_; clear n0_ n1_ n2_ n3_ n4_ n5_ n6_ n7_; (try clear hb); (try clear hb2); (try clear hk); (try clear hi); obtain ⟨Ao59, co59, eo59⟩ := Kd.R_slice HO238.out; subst eo59))
                  go_ret
                  exact ⟨by first | rfl | (simp [errW_none, errW_some] <;> rfl) | (simp only [← hji5, ← hji30]; first | rfl | (simp [errW_none, errW_some] <;> rfl)) | (exact congrArg (fun b_ => Ending.returned (Value.bool b_)) HT.out) | (rw [show _ = _ from HT.out]) | (simp [HT.out]; done) | (simp [show _ = _ from HT.out]; done) | (simp [*, errW_none, errW_some] <;> rfl), by repeat (first | (with_reducible first | exact HB.out | apply bA | apply bN | apply bD | refine bS ?_ (by assumption)) | exact HB.out)⟩
                 ·replace c47 := Bool.eq_false_iff.mpr c47
                  subst c47
                  have H1 : (some false) = some true := by rw [if_neg (show ¬ (false = true) by decide)] at H; first | done | exact H
                  clear H
                  have H := H1
                  clear H1
                  exact absurd H (by simp)
                ·replace c44 := Bool.eq_false_iff.mpr c44
                 subst c44
                 have H1 : (some false) = some true := by rw [if_neg (show ¬ (false = true) by decide)] at H; first | done | exact H
                 clear H
                 have H := H1
                 clear H1
                 exact absurd H (by simp)
               ·rw [if_neg c42] at H
                have c42b0 : decide (4 < (wrap64 (Int.tmod a1 8))) = false := decide_eq_false c42
                clear c42
                replace H := Option.bind_eq_some_iff.mp H
                obtain ⟨t247, A600, H⟩ := H
                replace H : (if t247 = true then (if (t236.length : Int) = 0 then (some ((t235.length : Int) == (x11_3.length : Int))) else (some false)) else (some false)) = some true := H
                have A60 := mk0 A600
                clear A600
                by_cases c61 : t247 = true
                ·subst c61
                 have H1 : (if (t236.length : Int) = 0 then (some ((t235.length : Int) == (x11_3.length : Int))) else (some false)) = some true := by rw [if_pos rfl] at H; first | done | exact H
                 clear H
                 have H := H1
                 clear H1
                 by_cases c62 : (t236.length : Int) = 0
                 ·rw [if_pos c62] at H
                  have c62b0 : ((t236.length : Int) == 0) = true := beq_iff_eq.mpr c62
                  have c62b1 : ((t236.length : Int) != 0) = false := bne_eq_false_iff_eq.mpr c62
                  clear c62
                  have HT := mk0 (Option.some.inj H)
                  clear H
                  (first | (have EHO_8 := cmpV_no HO_8.out (by with_reducible assumption)) | (have EHO_8 := cmpV_yes HO_8.out (by with_reducible assumption)) | skip)
                  obtain ⟨Ao63, co63, eo63⟩ := Kd.R_slice HO_11.out
                  subst eo63
                  have hcv64 := own_string (P := Tryd.prog) Tryd.underlying41 Tryd.underlying5 Tryd.underlying9 (Kd.own_of_R HO_11.out)
                  go_wp2_with (first | ((with_reducible refine gate_callee (f := 13) rfl ?_); refine goesL_ (some 61) rfl rfl Tryd.func13 (by kernel_rfl) rfl #[.string (strOfNums x11_3)] rfl (by (try simp only [List.map_toArray, List.map_cons, List.map_nil]); first | done | rfl | (simp only [List.length_drop, List.length_take]; rfl)) ?_; (with_reducible refine (line_Split.calls (strOfNums x11_3) t235 t236 _ A41.out).mono ?_); rintro e w65 ⟨v237, v239, rfl, ho0, ho1, hb⟩; refine ⟨_, rfl, ?_⟩; have n0_ := mk0 (Kd.R_elder' (uR HO_8.out) (Kd.R_base ho1) hb); have n1_ := mk0 (Kd.R_below (uR HO_11.out) hb); have n2_ := mk0 (Kd.R_below (uR HO_227000.out) hb); have n3_ := mk0 (Kd.R_lower ho0 (below_size (by repeat (first | (with_reducible first | exact HB.out | apply bA | apply bN | apply bD | refine bS ?_ (by assumption)) | exact HB.out)))); have n4_ := mk0 (Kd.R_lower (Kd.R_new' ho1 (Kd.R_lt (uR HO_8.out))) (below_size (by repeat (first | (with_reducible first | exact HB.out | apply bA | apply bN | apply bD | refine bS ?_ (by assumption)) | exact HB.out)))); have n5_ := mk0 (blk_below (g := gb226) (o := .cells #[u227000, .int .i64 x227001_18] 36 (0, 0)) (uB BK226.out) hb); have n6_ := mk0 (below_step (by repeat (first | (with_reducible first | exact HB.out | apply bA | apply bN | apply bD | refine bS ?_ (by assumption)) | exact HB.out)) hb); clear HO_8; clear HO_11; clear HO_227000; clear BK226; clear HB; have HO_8 := n0_; have HO_11 := n1_; have HO_227000 := n2_; have HO238 := n3_; have HO240 := n4_; have BK226 := n5_; have HB := n6_; clear n0_ n1_ n2_ n3_ n4_ n5_ n6_; (try clear hb); (try clear hb2); (try clear hk); (try clear hi); (try clear ho0); (try clear ho1); (first | (have EHO240 := cmpV_no HO240.out (by with_reducible assumption)) | (have EHO240 := cmpV_yes HO240.out (by with_reducible assumption)) | skip); have hcz66_0 : w65.cell? ⟨gb226, 0, none⟩ = some (u227000) := (blk_cell BK226.out 0).trans rfl; have hcz66_1 : w65.cell? ⟨gb226, 1, none⟩ = some (.int .i64 x227001_18) := (blk_cell BK226.out 1).trans rfl; have hfz66_0 := blk_frozen BK226.out 0; have hfz66_1 := blk_frozen BK226.out 1; obtain ⟨Ao67, co67, eo67⟩ := Kd.R_slice HO_8.out; subst eo67; obtain ⟨Ao68, co68, eo68⟩ := Kd.R_slice HO_227000.out; subst eo68) | ((with_reducible refine gate_callee (f := 17) rfl ?_); refine goesL_ (some 81) rfl rfl Tryd.func17 (by kernel_rfl) rfl #[errV (.slice Ao67 t221.length co67), .agg #[.slice Ao68 x227000_18.length co68, .int .i64 x227001_18]] rfl (by (try simp only [List.map_toArray, List.map_cons, List.map_nil]); first | done | rfl | (simp only [List.length_drop, List.length_take]; rfl)) ?_; (with_reducible refine (furrowlaw2_Tells.calls _ _ t221 _ _ x227000_18 x227001_18 true _ ?side1 ?side2 ?side3 ?side4 ?side5 A60.out).mono ?_); (case side1 => repeat (first | exact (Kd.R_reads' HO_8.out).2.2 | (with_reducible refine Kd.C_alloc ?_ _) | (with_reducible refine Kd.C_drewN ?_ _) | (with_reducible refine Kd.C_drew ?_))); (case side2 => exact (Kd.R_reads' HO_8.out).2.1); (case side3 => repeat (first | exact (Kd.R_reads' HO_227000.out).2.2 | (with_reducible refine Kd.C_alloc ?_ _) | (with_reducible refine Kd.C_drewN ?_ _) | (with_reducible refine Kd.C_drew ?_))); (case side4 => exact (Kd.R_reads' HO_227000.out).2.1); (case side5 => exact Glob.below HG.out (by repeat (first | (with_reducible first | exact HB.out | apply bA | apply bN | apply bD | refine bS ?_ (by assumption)) | exact HB.out))); rintro e w69 ⟨rfl, hb⟩; refine ⟨_, rfl, ?_⟩; have n0_ := mk0 (Kd.R_below (uR HO_8.out) hb); have n1_ := mk0 (Kd.R_below (uR HO_11.out) hb); have n2_ := mk0 (Kd.R_below (uR HO_227000.out) hb); have n3_ := mk0 (Kd.R_below (uR HO238.out) hb); have n4_ := mk0 (Kd.R_below (uR HO240.out) hb); have n5_ := mk0 (blk_below (g := gb226) (o := .cells #[.slice Ao68 x227000_18.length co68, .int .i64 x227001_18] 36 (0, 0)) (uB BK226.out) hb); have n6_ := mk0 (below_step (by repeat (first | (with_reducible first | exact HB.out | apply bA | apply bN | apply bD | refine bS ?_ (by assumption)) | exact HB.out)) hb); clear HO_8; clear HO_11; clear HO_227000; clear HO238; clear HO240; clear BK226; clear HB; have HO_8 := n0_; have HO_11 := n1_; have HO_227000 := n2_; have HO238 := n3_; have HO240 := n4_; have BK226 := n5_; have HB := n6_; clear n0_ n1_ n2_ n3_ n4_ n5_ n6_; (try clear hb); (try clear hb2); (try clear hk); (try clear hi); obtain ⟨Ao70, co70, eo70⟩ := Kd.R_slice HO238.out; subst eo70))
                  go_ret
                  exact ⟨by first | rfl | (simp [errW_none, errW_some] <;> rfl) | (simp only [← hji5, ← hji30]; first | rfl | (simp [errW_none, errW_some] <;> rfl)) | (exact congrArg (fun b_ => Ending.returned (Value.bool b_)) HT.out) | (rw [show _ = _ from HT.out]) | (simp [HT.out]; done) | (simp [show _ = _ from HT.out]; done) | (simp [*, errW_none, errW_some] <;> rfl), by repeat (first | (with_reducible first | exact HB.out | apply bA | apply bN | apply bD | refine bS ?_ (by assumption)) | exact HB.out)⟩
                 ·rw [if_neg c62] at H
                  have c62b0 : ((t236.length : Int) == 0) = false := beq_eq_false_iff_ne.mpr c62
                  have c62b1 : ((t236.length : Int) != 0) = true := bne_iff_ne.mpr c62
                  have c62b2 : ¬ (t236 = []) := fun h_ => c62 (by rw [h_]; rfl)
                  exact absurd H (by simp)
                ·replace c61 := Bool.eq_false_iff.mpr c61
                 subst c61
                 have H1 : (some false) = some true := by rw [if_neg (show ¬ (false = true) by decide)] at H; first | done | exact H
                 clear H
                 have H := H1
                 clear H1
                 exact absurd H (by simp)
           ·rw [if_neg c32] at H
            exact absurd H (by simp)
          ·rw [if_neg c31] at H
           exact absurd H (by simp)
       ·rw [if_neg c17] at H
        exact absurd H (by simp)
   ·rw [if_neg c7] at H
    exact absurd H (by simp)
  ·rw [if_neg c6] at H
   exact absurd H (by simp)
 ·replace c4 := Bool.eq_false_iff.mpr c4
  subst c4
  have H1 : (some false) = some true := by rw [if_neg (show ¬ (false = true) by decide)] at H; first | done | exact H
  clear H
  have H := H1
  clear H1
  exact absurd H (by simp)

/-- THE ONE PURE STATEMENT of furrowlaw2_LineLong: yours. -/
def furrowlaw2_LineLong.Pure : Prop := ∀ (a0 : Int) (a1 : Int), (Lit.int .u8 a0).wf = true → (Lit.int .u16 a1).wf = true → ∃ k, furrowlaw2_LineLong.f k a0 a1 = some true
theorem furrowlaw2_LineLong.walk (P : furrowlaw2_LineLong.Pure) (a0 : Int) (a1 : Int) (w : World) (w0 : (Lit.int .u8 a0).wf = true) (w1 : (Lit.int .u16 a1).wf = true) (hG : Glob w) :
  Calls Tryd.prog 6 #[.int .u8 a0, .int .u16 a1] w fun e w' => e = .returned (.bool true) ∧ Below w.heap.size w w' := by
 obtain ⟨k, h⟩ := P a0 a1 w0 w1
 refine (furrowlaw2_LineLong.calls k a0 a1  w hG h).mono ?_
 rintro e w' ⟨rfl, hd⟩
 exact ⟨rfl, hd⟩

end Go.Proofs.YtnecoebdmjkblaaDoor.X
