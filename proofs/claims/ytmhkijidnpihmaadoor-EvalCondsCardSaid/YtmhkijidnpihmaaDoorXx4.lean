-- PRINTED by print.py (a twelfth state) out of the translation. Not trusted: Lean checks it.
import Derived.Test.YtmhkijidnpihmaaDoorXx0
namespace Go.Proofs.YtmhkijidnpihmaaDoor.X
open Go.Proofs.YtmhkijidnpihmaaDoor.Flt Go.Proofs.YtmhkijidnpihmaaDoor.H Go.RowKit Go.Proofs.YtmhkijidnpihmaaDoorW.PrintWords Go.Proofs.YtmhkijidnpihmaaDoorW.PrintLast Go.Proofs.YtmhkijidnpihmaaDoorW.PrintMore
attribute [local go_sem] max2_int min2_int max_two min_two max_three min_three max_four min_four   -- for this text's walks alone
set_option linter.unusedVariables false
set_option linter.unusedSimpArgs false

-- NOT PRINTED: function 30 (reflectlite_TypeOf)

-- NOT PRINTED: function 31 (errors_is)

-- NOT PRINTED: function 26 (errors_Is)

-- NOT PRINTED: function 32 (reflectlite_ValueOf)

-- NOT PRINTED: function 33 (reflectlite_Value_Type)

-- NOT PRINTED: function 34 (reflectlite_Value_IsNil)

-- NOT PRINTED: function 42 (reflectlite_Value_Elem)

-- NOT PRINTED: function 43 (reflectlite_Value_Set)

-- NOT PRINTED: function 35 (errors_as)

-- NOT PRINTED: function 27 (errors_As)

/-! ### furrowref4_At: function 21 -/
def furrowref4_At.f (a0 : ByteArray) (a1 : Int) (a2 : Int) : Option ((List (S83)) × Int) := some ((([(⟨a0, a1⟩ : S83)] : List (S83))), a2)
set_option maxHeartbeats 8000000 in
set_option maxRecDepth 100000 in
theorem furrowref4_At.calls (a0 : ByteArray) (a1 : Int) (a2 : Int) (r1 : List (S83)) (r2 : Int) (w : World) (h : furrowref4_At.f a0 a1 a2 = some (r1, r2)) :
  Calls Tryd.prog 21 #[.string a0, .int .i64 a1, .int .i64 a2] w fun e w' => ∃ v0_ : Value, e = .returned (.agg #[v0_, .int .i64 r2]) ∧ Kd.R k83 83 w' w.heap.size (fun _ => True) v0_ r1 ∧ Below w.heap.size w w' := by
 have hu50 := Tryd.underlying50
 have hu83 := Tryd.underlying83
 have HB := mk0 (Below.refl w.heap.size w)
 have H : (some ((([(⟨a0, a1⟩ : S83)] : List (S83))), a2)) = some (r1, r2) := h
 clear h
 obtain ⟨y164, hy164⟩ : ∃ y_ : List (S83), y_ = (([(⟨a0, a1⟩ : S83)] : List (S83))) := ⟨_, rfl⟩
 replace H : (some (y164, a2)) = some (r1, r2) := by first | (rw [hy164]; with_reducible exact H) | (have H2_ := (Option.bind_some _ _).symm.trans H; rw [hy164]; with_reducible exact H2_) | (have H2_ := (Option.bind_some _ _).symm.trans H; with_reducible exact H2_) | with_reducible exact H | (rw [hy164]; exact H) | exact H
 have Ny164 := mk0 hy164
 clear hy164
 simp only [Option.some.injEq, Prod.mk.injEq] at H
 obtain ⟨rfl, rfl⟩ := H
 go_enter Tryd.func21, Tryd.ntmps21
 go_wp2_with (first | ((with_reducible refine gate_dst (N := 6) rfl ?_); refine box_event ?hg (N := 6) ?hd (cs := #[.slice none 0 0, .int .i64 0]) (t := 50) ?hr ?_; (case hd => rfl); (case hg => rfl); (case hr => first | (go_simp; done) | (go_simp; rfl)); intro gb163 hg w4 hbox hb; have n0_ := mk0 (below_step (uL HB.out) hb); have n1_ := mk0 (hbox); have n2_ := mk0 ((by rw [hg]; exact (below_size (uL HB.out)) : w.heap.size ≤ gb163)); have n3_ := mk0 ((by rw [hg]; exact (below_size (uL HB.out)) : w.heap.size ≤ gb163)); clear HB; have HB := n0_; have BK163 := n1_; have GW163 := n2_; have GE163 := n3_; clear n0_ n1_ n2_ n3_; clear hb hbox hg) | ((with_reducible refine gate_dst (N := 10) rfl ?_); refine Kd.R_lit k83 _ 83 ?hg (N := 10) ?hd (xs := ([(⟨a0, a1⟩ : S83)] : List (S83))) (inner := [.string a0, .int .i64 a1]) (ok := fun _ => True) (okp := fun _ => True) ?hr ?hp (fun _ hk => hk) trivial (Below.refl _ _) (Nat.le_refl _) (by simp) ?_; (case hd => rfl); (case hg => rfl); (case hr => first | (go_simp; done) | (go_simp; rfl)); (case hp => exact (Reps.c2 (show Kd.M k83 _ _ _ (⟨a0, a1⟩ : S83) [.string a0, .int .i64 a1] from (k83_mkM _ _ _ (⟨a0, a1⟩ : S83) )) (Reps.none _ _))); intro v165 w5 ho6 hb hg_ hnew_; clear hg_ hnew_; (first | rw [← Ny164.out] at ho6 | (simp only [Int.reduceToNat] at ho6; rw [← Ny164.out] at ho6)); have n0_ := mk0 (Kd.R_lower ho6 (below_size (by repeat (first | (with_reducible first | exact HB.out | apply bA | apply bN | apply bD | refine bS ?_ (by assumption)) | exact HB.out)))); have n1_ := mk0 (blk_below (g := gb163) (o := .cells #[.slice none 0 0, .int .i64 0] 50 (0, 0)) (uB BK163.out) hb); have n2_ := mk0 (below_step (by repeat (first | (with_reducible first | exact HB.out | apply bA | apply bN | apply bD | refine bS ?_ (by assumption)) | exact HB.out)) hb); clear BK163; clear HB; have HO166 := n0_; have BK163 := n1_; have HB := n2_; clear n0_ n1_ n2_; clear hb ho6; obtain ⟨Ao7, co7, eo7⟩ := Kd.R_slice HO166.out; subst eo7; have hcz8_0 : w5.cell? ⟨gb163, 0, none⟩ = some (.slice none 0 0) := (blk_cell BK163.out 0).trans rfl; have hcz8_1 : w5.cell? ⟨gb163, 1, none⟩ = some (.int .i64 0) := (blk_cell BK163.out 1).trans rfl; have hfz8_0 := blk_frozen BK163.out 0; have hfz8_1 := blk_frozen BK163.out 1))
 refine bodyPost_ret (results_cell_row rfl _ _ gb163 50 #[.slice Ao7 y164.length co7, .int .i64 a2] (0, 0) _ rfl (by (with_reducible repeat (first | refine blk_drewN ?_ _ | refine blk_drew ?_ | refine blk_alloc ?_ _)); refine blk_put (cs := #[.slice Ao7 y164.length co7, .int .i64 0]) ?_ 1 _ rfl; (with_reducible repeat (first | refine blk_drewN ?_ _ | refine blk_drew ?_ | refine blk_alloc ?_ _)); refine blk_put (cs := #[.slice none 0 0, .int .i64 0]) ?_ 0 _ rfl; (with_reducible repeat (first | refine blk_drewN ?_ _ | refine blk_drew ?_ | refine blk_alloc ?_ _)); exact BK163.out) Tryd.underlying50 rfl (by kernel_rfl)) rfl ?_
 exact ⟨_, by first | rfl | (simp [errW_none, errW_some] <;> rfl) | (simp [*, errW_none, errW_some] <;> rfl), uR (Kd.R_mono (Kd.R_far (p := ⟨gb163, 1, none⟩) (Kd.R_far (p := ⟨gb163, 0, none⟩) (Kd.R_types HO166.out BK163.out (by decide)) (fun _ hk => hk.2) (.slice Ao7 y164.length co7)) (fun _ hk => hk.2) (.int .i64 a2)) (fun _ hk => trivial)), by repeat (first | (with_reducible first | exact HB.out | apply bA | apply bN | apply bD | refine bS ?_ (by assumption)) | exact HB.out)⟩

/-! ### furrowlaw9_store: function 13 -/
def furrowlaw9_store.l0 : Nat → List Int → List Int → Int → Option (List Int)
 | 0, _, _, _ => none
 | k + 1, x1, x5, x6 => if x6 < (x5.length : Int) then (if x6 < (x1.length : Int) then (if 0 ≤ x6 then (furrowlaw9_store.l0 k x1 (x5.set (x6 : Int).toNat (rd x1 x6)) (wrap64 (x6 + 1))) else (none)) else (some x5)) else (some x5)
def furrowlaw9_store.f (k : Nat) (l0_0 : List (S71)) (a0_1 : Int) (l1 : List Int) : Option (List Int) := if 0 ≤ a0_1 then (if (a0_1 : Int).toNat ≤ 35184372088832 then (furrowlaw9_store.l0 k l1 (List.replicate (a0_1 : Int).toNat 0) 0) else (none)) else (none)
theorem furrowlaw9_store.mono_l : ∀ k, (∀ y0 y1 y2, LeO (furrowlaw9_store.l0 k y0 y1 y2) (furrowlaw9_store.l0 (k + 1) y0 y1 y2))
 | 0 => fun _ _ _ r h => by simp [furrowlaw9_store.l0] at h
 | k + 1 => by
  have ih0 := furrowlaw9_store.mono_l k
  ·intro y0 y1 y2
   unfold furrowlaw9_store.l0
   repeat' first
   | (with_reducible exact ih0 _ _ _)
   | (with_reducible exact LeO.refl _)
   | (with_reducible exact LeO.none _)
   | (with_reducible refine LeO.ite ?_ ?_)
   | (with_reducible refine LeO.bind ?_ (fun _ => ?_))
   | exact ih0 _ _ _
   | exact LeO.none _
   | refine LeO.ite ?_ ?_
   | refine LeO.bind ?_ (fun _ => ?_)
theorem furrowlaw9_store.mono : ∀ a0 a1 a2 k, LeO (furrowlaw9_store.f k a0 a1 a2) (furrowlaw9_store.f (k + 1) a0 a1 a2) := by
 intro a0 a1 a2 k
 have ih0 := furrowlaw9_store.mono_l k
 unfold furrowlaw9_store.f
 repeat' first
   | (with_reducible exact ih0 _ _ _)
   | (with_reducible exact LeO.refl _)
   | (with_reducible exact LeO.none _)
   | (with_reducible refine LeO.ite ?_ ?_)
   | (with_reducible refine LeO.bind ?_ (fun _ => ?_))
   | exact ih0 _ _ _
   | exact LeO.none _
   | refine LeO.ite ?_ ?_
   | refine LeO.bind ?_ (fun _ => ?_)
set_option maxHeartbeats 8000000 in
set_option maxRecDepth 100000 in
theorem furrowlaw9_store.calls (k : Nat) (A0_0 : Option Addr) (c0_0 : Nat) (l0_0 : List (S71)) (a0_1 : Int) (A1 : Option Addr) (c1 : Nat) (l1 : List Int) (r : List Int) (w : World) (hr0_0 : Kd.C k71 w A0_0 l0_0.length l0_0) (hc0_0 : l0_0.length ≤ c0_0) (hr1 : Kd.C (Kd.int .i64) w A1 l1.length l1) (hc1 : l1.length ≤ c1) (h : furrowlaw9_store.f k l0_0 a0_1 l1 = some r) :
  Calls Tryd.prog 13 #[.agg #[.slice A0_0 l0_0.length c0_0, .int .i64 a0_1], .slice A1 l1.length c1] w fun e w' => ∃ v0_ : Value, e = .returned (v0_) ∧ Kd.R (Kd.int .i64) 2 w' w.heap.size (fun _ => True) v0_ r ∧ Below w.heap.size w w' := by
 have hu29 := Tryd.underlying29
 have HR0_0 := mk0 hr0_0
 have HC0_0 := mk0 hc0_0
 clear hr0_0 hc0_0
 have HR1 := mk0 hr1
 have HC1 := mk0 hc1
 clear hr1 hc1
 have HB := mk0 (Below.refl w.heap.size w)
 have H : (if 0 ≤ a0_1 then (if (a0_1 : Int).toNat ≤ 35184372088832 then (furrowlaw9_store.l0 k l1 (List.replicate (a0_1 : Int).toNat 0) 0) else (none)) else (none)) = some r := h
 clear h
 by_cases c3 : 0 ≤ a0_1
 ·rw [if_pos c3] at H
  have c3b0 := eq_true c3
  have c3b1 : decide (0 ≤ a0_1) = true := decide_eq_true c3
  clear c3
  by_cases c4 : (a0_1 : Int).toNat ≤ 35184372088832
  ·rw [if_pos c4] at H
   have c4b0 := eq_true c4
   have c4b1 : decide ((a0_1 : Int).toNat ≤ 35184372088832) = true := decide_eq_true c4
   clear c4
   obtain ⟨y215, hy215⟩ : ∃ y_ : List Int, y_ = (List.replicate (a0_1 : Int).toNat 0) := ⟨_, rfl⟩
   replace H : (furrowlaw9_store.l0 k l1 y215 0) = some r := by first | (rw [hy215]; with_reducible exact H) | (have H2_ := (Option.bind_some _ _).symm.trans H; rw [hy215]; with_reducible exact H2_) | (have H2_ := (Option.bind_some _ _).symm.trans H; with_reducible exact H2_) | with_reducible exact H | (rw [hy215]; exact H) | exact H
   have Ny215 := mk0 hy215
   clear hy215
   have H' := mk0 H
   clear H
   go_enter Tryd.func13, Tryd.ntmps13
   go_wp2_with (first | ((with_reducible refine gate_dst (N := 2) rfl ?_); (try (refine gate_guard (by rfl) ?_; dsimp only)); refine box_event ?hg (N := 2) ?hd (cs := #[.slice A0_0 l0_0.length c0_0, .int .i64 a0_1]) (t := 29) ?hr ?_; (case hd => rfl); (case hg => rfl); (case hr => first | (go_simp; done) | (go_simp; rfl)); intro gb214 hg w5 hbox hb; have n0_ := mk0 (below_step (uL HB.out) hb); have n1_ := mk0 (hbox); have n2_ := mk0 ((by rw [hg]; exact (below_size (uL HB.out)) : w.heap.size ≤ gb214)); have n3_ := mk0 ((by rw [hg]; exact (below_size (uL HB.out)) : w.heap.size ≤ gb214)); clear HB; have HB := n0_; have BK214 := n1_; have GW214 := n2_; have GE214 := n3_; clear n0_ n1_ n2_ n3_; clear hb hbox hg; have hcz6_0 : w5.cell? ⟨gb214, 0, none⟩ = some (.slice A0_0 l0_0.length c0_0) := (blk_cell BK214.out 0).trans rfl; have hcz6_1 : w5.cell? ⟨gb214, 1, none⟩ = some (.int .i64 a0_1) := (blk_cell BK214.out 1).trans rfl; have hfz6_0 := blk_frozen BK214.out 0; have hfz6_1 := blk_frozen BK214.out 1) | ((with_reducible refine gate_dst (N := 9) rfl ?_); (try (refine gate_guard (by rfl) ?_; dsimp only)); refine Kd.R_make (Kd.int .i64) _ 2 rfl (N := 9) rfl 38 _ _ rfl a0_1 rfl rfl Tryd.underlying38 (.int .i64 0) 8 info2 rfl (by decide) (by omega) 0 (ok := fun _ => True) (okp := fun _ => True) rfl (fun _ hk => hk) trivial (of_decide_eq_true (by first | (with_reducible assumption) | assumption)) (Nat.le_trans (Nat.mul_le_mul_right _ (of_decide_eq_true (by first | (with_reducible assumption) | assumption) : a0_1.toNat ≤ 35184372088832)) (by omega)) (Below.refl _ _) (Nat.le_refl _) ?_; intro v216 w7 ho8 hb hg_ hnew_; clear hg_ hnew_; (first | rw [← Ny215.out] at ho8 | (simp only [Int.reduceToNat] at ho8; rw [← Ny215.out] at ho8)); have n0_ := mk0 (Kd.R_lower ho8 (below_size (by repeat (first | (with_reducible first | exact HB.out | apply bA | apply bN | apply bD | refine bS ?_ (by assumption)) | exact HB.out)))); have n1_ := mk0 (blk_below (g := gb214) (o := .cells #[.slice A0_0 l0_0.length c0_0, .int .i64 a0_1] 29 (0, 0)) (uB BK214.out) hb); have n2_ := mk0 (below_step (by repeat (first | (with_reducible first | exact HB.out | apply bA | apply bN | apply bD | refine bS ?_ (by assumption)) | exact HB.out)) hb); clear BK214; clear HB; have HO217 := n0_; have BK214 := n1_; have HB := n2_; clear n0_ n1_ n2_; clear hb ho8))
   go_loopg [6] k (fun kq v6 w' => ∃ (x5_1 : List Int) (x6_1 : Int), v6 = .int .i64 x6_1 ∧ Aside0 (furrowlaw9_store.l0 kq l1 x5_1 x6_1 = some r) ∧ Aside0 (kq ≤ k) ∧ Aside0 (Kd.R (Kd.int .i64) 2 w' w.heap.size (fun _ => True) v216 x5_1) ∧ Aside0 (w'.heap[gb214]? = some (.cells #[(.slice A0_0 l0_0.length c0_0), .int .i64 a0_1] 29 (0, 0))) ∧ Aside0 (Below w.heap.size w w'))
   case atStart => exact ⟨(y215), (0), (by first | rfl | (simp; done) | (simp [*]; done) | (simp [bne_nil_, beq_nil_]; done)), H', ⟨Nat.le_refl _⟩, ⟨uR HO217.out⟩, ⟨uB BK214.out⟩, ⟨by repeat (first | (with_reducible first | exact HB.out | apply bA | apply bN | apply bD | refine bS ?_ (by assumption)) | exact HB.out)⟩⟩
   case round =>
    clear H'
    try clear c1
    try clear p2
    try clear c3
    try clear c3b0
    try clear c3b1
    try clear c4
    try clear c4b0
    try clear c4b1
    try clear hcz6_0
    try clear hcz6_1
    try clear hfz6_0
    try clear hfz6_1
    obtain ⟨x5_1, x6_1, rfl, HA, HK1, HO_5, BK214, HB⟩ := hrel
    cases gk with
    | zero => exact absurd HA.out (by simp [furrowlaw9_store.l0])
    | succ k1 =>
     have H := HA.out
     clear HA
     simp only [furrowlaw9_store.l0] at H
     by_cases c9 : x6_1 < (x5_1.length : Int)
     ·rw [if_pos c9] at H
      have c9b0 : decide (x6_1 < (x5_1.length : Int)) = true := decide_eq_true c9
      clear c9
      by_cases c10 : x6_1 < (l1.length : Int)
      ·rw [if_pos c10] at H
       have c10b0 : decide (x6_1 < (l1.length : Int)) = true := decide_eq_true c10
       clear c10
       by_cases c11 : 0 ≤ x6_1
       ·rw [if_pos c11] at H
        have c11b0 : decide (0 ≤ x6_1) = true := decide_eq_true c11
        clear c11
        obtain ⟨y219, hy219⟩ : ∃ y_ : List Int, y_ = (x5_1.set (x6_1 : Int).toNat (rd l1 x6_1)) := ⟨_, rfl⟩
        replace H : (furrowlaw9_store.l0 k1 l1 y219 (wrap64 (x6_1 + 1))) = some r := by first | (rw [hy219]; with_reducible exact H) | (have H2_ := (Option.bind_some _ _).symm.trans H; rw [hy219]; with_reducible exact H2_) | (have H2_ := (Option.bind_some _ _).symm.trans H; with_reducible exact H2_) | with_reducible exact H | (rw [hy219]; exact H) | exact H
        have Ny219 := mk0 hy219
        clear hy219
        have H' := mk0 H
        clear H
        obtain ⟨Ao13, co13, eo13⟩ := Kd.R_slice HO_5.out
        subst eo13
        have p218 : 0 ≤ (x6_1 : Int) := of_decide_eq_true (by first | (with_reducible assumption) | assumption)
        have q218 : x6_1 < (l1.length : Int) := of_decide_eq_true (by first | (with_reducible assumption) | assumption)
        obtain ⟨ad218, e218, hx218_0⟩ := Kd.at_int HR1.out x6_1 p218 q218
        cases e218
        replace hx218_0 := (HB.out.cell (World.block_lt_of_cell? w _ hx218_0)).trans hx218_0
        replace p218 := eq_true p218
        replace q218 := eq_true q218
        have p12 : 0 ≤ (x6_1 : Int) := of_decide_eq_true (by first | (with_reducible assumption) | assumption)
        have q12 : (x6_1 : Int) < ((x5_1.length : Int) : Int) := of_decide_eq_true (by first | (with_reducible assumption) | assumption)
        obtain ⟨go12, co12, eo12, gb12, gl12, cl12, HG12⟩ := Kd.R_form HO_5.out (by omega)
        (first | cases eo12 | (injection eo12 with ea_ en_ ec_; (first | subst ea_ | (injection ea_ with ea_; subst ea_)); subst ec_; clear en_))
        have GB12 := mk0 gb12
        have GG12 := mk0 HG12
        clear gb12 gl12 HG12
        obtain ⟨hx12_0, hf12_0⟩ := Kd.R_celln 0 HO_5.out (x6_1 : Int) p12 q12
        replace p12 := eq_true p12
        replace q12 := eq_true q12
        have HP14 := Kd.R_putg HO_5.out (x6_1 : Int) (rd l1 x6_1)
        go_wp2_with (first | ((with_reducible refine gate_store (t := 2) (p := 28) rfl ?_); refine store_event (t := 2) (p := 28) (v := ?vo_w15) (w1 := (wr.setCell ⟨go12, (x6_1 : Int).toNat, none⟩ (.int .i64 (rd l1 x6_1)))) ?hg ?ho ?hn ?hr ?_; (case ho => rfl); (case hg => rfl); (case hn => rfl); (case hr => first | (go_simp; done) | (go_simp; rfl)); intro w15 hw; have hg : wr.grownBy w15 (some go12) := (by rw [hw]; exact HP14.2); have hp_ : Kd.R (Kd.int .i64) 2 w15 w.heap.size (fun _ => True) (.slice (some ⟨go12, 0, none⟩) x5_1.length co13) y219 := (by rw [hw, Ny219.out]; exact HP14.1); clear HP14; have n0_ := mk0 (hp_); have n1_ := mk0 (blk_grown (g := gb214) (o := .cells #[.slice A0_0 l0_0.length c0_0, .int .i64 a0_1] 29 (0, 0)) (uB BK214.out) hg (Kd.R_ne HO_5.out BK214.out (by decide))); have n2_ := mk0 ((by rw [hw]; exact below_set (HB.out) GB12.out : Below w.heap.size w w15)); clear HO_5; clear BK214; clear HB; have HO_5 := n0_; have BK214 := n1_; have HB := n2_; clear n0_ n1_ n2_; clear hg hw hp_))
        go_roundg k1
        case measure => have := HK1.out; omega
        case rel => exact ⟨(y219), (wrap64 (x6_1 + 1)), (by first | rfl | (simp; done) | (simp [*]; done) | (simp [bne_nil_, beq_nil_]; done)), H', ⟨by have := HK1.out; omega⟩, ⟨uR HO_5.out⟩, ⟨uB BK214.out⟩, ⟨by repeat (first | (with_reducible first | exact HB.out | apply bA | apply bN | apply bD | refine bS ?_ (by assumption)) | exact HB.out)⟩⟩
       ·rw [if_neg c11] at H
        exact absurd H (by simp)
      ·rw [if_neg c10] at H
       have c10b0 : decide (x6_1 < (l1.length : Int)) = false := decide_eq_false c10
       clear c10
       obtain rfl := Option.some.inj H
       obtain ⟨Ao16, co16, eo16⟩ := Kd.R_slice HO_5.out
       subst eo16
       go_wp2
       go_ret
       exact ⟨_, by first | rfl | (simp [errW_none, errW_some] <;> rfl) | (simp [*, errW_none, errW_some] <;> rfl), uR HO_5.out, by repeat (first | (with_reducible first | exact HB.out | apply bA | apply bN | apply bD | refine bS ?_ (by assumption)) | exact HB.out)⟩
     ·rw [if_neg c9] at H
      have c9b0 : decide (x6_1 < (x5_1.length : Int)) = false := decide_eq_false c9
      clear c9
      obtain rfl := Option.some.inj H
      obtain ⟨Ao17, co17, eo17⟩ := Kd.R_slice HO_5.out
      subst eo17
      go_wp2
      go_ret
      exact ⟨_, by first | rfl | (simp [errW_none, errW_some] <;> rfl) | (simp [*, errW_none, errW_some] <;> rfl), uR HO_5.out, by repeat (first | (with_reducible first | exact HB.out | apply bA | apply bN | apply bD | refine bS ?_ (by assumption)) | exact HB.out)⟩
  ·rw [if_neg c4] at H
   exact absurd H (by simp)
 ·rw [if_neg c3] at H
  exact absurd H (by simp)

end Go.Proofs.YtmhkijidnpihmaaDoor.X
