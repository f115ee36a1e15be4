-- PRINTED by print.py (a twelfth state) out of the translation. Not trusted: Lean checks it.
import Derived.Test.YtmhkijidnpihmaaDoorXx0
import Derived.Test.YtmhkijidnpihmaaDoorXx1
namespace Go.Proofs.YtmhkijidnpihmaaDoor.X
open Go.Proofs.YtmhkijidnpihmaaDoor.Flt Go.Proofs.YtmhkijidnpihmaaDoor.H Go.RowKit Go.Proofs.YtmhkijidnpihmaaDoorW.PrintWords Go.Proofs.YtmhkijidnpihmaaDoorW.PrintLast Go.Proofs.YtmhkijidnpihmaaDoorW.PrintMore
attribute [local go_sem] max2_int min2_int max_two min_two max_three min_three max_four min_four   -- for this text's walks alone
set_option linter.unusedVariables false
set_option linter.unusedSimpArgs false

/-! ### furrowlaw9_Table: function 8 -/
def furrowlaw9_Table.l0 : Nat → List ByteArray → Int → List (S71) → Int → Option ((List (S71)) × Int)
 | 0, _, _, _, _ => none
 | k + 1, x4, x5, x117000, x117001 => if x5 < (x4.length : Int) then (if 0 ≤ x5 then ((furrowlaw9_add.f x117000 x117001 (rdOf ByteArray.empty x4 x5) ([] : List Int) 1).bind fun bt135 => (furrowlaw9_Table.l0 k x4 (wrap64 (x5 + 1)) bt135.1 bt135.2)) else (none)) else (some (x117000, x117001))
def furrowlaw9_Table.f (k : Nat) (a0 : Int) : Option ((List (S71)) × Int) := (furrowlaw9_add.f ([] : List (S71)) 0 (⟨#[97]⟩ : ByteArray) (([a0] : List Int)) a0).bind fun bt120 => ((furrowlaw9_add.f bt120.1 bt120.2 (⟨#[98]⟩ : ByteArray) (([3, 2] : List Int)) 6).bind fun bt127 => (furrowlaw9_Table.l0 k (([(⟨#[120]⟩ : ByteArray), (⟨#[121]⟩ : ByteArray), (⟨#[110]⟩ : ByteArray), (⟨#[105]⟩ : ByteArray), (⟨#[106]⟩ : ByteArray)] : List ByteArray)) 0 bt127.1 bt127.2))
theorem furrowlaw9_Table.mono_l : ∀ k, (∀ y0 y1 y2 y3, LeO (furrowlaw9_Table.l0 k y0 y1 y2 y3) (furrowlaw9_Table.l0 (k + 1) y0 y1 y2 y3))
 | 0 => fun _ _ _ _ r h => by simp [furrowlaw9_Table.l0] at h
 | k + 1 => by
  have ih0 := furrowlaw9_Table.mono_l k
  ·intro y0 y1 y2 y3
   unfold furrowlaw9_Table.l0
   repeat' first
   | (with_reducible exact ih0 _ _ _ _)
   | (with_reducible exact LeO.refl _)
   | (with_reducible exact LeO.none _)
   | (with_reducible refine LeO.ite ?_ ?_)
   | (with_reducible refine LeO.bind ?_ (fun _ => ?_))
   | exact ih0 _ _ _ _
   | exact LeO.none _
   | refine LeO.ite ?_ ?_
   | refine LeO.bind ?_ (fun _ => ?_)
theorem furrowlaw9_Table.mono : ∀ a0 k, LeO (furrowlaw9_Table.f k a0) (furrowlaw9_Table.f (k + 1) a0) := by
 intro a0 k
 have ih0 := furrowlaw9_Table.mono_l k
 unfold furrowlaw9_Table.f
 repeat' first
   | (with_reducible exact ih0 _ _ _ _)
   | (with_reducible exact LeO.refl _)
   | (with_reducible exact LeO.none _)
   | (with_reducible refine LeO.ite ?_ ?_)
   | (with_reducible refine LeO.bind ?_ (fun _ => ?_))
   | exact ih0 _ _ _ _
   | exact LeO.none _
   | refine LeO.ite ?_ ?_
   | refine LeO.bind ?_ (fun _ => ?_)
set_option maxHeartbeats 8000000 in
set_option maxRecDepth 100000 in
theorem furrowlaw9_Table.calls (k : Nat) (a0 : Int) (r1 : List (S71)) (r2 : Int) (w : World) (h : furrowlaw9_Table.f k a0 = some (r1, r2)) :
  Calls Tryd.prog 8 #[.int .i64 a0] w fun e w' => ∃ v0_ : Value, e = .returned (.agg #[v0_, .int .i64 r2]) ∧ Kd.N k71 71 w' w.heap.size (fun k_ => (w.heap.size ≤ k_)) v0_ r1 ∧ Below w.heap.size w w' := by
 have hu29 := Tryd.underlying29
 have HB := mk0 (Below.refl w.heap.size w)
 have H : ((furrowlaw9_add.f ([] : List (S71)) 0 (⟨#[97]⟩ : ByteArray) (([a0] : List Int)) a0).bind fun bt120 => ((furrowlaw9_add.f bt120.1 bt120.2 (⟨#[98]⟩ : ByteArray) (([3, 2] : List Int)) 6).bind fun bt127 => (furrowlaw9_Table.l0 k (([(⟨#[120]⟩ : ByteArray), (⟨#[121]⟩ : ByteArray), (⟨#[110]⟩ : ByteArray), (⟨#[105]⟩ : ByteArray), (⟨#[106]⟩ : ByteArray)] : List ByteArray)) 0 bt127.1 bt127.2))) = some (r1, r2) := h
 clear h
 obtain ⟨y117, hy117⟩ : ∃ y_ : List Int, y_ = (([a0] : List Int)) := ⟨_, rfl⟩
 replace H : ((furrowlaw9_add.f ([] : List (S71)) 0 (⟨#[97]⟩ : ByteArray) y117 a0).bind fun bt120 => ((furrowlaw9_add.f bt120.1 bt120.2 (⟨#[98]⟩ : ByteArray) (([3, 2] : List Int)) 6).bind fun bt127 => (furrowlaw9_Table.l0 k (([(⟨#[120]⟩ : ByteArray), (⟨#[121]⟩ : ByteArray), (⟨#[110]⟩ : ByteArray), (⟨#[105]⟩ : ByteArray), (⟨#[106]⟩ : ByteArray)] : List ByteArray)) 0 bt127.1 bt127.2))) = some (r1, r2) := by first | (rw [hy117]; with_reducible exact H) | (have H2_ := (Option.bind_some _ _).symm.trans H; rw [hy117]; with_reducible exact H2_) | (have H2_ := (Option.bind_some _ _).symm.trans H; with_reducible exact H2_) | with_reducible exact H | (rw [hy117]; exact H) | exact H
 have Ny117 := mk0 hy117
 clear hy117
 replace H := Option.bind_eq_some_iff.mp H
 obtain ⟨⟨t120, t123⟩, A20, H⟩ := H
 replace H : ((furrowlaw9_add.f t120 t123 (⟨#[98]⟩ : ByteArray) (([3, 2] : List Int)) 6).bind fun bt127 => (furrowlaw9_Table.l0 k (([(⟨#[120]⟩ : ByteArray), (⟨#[121]⟩ : ByteArray), (⟨#[110]⟩ : ByteArray), (⟨#[105]⟩ : ByteArray), (⟨#[106]⟩ : ByteArray)] : List ByteArray)) 0 bt127.1 bt127.2)) = some (r1, r2) := H
 have A2 := mk0 A20
 clear A20
 obtain ⟨y124, hy124⟩ : ∃ y_ : List Int, y_ = (([3, 2] : List Int)) := ⟨_, rfl⟩
 replace H : ((furrowlaw9_add.f t120 t123 (⟨#[98]⟩ : ByteArray) y124 6).bind fun bt127 => (furrowlaw9_Table.l0 k (([(⟨#[120]⟩ : ByteArray), (⟨#[121]⟩ : ByteArray), (⟨#[110]⟩ : ByteArray), (⟨#[105]⟩ : ByteArray), (⟨#[106]⟩ : ByteArray)] : List ByteArray)) 0 bt127.1 bt127.2)) = some (r1, r2) := by first | (rw [hy124]; with_reducible exact H) | (have H2_ := (Option.bind_some _ _).symm.trans H; rw [hy124]; with_reducible exact H2_) | (have H2_ := (Option.bind_some _ _).symm.trans H; with_reducible exact H2_) | with_reducible exact H | (rw [hy124]; exact H) | exact H
 have Ny124 := mk0 hy124
 clear hy124
 replace H := Option.bind_eq_some_iff.mp H
 obtain ⟨⟨t127, t130⟩, A30, H⟩ := H
 replace H : (furrowlaw9_Table.l0 k (([(⟨#[120]⟩ : ByteArray), (⟨#[121]⟩ : ByteArray), (⟨#[110]⟩ : ByteArray), (⟨#[105]⟩ : ByteArray), (⟨#[106]⟩ : ByteArray)] : List ByteArray)) 0 t127 t130) = some (r1, r2) := H
 have A3 := mk0 A30
 clear A30
 obtain ⟨y131, hy131⟩ : ∃ y_ : List ByteArray, y_ = (([(⟨#[120]⟩ : ByteArray), (⟨#[121]⟩ : ByteArray), (⟨#[110]⟩ : ByteArray), (⟨#[105]⟩ : ByteArray), (⟨#[106]⟩ : ByteArray)] : List ByteArray)) := ⟨_, rfl⟩
 replace H : (furrowlaw9_Table.l0 k y131 0 t127 t130) = some (r1, r2) := by first | (rw [hy131]; with_reducible exact H) | (have H2_ := (Option.bind_some _ _).symm.trans H; rw [hy131]; with_reducible exact H2_) | (have H2_ := (Option.bind_some _ _).symm.trans H; with_reducible exact H2_) | with_reducible exact H | (rw [hy131]; exact H) | exact H
 have Ny131 := mk0 hy131
 clear hy131
 have H' := mk0 H
 clear H
 go_enter Tryd.func8, Tryd.ntmps8
 go_wp2_with (first | ((with_reducible refine gate_dst (N := 2) rfl ?_); refine box_event ?hg (N := 2) ?hd (cs := #[.slice none 0 0, .int .i64 0]) (t := 29) ?hr ?_; (case hd => rfl); (case hg => rfl); (case hr => first | (go_simp; done) | (go_simp; rfl)); intro gb115 hg w4 hbox hb; have n0_ := mk0 (below_step (uL HB.out) hb); have n1_ := mk0 (hbox); have n2_ := mk0 ((by rw [hg]; exact (below_size (uL HB.out)) : w.heap.size ≤ gb115)); have n3_ := mk0 ((by rw [hg]; exact (below_size (uL HB.out)) : w.heap.size ≤ gb115)); clear HB; have HB := n0_; have BK115 := n1_; have GW115 := n2_; have GE115 := n3_; clear n0_ n1_ n2_ n3_; clear hb hbox hg) | ((with_reducible refine gate_dst (N := 3) rfl ?_); refine box_event ?hg (N := 3) ?hd (cs := #[.slice none 0 0, .int .i64 0]) (t := 29) ?hr ?_; (case hd => rfl); (case hg => rfl); (case hr => first | (go_simp; done) | (go_simp; rfl)); intro gb116 hg w5 hbox hb; have n0_ := mk0 (blk_below (g := gb115) (o := .cells #[.slice none 0 0, .int .i64 0] 29 (0, 0)) (uB BK115.out) hb); have n1_ := mk0 (below_step (by repeat (first | (with_reducible first | exact HB.out | apply bA | apply bN | apply bD | refine bS ?_ (by assumption)) | exact HB.out)) hb); have n2_ := mk0 (hbox); have n3_ := mk0 ((by rw [hg]; exact (below_size (by repeat (first | (with_reducible first | exact HB.out | apply bA | apply bN | apply bD | refine bS ?_ (by assumption)) | exact HB.out))) : w.heap.size ≤ gb116)); have n4_ := mk0 ((by rw [hg]; exact (below_size (by repeat (first | (with_reducible first | exact HB.out | apply bA | apply bN | apply bD | refine bS ?_ (by assumption)) | exact HB.out))) : w.heap.size ≤ gb116)); have n5_ := mk0 ((by rw [hg]; exact Nat.ne_of_lt (blk_lt (g := gb115) (o := .cells #[.slice none 0 0, .int .i64 0] 29 (0, 0)) (uB BK115.out)) : gb115 ≠ gb116)); have n6_ := mk0 ((by rw [hg]; exact Nat.ne_of_gt (blk_lt (g := gb115) (o := .cells #[.slice none 0 0, .int .i64 0] 29 (0, 0)) (uB BK115.out)) : gb116 ≠ gb115)); clear BK115; clear HB; have BK115 := n0_; have HB := n1_; have BK116 := n2_; have GW116 := n3_; have GE116 := n4_; have NB115_116 := n5_; have NB116_115 := n6_; clear n0_ n1_ n2_ n3_ n4_ n5_ n6_; clear hb hbox hg; have hnb6 := NB116_115.out; have hnc6 := NB115_116.out; have hcz7_0 : w5.cell? ⟨gb116, 0, none⟩ = some (.slice none 0 0) := (blk_cell BK116.out 0).trans rfl; have hcz7_1 : w5.cell? ⟨gb116, 1, none⟩ = some (.int .i64 0) := (blk_cell BK116.out 1).trans rfl; have hfz7_0 := blk_frozen BK116.out 0; have hfz7_1 := blk_frozen BK116.out 1) | ((with_reducible refine gate_dst (N := 9) rfl ?_); refine Kd.R_lit (Kd.int .i64) _ 2 ?hg (N := 9) ?hd (xs := ([a0] : List Int)) (inner := [.int .i64 a0]) (ok := fun _ => True) (okp := fun _ => True) ?hr ?hp (fun _ hk => hk) trivial (Below.refl _ _) (Nat.le_refl _) (by simp) ?_; (case hd => rfl); (case hg => rfl); (case hr => first | (go_simp; done) | (go_simp; rfl)); (case hp => exact (Reps.one (show Kd.M (Kd.int .i64) _ _ _ a0 [.int .i64 a0] from rfl) (Reps.none _ _))); intro v118 w8 ho9 hb hg_ hnew_; clear hg_ hnew_; (first | rw [← Ny117.out] at ho9 | (simp only [Int.reduceToNat] at ho9; rw [← Ny117.out] at ho9)); have n0_ := mk0 (Kd.R_lower (Kd.R_newM (M := fun k_ => (w.heap.size ≤ k_)) ho9 (below_size (by repeat (first | (with_reducible first | exact HB.out | apply bA | apply bN | apply bD | refine bS ?_ (by assumption)) | exact HB.out))) (fun k_ h_ => h_)) (below_size (by repeat (first | (with_reducible first | exact HB.out | apply bA | apply bN | apply bD | refine bS ?_ (by assumption)) | exact HB.out)))); have n1_ := mk0 (blk_below (g := gb115) (o := .cells #[.slice none 0 0, .int .i64 0] 29 (0, 0)) (by (with_reducible repeat (first | refine blk_drewN ?_ _ | refine blk_drew ?_ | refine blk_alloc ?_ _)); refine blk_far ?_ NB115_116.out _; (with_reducible repeat (first | refine blk_drewN ?_ _ | refine blk_drew ?_ | refine blk_alloc ?_ _)); refine blk_far ?_ NB115_116.out _; (with_reducible repeat (first | refine blk_drewN ?_ _ | refine blk_drew ?_ | refine blk_alloc ?_ _)); exact BK115.out) hb); have n2_ := mk0 (blk_below (g := gb116) (o := .cells #[.slice none 0 0, .int .i64 0] 29 (0, 0)) (by (with_reducible repeat (first | refine blk_drewN ?_ _ | refine blk_drew ?_ | refine blk_alloc ?_ _)); refine blk_put (cs := #[.slice none 0 0, .int .i64 0]) ?_ 1 _ rfl; (with_reducible repeat (first | refine blk_drewN ?_ _ | refine blk_drew ?_ | refine blk_alloc ?_ _)); refine blk_put (cs := #[.slice none 0 0, .int .i64 0]) ?_ 0 _ rfl; (with_reducible repeat (first | refine blk_drewN ?_ _ | refine blk_drew ?_ | refine blk_alloc ?_ _)); exact BK116.out) hb); have n3_ := mk0 (below_step (by repeat (first | (with_reducible first | exact HB.out | apply bA | apply bN | apply bD | refine bS ?_ (by assumption)) | exact HB.out)) hb); clear BK115; clear BK116; clear HB; have HO119 := n0_; have BK115 := n1_; have BK116 := n2_; have HB := n3_; clear n0_ n1_ n2_ n3_; clear hb ho9; obtain ⟨Ao10, co10, eo10⟩ := Kd.R_slice HO119.out; subst eo10) | ((with_reducible refine gate_callee (f := 22) rfl ?_); refine goesL_ (some 11) rfl rfl Tryd.func22 (by kernel_rfl) rfl #[.agg #[.slice none 0 0, .int .i64 0], .string (⟨#[97]⟩ : ByteArray), .slice Ao10 y117.length co10, .int .i64 a0] rfl (by (try simp only [List.map_toArray, List.map_cons, List.map_nil]); first | done | rfl | (simp only [List.length_drop, List.length_take]; rfl)) ?_; (refine (furrowlaw9_add.calls (fun k_ => False) _ _ ([] : List (S71)) 0 (⟨#[97]⟩ : ByteArray) (fun k_ => some k_ = (.slice Ao10 y117.length co10 : Value).ownBlock) _ _ y117 a0 t120 t123 _ ?side1 ?side2 A2.out).mono ?_); (case side1 => exact Kd.V_nil _ _ _ _ _); (case side2 => exact Kd.R_V (Kd.R_tight rfl (Kd.R_types (Kd.R_types (HO119.out) BK115.out (by decide)) BK116.out (by decide)))); rintro e w11 ⟨v121, rfl, ho0, hb⟩; refine ⟨_, rfl, ?_⟩; have n0_ := mk0 (Kd.R_below (uR HO119.out) hb); have n1_ := mk0 (Kd.N_lower (Kd.N_mono (ok' := fun k_ => (w.heap.size ≤ k_) ∧ k_ ≠ gb115 ∧ k_ ≠ gb116) ho0 (fun k_ hk_ => ⟨Or.elim hk_ (fun hs_ => Or.elim hs_ (fun hs_ => (hs_).elim) (fun hs_ => ((Kd.R_types (Kd.R_types (HO119.out) BK115.out (by decide)) BK116.out (by decide)).1 k_ hs_.symm).1.1.1)) (fun hn_ => (Nat.le_trans (below_size (by repeat (first | (with_reducible first | exact HB.out | apply bA | apply bN | apply bD | refine bS ?_ (by assumption)) | exact HB.out))) hn_)), Or.elim hk_ (fun hs_ => Or.elim hs_ (fun hs_ => (hs_).elim) (fun hs_ => ((Kd.R_types (Kd.R_types (HO119.out) BK115.out (by decide)) BK116.out (by decide)).1 k_ hs_.symm).1.2)) (fun hn_ => (Kd.freshB (g := gb115) (o := .cells #[.slice none 0 0, .int .i64 0] 29 (0, 0)) (uB BK115.out) k_ hn_)), Or.elim hk_ (fun hs_ => Or.elim hs_ (fun hs_ => (hs_).elim) (fun hs_ => ((Kd.R_types (Kd.R_types (HO119.out) BK115.out (by decide)) BK116.out (by decide)).1 k_ hs_.symm).2)) (fun hn_ => (Kd.freshB (g := gb116) (o := .cells #[.slice none 0 0, .int .i64 0] 29 (0, 0)) (uB BK116.out) k_ hn_))⟩)) (below_size (by repeat (first | (with_reducible first | exact HB.out | apply bA | apply bN | apply bD | refine bS ?_ (by assumption)) | exact HB.out)))); have n2_ := mk0 (blk_below (g := gb115) (o := .cells #[.slice none 0 0, .int .i64 0] 29 (0, 0)) (uB BK115.out) hb); have n3_ := mk0 (blk_below (g := gb116) (o := .cells #[.slice none 0 0, .int .i64 0] 29 (0, 0)) (uB BK116.out) hb); have n4_ := mk0 (below_step (by repeat (first | (with_reducible first | exact HB.out | apply bA | apply bN | apply bD | refine bS ?_ (by assumption)) | exact HB.out)) hb); clear HO119; clear BK115; clear BK116; clear HB; have HO119 := n0_; have HO122 := n1_; have BK115 := n2_; have BK116 := n3_; have HB := n4_; clear n0_ n1_ n2_ n3_ n4_; (try clear hb); (try clear hb2); (try clear hk); (try clear hi); (try clear ho0); obtain ⟨Ao12, co12, eo12⟩ := Kd.N_slice HO122.out; subst eo12; have hcz13_0 : w11.cell? ⟨gb116, 0, none⟩ = some (.slice none 0 0) := (blk_cell BK116.out 0).trans rfl; have hcz13_1 : w11.cell? ⟨gb116, 1, none⟩ = some (.int .i64 0) := (blk_cell BK116.out 1).trans rfl; have hfz13_0 := blk_frozen BK116.out 0; have hfz13_1 := blk_frozen BK116.out 1) | ((with_reducible refine gate_dst (N := 13) rfl ?_); refine Kd.R_lit (Kd.int .i64) _ 2 ?hg (N := 13) ?hd (xs := ([3, 2] : List Int)) (inner := [.int .i64 3, .int .i64 2]) (ok := fun _ => True) (okp := fun _ => True) ?hr ?hp (fun _ hk => hk) trivial (Below.refl _ _) (Nat.le_refl _) (by simp) ?_; (case hd => rfl); (case hg => rfl); (case hr => first | (go_simp; done) | (go_simp; rfl)); (case hp => exact (Reps.one (show Kd.M (Kd.int .i64) _ _ _ 3 [.int .i64 3] from rfl) (Reps.one (show Kd.M (Kd.int .i64) _ _ _ 2 [.int .i64 2] from rfl) (Reps.none _ _)))); intro v125 w14 ho15 hb hg_ hnew_; clear hg_ hnew_; (first | rw [← Ny124.out] at ho15 | (simp only [Int.reduceToNat] at ho15; rw [← Ny124.out] at ho15)); have n0_ := mk0 (Kd.R_elder' (uR (Kd.R_mono (Kd.R_far (p := ⟨gb116, 1, none⟩) (Kd.R_far (p := ⟨gb116, 0, none⟩) (Kd.R_types HO119.out BK116.out (by decide)) (fun _ hk => hk.2) (.slice Ao12 t120.length co12)) (fun _ hk => hk.2) (.int .i64 t123)) (fun _ h_ => h_.1))) (Kd.R_base ho15) hb); have n1_ := mk0 (Kd.N_elder' (uN (Kd.N_mono (Kd.N_far (p := ⟨gb116, 1, none⟩) (Kd.N_far (p := ⟨gb116, 0, none⟩) (Kd.N_mono HO122.out (fun k_ hk => (⟨hk, hk.2.2⟩ : _ ∧ k_ ≠ gb116))) (fun _ hk => hk.2) (.slice Ao12 t120.length co12)) (fun _ hk => hk.2) (.int .i64 t123)) (fun _ h_ => h_.1))) (Kd.R_base ho15) hb); have n2_ := mk0 (Kd.R_lower (Kd.R_new' (Kd.R_newM (M := fun k_ => (w.heap.size ≤ k_)) ho15 (below_size (by repeat (first | (with_reducible first | exact HB.out | apply bA | apply bN | apply bD | refine bS ?_ (by assumption)) | exact HB.out))) (fun k_ h_ => h_)) (Kd.R_lt (uR (Kd.R_mono (Kd.R_far (p := ⟨gb116, 1, none⟩) (Kd.R_far (p := ⟨gb116, 0, none⟩) (Kd.R_types HO119.out BK116.out (by decide)) (fun _ hk => hk.2) (.slice Ao12 t120.length co12)) (fun _ hk => hk.2) (.int .i64 t123)) (fun _ h_ => h_.1))))) (below_size (by repeat (first | (with_reducible first | exact HB.out | apply bA | apply bN | apply bD | refine bS ?_ (by assumption)) | exact HB.out)))); have n3_ := mk0 (blk_below (g := gb115) (o := .cells #[.slice none 0 0, .int .i64 0] 29 (0, 0)) (by (with_reducible repeat (first | refine blk_drewN ?_ _ | refine blk_drew ?_ | refine blk_alloc ?_ _)); refine blk_far ?_ NB115_116.out _; (with_reducible repeat (first | refine blk_drewN ?_ _ | refine blk_drew ?_ | refine blk_alloc ?_ _)); refine blk_far ?_ NB115_116.out _; (with_reducible repeat (first | refine blk_drewN ?_ _ | refine blk_drew ?_ | refine blk_alloc ?_ _)); exact BK115.out) hb); have n4_ := mk0 (blk_below (g := gb116) (o := .cells #[.slice Ao12 t120.length co12, .int .i64 t123] 29 (0, 0)) (by (with_reducible repeat (first | refine blk_drewN ?_ _ | refine blk_drew ?_ | refine blk_alloc ?_ _)); refine blk_put (cs := #[.slice Ao12 t120.length co12, .int .i64 0]) ?_ 1 _ rfl; (with_reducible repeat (first | refine blk_drewN ?_ _ | refine blk_drew ?_ | refine blk_alloc ?_ _)); refine blk_put (cs := #[.slice none 0 0, .int .i64 0]) ?_ 0 _ rfl; (with_reducible repeat (first | refine blk_drewN ?_ _ | refine blk_drew ?_ | refine blk_alloc ?_ _)); exact BK116.out) hb); have n5_ := mk0 (below_step (by repeat (first | (with_reducible first | exact HB.out | apply bA | apply bN | apply bD | refine bS ?_ (by assumption)) | exact HB.out)) hb); clear HO119; clear HO122; clear BK115; clear BK116; clear HB; have HO119 := n0_; have HO122 := n1_; have HO126 := n2_; have BK115 := n3_; have BK116 := n4_; have HB := n5_; clear n0_ n1_ n2_ n3_ n4_ n5_; clear hb ho15; obtain ⟨Ao16, co16, eo16⟩ := Kd.R_slice HO126.out; subst eo16) | ((with_reducible refine gate_callee (f := 22) rfl ?_); refine goesL_ (some 14) rfl rfl Tryd.func22 (by kernel_rfl) rfl #[.agg #[.slice Ao12 t120.length co12, .int .i64 t123], .string (⟨#[98]⟩ : ByteArray), .slice Ao16 y124.length co16, .int .i64 6] rfl (by (try simp only [List.map_toArray, List.map_cons, List.map_nil]); first | done | rfl | (simp only [List.length_drop, List.length_take]; rfl)) ?_; (with_reducible refine (furrowlaw9_add.calls (fun k_ => (((w.heap.size ≤ k_) ∧ (k_ ≠ gb115 ∧ k_ ≠ gb116)) ∧ some k_ ≠ (.slice Ao16 y124.length co16 : Value).ownBlock)) _ _ t120 t123 (⟨#[98]⟩ : ByteArray) (fun k_ => some k_ = (.slice Ao16 y124.length co16 : Value).ownBlock) _ _ y124 6 t127 t130 _ ?side1 ?side2 A3.out).mono ?_); (case side1 => exact Kd.N_V (HO122.out)); (case side2 => exact Kd.R_V (Kd.R_tight rfl (Kd.R_types (Kd.R_types (Kd.R_apart' (HO126.out) (Kd.N_typed HO122.out) (by decide)) BK115.out (by decide)) BK116.out (by decide)))); rintro e w17 ⟨v128, rfl, ho0, hb⟩; refine ⟨_, rfl, ?_⟩; have n0_ := mk0 (Kd.R_below (uR HO119.out) hb); have n1_ := mk0 (Kd.N_elder' (uN HO122.out) (Kd.N_base ho0) hb); have n2_ := mk0 (Kd.R_below (uR HO126.out) hb); have n3_ := mk0 (Kd.N_lower (Kd.N_mono (ok' := fun k_ => (w.heap.size ≤ k_) ∧ k_ ≠ gb115 ∧ k_ ≠ gb116) ho0 (fun k_ hk_ => ⟨Or.elim hk_ (fun hs_ => Or.elim hs_ (fun hs_ => hs_.1.1) (fun hs_ => ((Kd.R_types (Kd.R_types (Kd.R_apart' (HO126.out) (Kd.N_typed HO122.out) (by decide)) BK115.out (by decide)) BK116.out (by decide)).1 k_ hs_.symm).1.1.1.1.1)) (fun hn_ => (Nat.le_trans (below_size (by repeat (first | (with_reducible first | exact HB.out | apply bA | apply bN | apply bD | refine bS ?_ (by assumption)) | exact HB.out))) hn_)), Or.elim hk_ (fun hs_ => Or.elim hs_ (fun hs_ => hs_.1.2.1) (fun hs_ => ((Kd.R_types (Kd.R_types (Kd.R_apart' (HO126.out) (Kd.N_typed HO122.out) (by decide)) BK115.out (by decide)) BK116.out (by decide)).1 k_ hs_.symm).1.2)) (fun hn_ => (Kd.freshB (g := gb115) (o := .cells #[.slice none 0 0, .int .i64 0] 29 (0, 0)) (uB BK115.out) k_ hn_)), Or.elim hk_ (fun hs_ => Or.elim hs_ (fun hs_ => hs_.1.2.2) (fun hs_ => ((Kd.R_types (Kd.R_types (Kd.R_apart' (HO126.out) (Kd.N_typed HO122.out) (by decide)) BK115.out (by decide)) BK116.out (by decide)).1 k_ hs_.symm).2)) (fun hn_ => (Kd.freshB (g := gb116) (o := .cells #[.slice Ao12 t120.length co12, .int .i64 t123] 29 (0, 0)) (uB BK116.out) k_ hn_))⟩)) (below_size (by repeat (first | (with_reducible first | exact HB.out | apply bA | apply bN | apply bD | refine bS ?_ (by assumption)) | exact HB.out)))); have n4_ := mk0 (blk_below (g := gb115) (o := .cells #[.slice none 0 0, .int .i64 0] 29 (0, 0)) (uB BK115.out) hb); have n5_ := mk0 (blk_below (g := gb116) (o := .cells #[.slice Ao12 t120.length co12, .int .i64 t123] 29 (0, 0)) (uB BK116.out) hb); have n6_ := mk0 (below_step (by repeat (first | (with_reducible first | exact HB.out | apply bA | apply bN | apply bD | refine bS ?_ (by assumption)) | exact HB.out)) hb); clear HO119; clear HO122; clear HO126; clear BK115; clear BK116; clear HB; have HO119 := n0_; have HO122 := n1_; have HO126 := n2_; have HO129 := n3_; have BK115 := n4_; have BK116 := n5_; have HB := n6_; clear n0_ n1_ n2_ n3_ n4_ n5_ n6_; (try clear hb); (try clear hb2); (try clear hk); (try clear hi); (try clear ho0); obtain ⟨Ao18, co18, eo18⟩ := Kd.N_slice HO129.out; subst eo18; have hcz19_0 : w17.cell? ⟨gb116, 0, none⟩ = some (.slice Ao12 t120.length co12) := (blk_cell BK116.out 0).trans rfl; have hcz19_1 : w17.cell? ⟨gb116, 1, none⟩ = some (.int .i64 t123) := (blk_cell BK116.out 1).trans rfl; have hfz19_0 := blk_frozen BK116.out 0; have hfz19_1 := blk_frozen BK116.out 1) | ((with_reducible refine gate_dst (N := 15) rfl ?_); refine Kd.R_lit Kd.string _ 9 ?hg (N := 15) ?hd (xs := ([(⟨#[120]⟩ : ByteArray), (⟨#[121]⟩ : ByteArray), (⟨#[110]⟩ : ByteArray), (⟨#[105]⟩ : ByteArray), (⟨#[106]⟩ : ByteArray)] : List ByteArray)) (inner := [.string (⟨#[120]⟩ : ByteArray), .string (⟨#[121]⟩ : ByteArray), .string (⟨#[110]⟩ : ByteArray), .string (⟨#[105]⟩ : ByteArray), .string (⟨#[106]⟩ : ByteArray)]) (ok := fun _ => True) (okp := fun _ => True) ?hr ?hp (fun _ hk => hk) trivial (Below.refl _ _) (Nat.le_refl _) (by simp) ?_; (case hd => rfl); (case hg => rfl); (case hr => first | (go_simp; done) | (go_simp; rfl)); (case hp => exact (Reps.one (show Kd.M Kd.string _ _ _ (⟨#[120]⟩ : ByteArray) [.string (⟨#[120]⟩ : ByteArray)] from rfl) (Reps.one (show Kd.M Kd.string _ _ _ (⟨#[121]⟩ : ByteArray) [.string (⟨#[121]⟩ : ByteArray)] from rfl) (Reps.one (show Kd.M Kd.string _ _ _ (⟨#[110]⟩ : ByteArray) [.string (⟨#[110]⟩ : ByteArray)] from rfl) (Reps.one (show Kd.M Kd.string _ _ _ (⟨#[105]⟩ : ByteArray) [.string (⟨#[105]⟩ : ByteArray)] from rfl) (Reps.one (show Kd.M Kd.string _ _ _ (⟨#[106]⟩ : ByteArray) [.string (⟨#[106]⟩ : ByteArray)] from rfl) (Reps.none _ _))))))); intro v132 w20 ho21 hb hg_ hnew_; clear hg_ hnew_; (first | rw [← Ny131.out] at ho21 | (simp only [Int.reduceToNat] at ho21; rw [← Ny131.out] at ho21)); have n0_ := mk0 (Kd.R_below (uR (Kd.R_mono (Kd.R_far (p := ⟨gb116, 1, none⟩) (Kd.R_far (p := ⟨gb116, 0, none⟩) (Kd.R_types HO119.out BK116.out (by decide)) (fun _ hk => hk.2) (.slice Ao18 t127.length co18)) (fun _ hk => hk.2) (.int .i64 t130)) (fun _ h_ => h_.1))) hb); have n1_ := mk0 (Kd.N_elder' (uN (Kd.N_mono (Kd.N_far (p := ⟨gb116, 1, none⟩) (Kd.N_far (p := ⟨gb116, 0, none⟩) (Kd.N_mono HO122.out (fun k_ hk => (⟨hk, hk.1.1.2.2⟩ : _ ∧ k_ ≠ gb116))) (fun _ hk => hk.2) (.slice Ao18 t127.length co18)) (fun _ hk => hk.2) (.int .i64 t130)) (fun _ h_ => h_.1))) (Kd.R_base ho21) hb); have n2_ := mk0 (Kd.R_below (uR (Kd.R_mono (Kd.R_far (p := ⟨gb116, 1, none⟩) (Kd.R_far (p := ⟨gb116, 0, none⟩) (Kd.R_types HO126.out BK116.out (by decide)) (fun _ hk => hk.2) (.slice Ao18 t127.length co18)) (fun _ hk => hk.2) (.int .i64 t130)) (fun _ h_ => h_.1))) hb); have n3_ := mk0 (Kd.N_elder' (uN (Kd.N_mono (Kd.N_far (p := ⟨gb116, 1, none⟩) (Kd.N_far (p := ⟨gb116, 0, none⟩) (Kd.N_mono HO129.out (fun k_ hk => (⟨hk, hk.2.2⟩ : _ ∧ k_ ≠ gb116))) (fun _ hk => hk.2) (.slice Ao18 t127.length co18)) (fun _ hk => hk.2) (.int .i64 t130)) (fun _ h_ => h_.1))) (Kd.R_base ho21) hb); have n4_ := mk0 (Kd.R_lower (Kd.R_newM (M := fun k_ => (w.heap.size ≤ k_)) ho21 (below_size (by repeat (first | (with_reducible first | exact HB.out | apply bA | apply bN | apply bD | refine bS ?_ (by assumption)) | exact HB.out))) (fun k_ h_ => h_)) (below_size (by repeat (first | (with_reducible first | exact HB.out | apply bA | apply bN | apply bD | refine bS ?_ (by assumption)) | exact HB.out)))); have n5_ := mk0 (blk_below (g := gb115) (o := .cells #[.slice none 0 0, .int .i64 0] 29 (0, 0)) (by (with_reducible repeat (first | refine blk_drewN ?_ _ | refine blk_drew ?_ | refine blk_alloc ?_ _)); refine blk_far ?_ NB115_116.out _; (with_reducible repeat (first | refine blk_drewN ?_ _ | refine blk_drew ?_ | refine blk_alloc ?_ _)); refine blk_far ?_ NB115_116.out _; (with_reducible repeat (first | refine blk_drewN ?_ _ | refine blk_drew ?_ | refine blk_alloc ?_ _)); exact BK115.out) hb); have n6_ := mk0 (blk_below (g := gb116) (o := .cells #[.slice Ao18 t127.length co18, .int .i64 t130] 29 (0, 0)) (by (with_reducible repeat (first | refine blk_drewN ?_ _ | refine blk_drew ?_ | refine blk_alloc ?_ _)); refine blk_put (cs := #[.slice Ao18 t127.length co18, .int .i64 t123]) ?_ 1 _ rfl; (with_reducible repeat (first | refine blk_drewN ?_ _ | refine blk_drew ?_ | refine blk_alloc ?_ _)); refine blk_put (cs := #[.slice Ao12 t120.length co12, .int .i64 t123]) ?_ 0 _ rfl; (with_reducible repeat (first | refine blk_drewN ?_ _ | refine blk_drew ?_ | refine blk_alloc ?_ _)); exact BK116.out) hb); have n7_ := mk0 (below_step (by repeat (first | (with_reducible first | exact HB.out | apply bA | apply bN | apply bD | refine bS ?_ (by assumption)) | exact HB.out)) hb); clear HO119; clear HO122; clear HO126; clear HO129; clear BK115; clear BK116; clear HB; have HO119 := n0_; have HO122 := n1_; have HO126 := n2_; have HO129 := n3_; have HO133 := n4_; have BK115 := n5_; have BK116 := n6_; have HB := n7_; clear n0_ n1_ n2_ n3_ n4_ n5_ n6_ n7_; clear hb ho21))
 go_loopg [5] k (fun kq v5 w' => ∃ (x5_1 : Int) (x117000_1 : List (S71)) (x117001_1 : Int) (u117000 : Value), v5 = .int .i64 x5_1 ∧ Aside0 (furrowlaw9_Table.l0 kq y131 x5_1 x117000_1 x117001_1 = some (r1, r2)) ∧ Aside0 (kq ≤ k) ∧ Aside0 (Kd.R Kd.string 9 w' w.heap.size (fun k_ => (w.heap.size ≤ k_)) v132 y131) ∧ Aside0 (Kd.N k71 71 w' w.heap.size (fun k_ => (w.heap.size ≤ k_) ∧ some k_ ≠ (v132 : Value).ownBlock ∧ k_ ≠ gb115 ∧ k_ ≠ gb116) u117000 x117000_1) ∧ Aside0 (w'.heap[gb115]? = some (.cells #[(.slice none 0 0), .int .i64 0] 29 (0, 0))) ∧ Aside0 (w'.heap[gb116]? = some (.cells #[u117000, .int .i64 x117001_1] 29 (0, 0))) ∧ Aside0 (Below w.heap.size w w'))
 case atStart => exact ⟨(0), (t127), (t130), (.slice Ao18 t127.length co18), (by first | rfl | (simp; done) | (simp [*]; done) | (simp [bne_nil_, beq_nil_]; done)), H', ⟨Nat.le_refl _⟩, ⟨uR (Kd.R_mono HO133.out (fun _ hk => hk.1))⟩, ⟨uN (Kd.N_mono HO129.out (fun _ hk => ⟨hk.1.1, ⟨hk.2, ⟨hk.1.2.1, hk.1.2.2⟩⟩⟩))⟩, ⟨uB BK115.out⟩, ⟨uB BK116.out⟩, ⟨by repeat (first | (with_reducible first | exact HB.out | apply bA | apply bN | apply bD | refine bS ?_ (by assumption)) | exact HB.out)⟩⟩
 case round =>
  clear H'
  try clear c2
  try clear p2
  try clear c6
  try clear c8
  try clear hcz13_0
  try clear hcz13_1
  try clear hcz19_0
  try clear hcz19_1
  try clear hcz7_0
  try clear hcz7_1
  try clear hfz13_0
  try clear hfz13_1
  try clear hfz19_0
  try clear hfz19_1
  try clear hfz7_0
  try clear hfz7_1
  obtain ⟨x5_1, x117000_1, x117001_1, u117000, rfl, HA, HK1, HO_4, HO_117000, BK115, BK116, HB⟩ := hrel
  cases gk with
  | zero => exact absurd HA.out (by simp [furrowlaw9_Table.l0])
  | succ k1 =>
   have H := HA.out
   clear HA
   simp only [furrowlaw9_Table.l0] at H
   by_cases c22 : x5_1 < (y131.length : Int)
   ·rw [if_pos c22] at H
    have c22b0 : decide (x5_1 < (y131.length : Int)) = true := decide_eq_true c22
    clear c22
    by_cases c23 : 0 ≤ x5_1
    ·rw [if_pos c23] at H
     have c23b0 : decide (0 ≤ x5_1) = true := decide_eq_true c23
     clear c23
     replace H := Option.bind_eq_some_iff.mp H
     obtain ⟨⟨t135, t138⟩, A240, H⟩ := H
     replace H : (furrowlaw9_Table.l0 k1 y131 (wrap64 (x5_1 + 1)) t135 t138) = some (r1, r2) := H
     have A24 := mk0 A240
     clear A240
     have H' := mk0 H
     clear H
     obtain ⟨Ao25, co25, eo25⟩ := Kd.R_slice HO_4.out
     subst eo25
     try go_wp2
     have n0_ := mk0 (Kd.R_drew HO_4.out)
     have n1_ := mk0 (Kd.N_drew HO_117000.out)
     have n2_ := mk0 (blk_drew BK115.out)
     have n3_ := mk0 (blk_drew BK116.out)
     have n4_ := mk0 (below_drew1 HB.out)
     clear HO_4
     clear HO_117000
     clear BK115
     clear BK116
     clear HB
     have HO_4 := n0_
     have HO_117000 := n1_
     have BK115 := n2_
     have BK116 := n3_
     have HB := n4_
     clear n0_ n1_ n2_ n3_ n4_
     have p134 : 0 ≤ (x5_1 : Int) := of_decide_eq_true (by first | (with_reducible assumption) | assumption)
     have q134 : x5_1 < (y131.length : Int) := of_decide_eq_true (by first | (with_reducible assumption) | assumption)
     obtain ⟨ad134, e134, hx134_0⟩ := Kd.at_string (Kd.R_reads' HO_4.out).2.2 x5_1 p134 q134
     cases e134
     replace p134 := eq_true p134
     replace q134 := eq_true q134
     obtain ⟨Ao27, co27, eo27⟩ := Kd.N_slice HO_117000.out
     (first | subst eo27 | (injection eo27 with f1_ f2_ f3_; have f4_ := f1_.symm; have f5_ := f3_.symm; clear f1_ f2_ f3_; subst f4_; subst f5_))
     refine start_ (n := 7) (S := fun w' => w'.cell? ⟨gb116, 0, none⟩ = some (.slice Ao27 x117000_1.length co27) ∧ w'.cell? ⟨gb116, 1, none⟩ = some (.int .i64 x117001_1) ∧ w'.cell? (ad134.add (x5_1).toNat) = some (.string (rdOf ByteArray.empty y131 x5_1))) (ds := [6]) #[false, false, false, false, false, false, false] (by kernel_rfl) rfl rfl ⟨(blk_cell BK116.out 0).trans rfl, (blk_cell BK116.out 1).trans rfl, hx134_0⟩ (fun hHeld => ?_)
     generalize wr.drew = w26 at HO_4 HO_117000 BK115 BK116 HB hx134_0 hHeld ⊢
     refine pure_ (i := 1) (N := some 23) (v := ?_) (a' := ?_) #[false, true, false, false, false, false, false] rfl rfl (by kernel_rfl) (fun _ _ _ h => h) (Or.inl ⟨by rfl, ?_⟩) ?_ ?_
     rotate_left
     ·intro w'
      go_simp
      with_reducible rfl
     rotate_left
     ·simp only [Act.put, List.setIfInBounds_toArray, List.set_cons_zero, List.set_cons_succ, i64_w, i32_w]
      rfl
     refine pure_ (i := 2) (N := some 24) (v := ?_) (a' := ?_) #[false, true, true, false, false, false, false] rfl rfl (by kernel_rfl) (fun _ _ _ h => h) (Or.inl ⟨by rfl, ?_⟩) ?_ ?_
     rotate_left
     ·intro w'
      go_simp
      with_reducible rfl
     rotate_left
     ·simp only [Act.put, List.setIfInBounds_toArray, List.set_cons_zero, List.set_cons_succ, i64_w, i32_w]
      rfl
     refine pure_ (i := 3) (N := some 25) (v := ?_) (a' := ?_) #[false, true, true, true, false, false, false] rfl rfl (by kernel_rfl) (fun _ _ _ h => h) (Or.inl ⟨by rfl, ?_⟩) ?_ ?_
     rotate_left
     ·intro w'
      go_simp
      with_reducible rfl
     rotate_left
     ·simp only [Act.put, List.setIfInBounds_toArray, List.set_cons_zero, List.set_cons_succ, i64_w, i32_w]
      rfl
     refine take_ (i := 0) (N := some 22) (v := ?_) (a' := ?_) #[true, true, true, true, false, false, false] rfl rfl (by kernel_rfl) (fun _ _ _ h => h) (Or.inl ⟨by rfl, ?_⟩) hHeld ?_ ?_
     rotate_left
     ·rintro w' ⟨s0, s1, s2⟩
      go_simp
      with_reducible rfl
     rotate_left
     ·simp only [Act.put, List.setIfInBounds_toArray, List.set_cons_zero, List.set_cons_succ, i64_w, i32_w]
      rfl
     refine take_ (i := 4) (N := some 26) (v := ?_) (a' := ?_) #[true, true, true, true, true, false, false] rfl rfl (by kernel_rfl) (fun _ _ _ h => h) (Or.inl ⟨by rfl, ?_⟩) hHeld ?_ ?_
     rotate_left
     ·rintro w' ⟨s0, s1, s2⟩
      go_simp
      with_reducible rfl
     rotate_left
     ·simp only [Act.put, List.setIfInBounds_toArray, List.set_cons_zero, List.set_cons_succ, i64_w, i32_w]
      rfl
     refine one_ (i := 5) (N := some 27) #[true, true, true, true, true, true, false] rfl rfl (by kernel_rfl) (by decide) (fun K hK => ?_)
     refine goes_ Tryd.func22 (by kernel_rfl) rfl #[.agg #[.slice Ao27 x117000_1.length co27, .int .i64 x117001_1], .string (rdOf ByteArray.empty y131 x5_1), .slice none 0 0, .int .i64 1] (by rfl) rfl rfl (by (try simp only [List.map_toArray, List.map_cons, List.map_nil]); first | done | rfl | (simp only [List.length_drop, List.length_take]; rfl)) ?_
     refine (furrowlaw9_add.calls (fun k_ => ((w.heap.size ≤ k_) ∧ (some k_ ≠ (.slice (some ad134) y131.length co25 : Value).ownBlock ∧ (k_ ≠ gb115 ∧ k_ ≠ gb116)))) _ _ x117000_1 x117001_1 (rdOf ByteArray.empty y131 x5_1) (fun k_ => False) _ _ ([] : List Int) 1 t135 t138 _ ?side1 ?side2 A24.out).mono ?_
     (case side1 => exact Kd.N_V (HO_117000.out))
     (case side2 => exact Kd.V_nil _ _ _ _ _)
     rintro e w28 ⟨v136, rfl, ho0, hb⟩
     have HS2_ := (hb.cell (World.block_lt_of_cell? _ _ (hHeld.2.2))).trans (hHeld.2.2)
     refine ⟨_, rfl, ?_⟩
     have n0_ := mk0 (Kd.R_below (uR HO_4.out) hb)
     have n1_ := mk0 (Kd.N_elder' (uN HO_117000.out) (Kd.N_base ho0) hb)
     have n2_ := mk0 (Kd.N_lower (Kd.N_mono (ok' := fun k_ => (w.heap.size ≤ k_) ∧ some k_ ≠ (.slice (some ad134) y131.length co25 : Value).ownBlock ∧ k_ ≠ gb115 ∧ k_ ≠ gb116) ho0 (fun k_ hk_ => ⟨Or.elim hk_ (fun hs_ => Or.elim hs_ (fun hs_ => hs_.1) (fun hs_ => (hs_).elim)) (fun hn_ => (Nat.le_trans (below_size (by repeat (first | (with_reducible first | exact HB.out | apply bA | apply bN | apply bD | refine bS ?_ (by assumption)) | exact HB.out))) hn_)), Or.elim hk_ (fun hs_ => Or.elim hs_ (fun hs_ => hs_.2.1) (fun hs_ => (hs_).elim)) (fun hn_ => (Kd.fresh' (Kd.R_lt (uR HO_4.out)) k_ hn_)), Or.elim hk_ (fun hs_ => Or.elim hs_ (fun hs_ => hs_.2.2.1) (fun hs_ => (hs_).elim)) (fun hn_ => (Kd.freshB (g := gb115) (o := .cells #[.slice none 0 0, .int .i64 0] 29 (0, 0)) (uB BK115.out) k_ hn_)), Or.elim hk_ (fun hs_ => Or.elim hs_ (fun hs_ => hs_.2.2.2) (fun hs_ => (hs_).elim)) (fun hn_ => (Kd.freshB (g := gb116) (o := .cells #[.slice Ao27 x117000_1.length co27, .int .i64 x117001_1] 29 (0, 0)) (uB BK116.out) k_ hn_))⟩)) (below_size (by repeat (first | (with_reducible first | exact HB.out | apply bA | apply bN | apply bD | refine bS ?_ (by assumption)) | exact HB.out))))
     have n3_ := mk0 (blk_below (g := gb115) (o := .cells #[.slice none 0 0, .int .i64 0] 29 (0, 0)) (uB BK115.out) hb)
     have n4_ := mk0 (blk_below (g := gb116) (o := .cells #[.slice Ao27 x117000_1.length co27, .int .i64 x117001_1] 29 (0, 0)) (uB BK116.out) hb)
     have n5_ := mk0 (below_step (by repeat (first | (with_reducible first | exact HB.out | apply bA | apply bN | apply bD | refine bS ?_ (by assumption)) | exact HB.out)) hb)
     clear HO_4
     clear HO_117000
     clear BK115
     clear BK116
     clear HB
     have HO_4 := n0_
     have HO_117000 := n1_
     have HO137 := n2_
     have BK115 := n3_
     have BK116 := n4_
     have HB := n5_
     clear n0_ n1_ n2_ n3_ n4_ n5_
     (try clear hb)
     (try clear hb2)
     (try clear hk)
     (try clear hi)
     (try clear ho0)
     obtain ⟨Ao29, co29, eo29⟩ := Kd.N_slice HO137.out
     (first | subst eo29 | (injection eo29 with f1_ f2_ f3_; have f4_ := f1_.symm; have f5_ := f3_.symm; clear f1_ f2_ f3_; subst f4_; subst f5_))
     refine hK.out _ _ ⟨(blk_cell BK116.out 0).trans rfl, (blk_cell BK116.out 1).trans rfl, HS2_⟩ (fun hHeld => ?_)
     clear hK K
     refine norm_ (a' := ?_) ?_ ?_
     rotate_left
     ·show Act.put _ (some 27) _ = _
      simp only [Act.put, List.setIfInBounds_toArray, List.set_cons_zero, List.set_cons_succ, i64_w, i32_w]
      rfl
     refine last_ (i := 6) (N := none) #[true, true, true, true, true, true, true] rfl rfl (by kernel_rfl) (by decide) (fun K hK => ?_)
     have hs30 : w28.cell? ⟨gb116, 0, none⟩ = some (.slice Ao27 x117000_1.length co27) := (blk_cell BK116.out 0).trans rfl
     have hfs30 := blk_frozen BK116.out 0
     have hns30_0 := NB115_116.out
     have hms30_0 := NB116_115.out
     have hs31 : w28.cell? ⟨gb116, 1, none⟩ = some (.int .i64 x117001_1) := (blk_cell BK116.out 1).trans rfl
     have hfs31 := blk_frozen BK116.out 1
     have hns31_0 := NB115_116.out
     have hms31_0 := NB116_115.out
     refine skip_ (w1 := ?_) (by rfl) rfl ?_ ?_
     rotate_left
     ·go_simp
      rfl
     refine hK.out _ _ ?_
     clear hK K
     refine done_ (by kernel_rfl) ?_
     try go_wp2
     go_roundg k1
     case measure => have := HK1.out; omega
     case rel => exact ⟨(wrap64 (x5_1 + 1)), (t135), (t138), (.slice Ao29 t135.length co29), (by first | rfl | (simp; done) | (simp [*]; done) | (simp [bne_nil_, beq_nil_]; done)), H', ⟨by have := HK1.out; omega⟩, ⟨uR (Kd.R_mono (Kd.R_far (p := ⟨gb116, 1, none⟩) (Kd.R_far (p := ⟨gb116, 0, none⟩) (Kd.R_types HO_4.out BK116.out (by decide)) (fun _ hk => hk.2) (.slice Ao29 t135.length co29)) (fun _ hk => hk.2) (.int .i64 t138)) (fun _ hk => hk.1))⟩, ⟨uN (Kd.N_mono (Kd.N_far (p := ⟨gb116, 1, none⟩) (Kd.N_far (p := ⟨gb116, 0, none⟩) (Kd.N_mono HO137.out (fun k_ hk => (⟨hk, hk.2.2.2⟩ : _ ∧ k_ ≠ gb116))) (fun _ hk => hk.2) (.slice Ao29 t135.length co29)) (fun _ hk => hk.2) (.int .i64 t138)) (fun _ hk => ⟨hk.1.1, ⟨hk.1.2.1, ⟨hk.1.2.2.1, hk.1.2.2.2⟩⟩⟩))⟩, ⟨by (with_reducible repeat (first | refine blk_drewN ?_ _ | refine blk_drew ?_ | refine blk_alloc ?_ _)); refine blk_far ?_ NB115_116.out _; (with_reducible repeat (first | refine blk_drewN ?_ _ | refine blk_drew ?_ | refine blk_alloc ?_ _)); refine blk_far ?_ NB115_116.out _; (with_reducible repeat (first | refine blk_drewN ?_ _ | refine blk_drew ?_ | refine blk_alloc ?_ _)); exact BK115.out⟩, ⟨by (with_reducible repeat (first | refine blk_drewN ?_ _ | refine blk_drew ?_ | refine blk_alloc ?_ _)); refine blk_put (cs := #[.slice Ao29 t135.length co29, .int .i64 x117001_1]) ?_ 1 _ rfl; (with_reducible repeat (first | refine blk_drewN ?_ _ | refine blk_drew ?_ | refine blk_alloc ?_ _)); refine blk_put (cs := #[.slice Ao27 x117000_1.length co27, .int .i64 x117001_1]) ?_ 0 _ rfl; (with_reducible repeat (first | refine blk_drewN ?_ _ | refine blk_drew ?_ | refine blk_alloc ?_ _)); exact BK116.out⟩, ⟨by repeat (first | (with_reducible first | exact HB.out | apply bA | apply bN | apply bD | refine bS ?_ (by assumption)) | exact HB.out)⟩⟩
    ·rw [if_neg c23] at H
     exact absurd H (by simp)
   ·rw [if_neg c22] at H
    have c22b0 : decide (x5_1 < (y131.length : Int)) = false := decide_eq_false c22
    clear c22
    simp only [Option.some.injEq, Prod.mk.injEq] at H
    obtain ⟨rfl, rfl⟩ := H
    obtain ⟨Ao32, co32, eo32⟩ := Kd.R_slice HO_4.out
    subst eo32
    have hnb33 := NB116_115.out
    have hnc33 := NB115_116.out
    have hcz34_0 : wr.cell? ⟨gb116, 0, none⟩ = some (u117000) := (blk_cell BK116.out 0).trans rfl
    have hcz34_1 : wr.cell? ⟨gb116, 1, none⟩ = some (.int .i64 x117001_1) := (blk_cell BK116.out 1).trans rfl
    have hfz34_0 := blk_frozen BK116.out 0
    have hfz34_1 := blk_frozen BK116.out 1
    obtain ⟨Ao35, co35, eo35⟩ := Kd.N_slice HO_117000.out
    subst eo35
    have hcz36_0 : wr.cell? ⟨gb115, 0, none⟩ = some (.slice none 0 0) := (blk_cell BK115.out 0).trans rfl
    have hcz36_1 : wr.cell? ⟨gb115, 1, none⟩ = some (.int .i64 0) := (blk_cell BK115.out 1).trans rfl
    have hfz36_0 := blk_frozen BK115.out 0
    have hfz36_1 := blk_frozen BK115.out 1
    go_wp2
    refine bodyPost_ret (results_cell_row rfl _ _ gb115 29 #[.slice Ao35 x117000_1.length co35, .int .i64 x117001_1] (0, 0) _ rfl (by (with_reducible repeat (first | refine blk_drewN ?_ _ | refine blk_drew ?_ | refine blk_alloc ?_ _)); refine blk_put (cs := #[.slice Ao35 x117000_1.length co35, .int .i64 0]) ?_ 1 _ rfl; (with_reducible repeat (first | refine blk_drewN ?_ _ | refine blk_drew ?_ | refine blk_alloc ?_ _)); refine blk_put (cs := #[.slice none 0 0, .int .i64 0]) ?_ 0 _ rfl; (with_reducible repeat (first | refine blk_drewN ?_ _ | refine blk_drew ?_ | refine blk_alloc ?_ _)); exact BK115.out) Tryd.underlying29 rfl (by kernel_rfl)) rfl ?_
    exact ⟨_, by first | rfl | (simp [errW_none, errW_some] <;> rfl) | (simp [*, errW_none, errW_some] <;> rfl), uN (Kd.N_mono (Kd.N_far (p := ⟨gb115, 1, none⟩) (Kd.N_far (p := ⟨gb115, 0, none⟩) (Kd.N_mono HO_117000.out (fun k_ hk => (⟨hk, hk.2.2.1⟩ : _ ∧ k_ ≠ gb115))) (fun _ hk => hk.2) (.slice Ao35 x117000_1.length co35)) (fun _ hk => hk.2) (.int .i64 x117001_1)) (fun _ hk => hk.1.1)), by repeat (first | (with_reducible first | exact HB.out | apply bA | apply bN | apply bD | refine bS ?_ (by assumption)) | exact HB.out)⟩

/-! ### sema_Table_Find: function 28 -/
def sema_Table_Find.l0 : Nat → ByteArray → List (S64) → Int → Int → Option (ByteArray × List Int × Int × Int × Bool)
 | 0, _, _, _, _ => none
 | k + 1, x1, x9, x10, x11 => if x11 < x10 then (if 0 ≤ x11 then (if x11 < (x9.length : Int) then (if ((rd_T64 x9 x11).f0).toList = x1.toList then (some ((rd_T64 x9 x11).f0, (rd_T64 x9 x11).f1, (rd_T64 x9 x11).f2, (rd_T64 x9 x11).f3, true)) else (sema_Table_Find.l0 k x1 x9 x10 (wrap64 (x11 + 1)))) else (none)) else (none)) else (some ((⟨#[]⟩ : ByteArray), ([] : List Int), 0, 0, false))
def sema_Table_Find.f (k : Nat) (l0_0 : List (S64)) (a0_1 : Int) (a1 : ByteArray) : Option (ByteArray × List Int × Int × Int × Bool) := sema_Table_Find.l0 k a1 l0_0 (l0_0.length : Int) 0
theorem sema_Table_Find.mono_l : ∀ k, (∀ y0 y1 y2 y3, LeO (sema_Table_Find.l0 k y0 y1 y2 y3) (sema_Table_Find.l0 (k + 1) y0 y1 y2 y3))
 | 0 => fun _ _ _ _ r h => by simp [sema_Table_Find.l0] at h
 | k + 1 => by
  have ih0 := sema_Table_Find.mono_l k
  ·intro y0 y1 y2 y3
   unfold sema_Table_Find.l0
   repeat' first
   | (with_reducible exact ih0 _ _ _ _)
   | (with_reducible exact LeO.refl _)
   | (with_reducible exact LeO.none _)
   | (with_reducible refine LeO.ite ?_ ?_)
   | (with_reducible refine LeO.bind ?_ (fun _ => ?_))
   | exact ih0 _ _ _ _
   | exact LeO.none _
   | refine LeO.ite ?_ ?_
   | refine LeO.bind ?_ (fun _ => ?_)
theorem sema_Table_Find.mono : ∀ a0 a1 a2 k, LeO (sema_Table_Find.f k a0 a1 a2) (sema_Table_Find.f (k + 1) a0 a1 a2) := by
 intro a0 a1 a2 k
 have ih0 := sema_Table_Find.mono_l k
 unfold sema_Table_Find.f
 repeat' first
   | (with_reducible exact ih0 _ _ _ _)
   | (with_reducible exact LeO.refl _)
   | (with_reducible exact LeO.none _)
   | (with_reducible refine LeO.ite ?_ ?_)
   | (with_reducible refine LeO.bind ?_ (fun _ => ?_))
   | exact ih0 _ _ _ _
   | exact LeO.none _
   | refine LeO.ite ?_ ?_
   | refine LeO.bind ?_ (fun _ => ?_)
set_option maxHeartbeats 8000000 in
set_option maxRecDepth 100000 in
theorem sema_Table_Find.calls (k : Nat) (P0_0_ : Nat → Prop) (A0_0 : Option Addr) (c0_0 : Nat) (l0_0 : List (S64)) (a0_1 : Int) (a1 : ByteArray) (r1 : ByteArray) (r2 : List Int) (r3 : Int) (r4 : Int) (r5 : Bool) (w : World) (hs0_0 : Kd.V k64 64 w w.heap.size (fun k_ => P0_0_ k_) (.slice A0_0 l0_0.length c0_0) l0_0) (h : sema_Table_Find.f k l0_0 a0_1 a1 = some (r1, r2, r3, r4, r5)) :
  Calls Tryd.prog 28 #[.agg #[.slice A0_0 l0_0.length c0_0, .int .i64 a0_1], .string a1] w fun e w' => ∃ v1_ : Value, e = .returned (.tuple #[.agg #[.string r1, v1_, .int .i64 r3, .int .i64 r4], .bool r5]) ∧ Kd.V (Kd.int .i64) 2 w' w.heap.size (fun k_ => (P0_0_ k_ ∨ w.heap.size ≤ k_)) v1_ r2 ∧ Below w.heap.size w w' := by
 have hu46 := Tryd.underlying46
 have hu64 := Tryd.underlying64
 have HO0_0 := mk0 (show Kd.V k64 64 w w.heap.size (fun k_ => (P0_0_ k_ ∨ w.heap.size ≤ k_)) (.slice A0_0 l0_0.length c0_0) l0_0 from Kd.V_mono hs0_0 (fun k_ hk => .inl hk))
 have HB := mk0 (Below.refl w.heap.size w)
 have H : (sema_Table_Find.l0 k a1 l0_0 (l0_0.length : Int) 0) = some (r1, r2, r3, r4, r5) := h
 clear h
 have H' := mk0 H
 clear H
 go_enter Tryd.func28, Tryd.ntmps28
 go_wp2_with (first | ((with_reducible refine gate_dst (N := 2) rfl ?_); refine box_event ?hg (N := 2) ?hd (cs := #[.slice A0_0 l0_0.length c0_0, .int .i64 a0_1]) (t := 46) ?hr ?_; (case hd => rfl); (case hg => rfl); (case hr => first | (go_simp; done) | (go_simp; rfl)); intro gb139 hg w3 hbox hb; have n0_ := mk0 (Kd.V_below (Kd.V_elderB (uV HO0_0.out) gb139 (Nat.le_of_eq hg.symm)) hb); have n1_ := mk0 (below_step (uL HB.out) hb); have n2_ := mk0 (hbox); have n3_ := mk0 ((by rw [hg]; exact (below_size (uL HB.out)) : w.heap.size ≤ gb139)); have n4_ := mk0 ((by rw [hg]; exact (below_size (uL HB.out)) : w.heap.size ≤ gb139)); clear HO0_0; clear HB; have HO0_0 := n0_; have HB := n1_; have BK139 := n2_; have GW139 := n3_; have GE139 := n4_; clear n0_ n1_ n2_ n3_ n4_; clear hb hbox hg) | ((with_reducible refine gate_dst (N := 4) rfl ?_); refine box_event ?hg (N := 4) ?hd (cs := #[.string (⟨#[]⟩ : ByteArray), .slice none 0 0, .int .i64 0, .int .i64 0]) (t := 64) ?hr ?_; (case hd => rfl); (case hg => rfl); (case hr => first | (go_simp; done) | (go_simp; rfl)); intro gb140 hg w4 hbox hb; have n0_ := mk0 (Kd.V_below (Kd.V_elderB (uV HO0_0.out) gb140 (Nat.le_of_eq hg.symm)) hb); have n1_ := mk0 (blk_below (g := gb139) (o := .cells #[.slice A0_0 l0_0.length c0_0, .int .i64 a0_1] 46 (0, 0)) (uB BK139.out) hb); have n2_ := mk0 (below_step (by repeat (first | (with_reducible first | exact HB.out | apply bA | apply bN | apply bD | refine bS ?_ (by assumption)) | exact HB.out)) hb); have n3_ := mk0 (hbox); have n4_ := mk0 ((by rw [hg]; exact (below_size (by repeat (first | (with_reducible first | exact HB.out | apply bA | apply bN | apply bD | refine bS ?_ (by assumption)) | exact HB.out))) : w.heap.size ≤ gb140)); have n5_ := mk0 ((by rw [hg]; exact (below_size (by repeat (first | (with_reducible first | exact HB.out | apply bA | apply bN | apply bD | refine bS ?_ (by assumption)) | exact HB.out))) : w.heap.size ≤ gb140)); have n6_ := mk0 ((by rw [hg]; exact Nat.ne_of_lt (blk_lt (g := gb139) (o := .cells #[.slice A0_0 l0_0.length c0_0, .int .i64 a0_1] 46 (0, 0)) (uB BK139.out)) : gb139 ≠ gb140)); have n7_ := mk0 ((by rw [hg]; exact Nat.ne_of_gt (blk_lt (g := gb139) (o := .cells #[.slice A0_0 l0_0.length c0_0, .int .i64 a0_1] 46 (0, 0)) (uB BK139.out)) : gb140 ≠ gb139)); clear HO0_0; clear BK139; clear HB; have HO0_0 := n0_; have BK139 := n1_; have HB := n2_; have BK140 := n3_; have GW140 := n4_; have GE140 := n5_; have NB139_140 := n6_; have NB140_139 := n7_; clear n0_ n1_ n2_ n3_ n4_ n5_ n6_ n7_; clear hb hbox hg; have hnb5 := NB139_140.out; have hnc5 := NB140_139.out; have hcz6_0 : w4.cell? ⟨gb139, 0, none⟩ = some (.slice A0_0 l0_0.length c0_0) := (blk_cell BK139.out 0).trans rfl; have hcz6_1 : w4.cell? ⟨gb139, 1, none⟩ = some (.int .i64 a0_1) := (blk_cell BK139.out 1).trans rfl; have hfz6_0 := blk_frozen BK139.out 0; have hfz6_1 := blk_frozen BK139.out 1))
 go_loopg [11] k (fun kq v11 w' => ∃ (x11_1 : Int) (x141000_1 : ByteArray) (x141002_1 : Int) (x141003_1 : Int), v11 = .int .i64 x11_1 ∧ Aside0 (sema_Table_Find.l0 kq a1 l0_0 (l0_0.length : Int) x11_1 = some (r1, r2, r3, r4, r5)) ∧ Aside0 (kq ≤ k) ∧ Aside0 (Kd.V k64 64 w' w.heap.size (fun k_ => (P0_0_ k_ ∨ w.heap.size ≤ k_) ∧ k_ ≠ gb139 ∧ k_ ≠ gb140) (.slice A0_0 l0_0.length c0_0) l0_0) ∧ Aside0 (Kd.V k64 64 w' w.heap.size (fun k_ => (P0_0_ k_ ∨ w.heap.size ≤ k_) ∧ k_ ≠ gb139 ∧ k_ ≠ gb140) (.slice A0_0 l0_0.length c0_0) l0_0) ∧ Aside0 (w'.heap[gb139]? = some (.cells #[(.slice A0_0 l0_0.length c0_0), .int .i64 a0_1] 46 (0, 0))) ∧ Aside0 (w'.heap[gb140]? = some (.cells #[.string x141000_1, (.slice none 0 0), .int .i64 x141002_1, .int .i64 x141003_1] 64 (0, 0))) ∧ Aside0 (Below w.heap.size w w'))
 case atStart => exact ⟨(0), ((⟨#[]⟩ : ByteArray)), (0), (0), (by first | rfl | (simp; done) | (simp [*]; done) | (simp [bne_nil_, beq_nil_]; done)), H', ⟨Nat.le_refl _⟩, ⟨uV (Kd.V_mono HO0_0.out (fun _ hk => ⟨hk.1.1, ⟨hk.1.2, hk.2⟩⟩))⟩, ⟨uV (Kd.V_mono HO0_0.out (fun _ hk => ⟨hk.1.1, ⟨hk.1.2, hk.2⟩⟩))⟩, ⟨uB BK139.out⟩, ⟨uB BK140.out⟩, ⟨by repeat (first | (with_reducible first | exact HB.out | apply bA | apply bN | apply bD | refine bS ?_ (by assumption)) | exact HB.out)⟩⟩
 case round =>
  clear H'
  try clear c2
  try clear p2
  try clear c5
  try clear hcz6_0
  try clear hcz6_1
  try clear hfz6_0
  try clear hfz6_1
  obtain ⟨x11_1, x141000_1, x141002_1, x141003_1, rfl, HA, HK1, HO_9, HO_140000, BK139, BK140, HB⟩ := hrel
  cases gk with
  | zero => exact absurd HA.out (by simp [sema_Table_Find.l0])
  | succ k1 =>
   have H := HA.out
   clear HA
   simp only [sema_Table_Find.l0] at H
   by_cases c7 : x11_1 < (l0_0.length : Int)
   ·rw [if_pos c7] at H
    have c7b0 : decide (x11_1 < (l0_0.length : Int)) = true := decide_eq_true c7
    clear c7
    by_cases c8 : 0 ≤ x11_1
    ·rw [if_pos c8] at H
     have c8b0 : decide (0 ≤ x11_1) = true := decide_eq_true c8
     clear c8
     by_cases c9 : x11_1 < (l0_0.length : Int)
     ·rw [if_pos c9] at H
      have c9b0 : decide (x11_1 < (l0_0.length : Int)) = true := decide_eq_true c9
      clear c9
      by_cases c10 : ((rd_T64 l0_0 x11_1).f0).toList = a1.toList
      ·rw [if_pos c10] at H
       have c10b0 : (((rd_T64 l0_0 x11_1).f0).toList == a1.toList) = true := beq_iff_eq.mpr c10
       have c10b1 : (((rd_T64 l0_0 x11_1).f0).toList != a1.toList) = false := bne_eq_false_iff_eq.mpr c10
       clear c10
       simp only [Option.some.injEq, Prod.mk.injEq] at H
       obtain ⟨rfl, rfl, rfl, rfl, rfl⟩ := H
       have p141 : 0 ≤ (x11_1 : Int) := of_decide_eq_true (by first | (with_reducible assumption) | assumption)
       have q141 : x11_1 < (l0_0.length : Int) := of_decide_eq_true (by first | (with_reducible assumption) | assumption)
       obtain ⟨ad141, A141_1, c141_1, e141, hx141_0, hx141_1, hx141_2, hx141_3, hl141_1, hi141_1⟩ := at_T64 (Kd.V_reads' HO_9.out).2.2 x11_1 p141 q141
       cases e141
       obtain ⟨ce141, hce141, hMe141, hcc141⟩ := Kd.V_get HO_9.out z64 x11_1 p141 (by first | exact q141 | exact of_decide_eq_true (by first | (with_reducible assumption) | assumption) | (have e_ := (Kd.V_reads' HO_9.out).1; omega))
       obtain ⟨ua141_1, uc141_1, rfl, ul141_1, ge141_1⟩ := k64_openF hMe141
       have hv141_1 := hcc141 1 _ rfl
       rw [add_field _ _ 1 (by omega)] at hv141_1
       replace hv141_1 := Option.some.inj (hv141_1.symm.trans hx141_1)
       injection hv141_1 with hva_ hvn_ hvc_
       rw [hva_] at ge141_1
       rw [hvc_] at ul141_1
       have HL141_1 := mk0 (show Kd.V (Kd.int .i64) 2 _ w.heap.size _ _ ((rd_T64 l0_0 x11_1).f1) from Kd.V_mk ul141_1 ge141_1)
       clear hva_ hvn_ hvc_ ge141_1 ul141_1
       clear hcc141 hce141
       have HR141_1 := mk0 hi141_1
       have HC141_1 := mk0 hl141_1
       clear hi141_1 hl141_1
       replace p141 := eq_true p141
       replace q141 := eq_true q141
       go_wp2_with (first | ((with_reducible refine gate_dst (N := 7) rfl ?_); refine box_event ?hg (N := 7) ?hd (cs := #[.string (⟨#[]⟩ : ByteArray), .slice none 0 0, .int .i64 0, .int .i64 0]) (t := 64) ?hr ?_; (case hd => rfl); (case hg => rfl); (case hr => first | (go_simp; done) | (go_simp; rfl)); intro gb142 hg w11 hbox hb; have n0_ := mk0 (Kd.V_below (Kd.V_elderB (uV HO_9.out) gb142 (Nat.le_of_eq hg.symm)) hb); have n1_ := mk0 (Kd.V_below (Kd.V_elderB (uV HO_140000.out) gb142 (Nat.le_of_eq hg.symm)) hb); have n2_ := mk0 (Kd.V_below (Kd.V_elderB (uV HL141_1.out) gb142 (Nat.le_of_eq hg.symm)) hb); have n3_ := mk0 (blk_below (g := gb139) (o := .cells #[.slice (some ad141) l0_0.length c0_0, .int .i64 a0_1] 46 (0, 0)) (uB BK139.out) hb); have n4_ := mk0 (blk_below (g := gb140) (o := .cells #[.string x141000_1, .slice none 0 0, .int .i64 x141002_1, .int .i64 x141003_1] 64 (0, 0)) (uB BK140.out) hb); have n6_ := mk0 (below_step (by repeat (first | (with_reducible first | exact HB.out | apply bA | apply bN | apply bD | refine bS ?_ (by assumption)) | exact HB.out)) hb); have n7_ := mk0 (hbox); have n8_ := mk0 ((by rw [hg]; exact (below_size (by repeat (first | (with_reducible first | exact HB.out | apply bA | apply bN | apply bD | refine bS ?_ (by assumption)) | exact HB.out))) : w.heap.size ≤ gb142)); have n9_ := mk0 ((by rw [hg]; exact (below_size (by repeat (first | (with_reducible first | exact HB.out | apply bA | apply bN | apply bD | refine bS ?_ (by assumption)) | exact HB.out))) : w.heap.size ≤ gb142)); have n10_ := mk0 ((by rw [hg]; exact Nat.ne_of_lt (blk_lt (g := gb139) (o := .cells #[.slice (some ad141) l0_0.length c0_0, .int .i64 a0_1] 46 (0, 0)) (uB BK139.out)) : gb139 ≠ gb142)); have n11_ := mk0 ((by rw [hg]; exact Nat.ne_of_gt (blk_lt (g := gb139) (o := .cells #[.slice (some ad141) l0_0.length c0_0, .int .i64 a0_1] 46 (0, 0)) (uB BK139.out)) : gb142 ≠ gb139)); have n12_ := mk0 ((by rw [hg]; exact Nat.ne_of_lt (blk_lt (g := gb140) (o := .cells #[.string x141000_1, .slice none 0 0, .int .i64 x141002_1, .int .i64 x141003_1] 64 (0, 0)) (uB BK140.out)) : gb140 ≠ gb142)); have n13_ := mk0 ((by rw [hg]; exact Nat.ne_of_gt (blk_lt (g := gb140) (o := .cells #[.string x141000_1, .slice none 0 0, .int .i64 x141002_1, .int .i64 x141003_1] 64 (0, 0)) (uB BK140.out)) : gb142 ≠ gb140)); clear HO_9; clear HO_140000; clear HL141_1; clear BK139; clear BK140; clear HB; have HO_9 := n0_; have HO_140000 := n1_; have HL141_1 := n2_; have BK139 := n3_; have BK140 := n4_; have HB := n6_; have BK142 := n7_; have GW142 := n8_; have GE142 := n9_; have NB139_142 := n10_; have NB142_139 := n11_; have NB140_142 := n12_; have NB142_140 := n13_; clear n0_ n1_ n2_ n3_ n4_ n6_ n7_ n8_ n9_ n10_ n11_ n12_ n13_; clear hb hbox hg; have hnb12 := NB142_139.out; have hnc12 := NB139_142.out; have hnb13 := NB142_140.out; have hnc13 := NB140_142.out; have hcz14_0 : w11.cell? ⟨gb142, 0, none⟩ = some (.string (⟨#[]⟩ : ByteArray)) := (blk_cell BK142.out 0).trans rfl; have hcz14_1 : w11.cell? ⟨gb142, 1, none⟩ = some (.slice none 0 0) := (blk_cell BK142.out 1).trans rfl; have hcz14_2 : w11.cell? ⟨gb142, 2, none⟩ = some (.int .i64 0) := (blk_cell BK142.out 2).trans rfl; have hcz14_3 : w11.cell? ⟨gb142, 3, none⟩ = some (.int .i64 0) := (blk_cell BK142.out 3).trans rfl; have hfz14_0 := blk_frozen BK142.out 0; have hfz14_1 := blk_frozen BK142.out 1; have hfz14_2 := blk_frozen BK142.out 2; have hfz14_3 := blk_frozen BK142.out 3; have hnb15 := NB140_139.out; have hnc15 := NB139_140.out; have hcz16_0 : w11.cell? ⟨gb140, 0, none⟩ = some (.string x141000_1) := (blk_cell BK140.out 0).trans rfl; have hcz16_1 : w11.cell? ⟨gb140, 1, none⟩ = some (.slice none 0 0) := (blk_cell BK140.out 1).trans rfl; have hcz16_2 : w11.cell? ⟨gb140, 2, none⟩ = some (.int .i64 x141002_1) := (blk_cell BK140.out 2).trans rfl; have hcz16_3 : w11.cell? ⟨gb140, 3, none⟩ = some (.int .i64 x141003_1) := (blk_cell BK140.out 3).trans rfl; have hfz16_0 := blk_frozen BK140.out 0; have hfz16_1 := blk_frozen BK140.out 1; have hfz16_2 := blk_frozen BK140.out 2; have hfz16_3 := blk_frozen BK140.out 3))
       refine bodyPost_ret (results_ct rfl _ _ gb140 64 #[.string ((rd_T64 l0_0 x11_1).f0), .slice A141_1 ((rd_T64 l0_0 x11_1).f1).length c141_1, .int .i64 ((rd_T64 l0_0 x11_1).f2), .int .i64 ((rd_T64 l0_0 x11_1).f3)] (0, 0) _ rfl (by (with_reducible repeat (first | refine blk_drewN ?_ _ | refine blk_drew ?_ | refine blk_alloc ?_ _)); refine blk_put (cs := #[.string ((rd_T64 l0_0 x11_1).f0), .slice A141_1 ((rd_T64 l0_0 x11_1).f1).length c141_1, .int .i64 ((rd_T64 l0_0 x11_1).f2), .int .i64 x141003_1]) ?_ 3 _ rfl; (with_reducible repeat (first | refine blk_drewN ?_ _ | refine blk_drew ?_ | refine blk_alloc ?_ _)); refine blk_put (cs := #[.string ((rd_T64 l0_0 x11_1).f0), .slice A141_1 ((rd_T64 l0_0 x11_1).f1).length c141_1, .int .i64 x141002_1, .int .i64 x141003_1]) ?_ 2 _ rfl; (with_reducible repeat (first | refine blk_drewN ?_ _ | refine blk_drew ?_ | refine blk_alloc ?_ _)); refine blk_put (cs := #[.string ((rd_T64 l0_0 x11_1).f0), .slice none 0 0, .int .i64 x141002_1, .int .i64 x141003_1]) ?_ 1 _ rfl; (with_reducible repeat (first | refine blk_drewN ?_ _ | refine blk_drew ?_ | refine blk_alloc ?_ _)); refine blk_put (cs := #[.string x141000_1, .slice none 0 0, .int .i64 x141002_1, .int .i64 x141003_1]) ?_ 0 _ rfl; (with_reducible repeat (first | refine blk_drewN ?_ _ | refine blk_drew ?_ | refine blk_alloc ?_ _)); refine blk_far ?_ NB140_142.out _; (with_reducible repeat (first | refine blk_drewN ?_ _ | refine blk_drew ?_ | refine blk_alloc ?_ _)); refine blk_far ?_ NB140_142.out _; (with_reducible repeat (first | refine blk_drewN ?_ _ | refine blk_drew ?_ | refine blk_alloc ?_ _)); refine blk_far ?_ NB140_142.out _; (with_reducible repeat (first | refine blk_drewN ?_ _ | refine blk_drew ?_ | refine blk_alloc ?_ _)); refine blk_far ?_ NB140_142.out _; (with_reducible repeat (first | refine blk_drewN ?_ _ | refine blk_drew ?_ | refine blk_alloc ?_ _)); exact BK140.out) Tryd.underlying64 rfl (by kernel_rfl)) rfl ?_
       exact ⟨_, by first | rfl | (simp [errW_none, errW_some] <;> rfl) | (simp [*, errW_none, errW_some] <;> rfl), uV (Kd.V_mono (Kd.V_far (p := ⟨gb140, 3, none⟩) (Kd.V_far (p := ⟨gb140, 2, none⟩) (Kd.V_far (p := ⟨gb140, 1, none⟩) (Kd.V_far (p := ⟨gb140, 0, none⟩) (Kd.V_far (p := ⟨gb142, 3, none⟩) (Kd.V_far (p := ⟨gb142, 2, none⟩) (Kd.V_far (p := ⟨gb142, 1, none⟩) (Kd.V_far (p := ⟨gb142, 0, none⟩) (Kd.V_mono (Kd.V_mono HL141_1.out (fun k_ hk => (⟨hk, hk.2⟩ : _ ∧ k_ ≠ gb142))) (fun k_ hk => (⟨hk, hk.1.1.2.2⟩ : _ ∧ k_ ≠ gb140))) (fun _ hk => hk.1.2) (.string ((rd_T64 l0_0 x11_1).f0))) (fun _ hk => hk.1.2) (.slice A141_1 ((rd_T64 l0_0 x11_1).f1).length c141_1)) (fun _ hk => hk.1.2) (.int .i64 ((rd_T64 l0_0 x11_1).f2))) (fun _ hk => hk.1.2) (.int .i64 ((rd_T64 l0_0 x11_1).f3))) (fun _ hk => hk.2) (.string ((rd_T64 l0_0 x11_1).f0))) (fun _ hk => hk.2) (.slice A141_1 ((rd_T64 l0_0 x11_1).f1).length c141_1)) (fun _ hk => hk.2) (.int .i64 ((rd_T64 l0_0 x11_1).f2))) (fun _ hk => hk.2) (.int .i64 ((rd_T64 l0_0 x11_1).f3))) (fun _ hk => hk.1.1.1.1)), by repeat (first | (with_reducible first | exact HB.out | apply bA | apply bN | apply bD | refine bS ?_ (by assumption)) | exact HB.out)⟩
      ·rw [if_neg c10] at H
       have c10b0 : (((rd_T64 l0_0 x11_1).f0).toList == a1.toList) = false := beq_eq_false_iff_ne.mpr c10
       have c10b1 : (((rd_T64 l0_0 x11_1).f0).toList != a1.toList) = true := bne_iff_ne.mpr c10
       have H' := mk0 H
       clear H
       have p141 : 0 ≤ (x11_1 : Int) := of_decide_eq_true (by first | (with_reducible assumption) | assumption)
       have q141 : x11_1 < (l0_0.length : Int) := of_decide_eq_true (by first | (with_reducible assumption) | assumption)
       obtain ⟨ad141, A141_1, c141_1, e141, hx141_0, hx141_1, hx141_2, hx141_3, hl141_1, hi141_1⟩ := at_T64 (Kd.V_reads' HO_9.out).2.2 x11_1 p141 q141
       cases e141
       obtain ⟨ce141, hce141, hMe141, hcc141⟩ := Kd.V_get HO_9.out z64 x11_1 p141 (by first | exact q141 | exact of_decide_eq_true (by first | (with_reducible assumption) | assumption) | (have e_ := (Kd.V_reads' HO_9.out).1; omega))
       obtain ⟨ua141_1, uc141_1, rfl, ul141_1, ge141_1⟩ := k64_openF hMe141
       have hv141_1 := hcc141 1 _ rfl
       rw [add_field _ _ 1 (by omega)] at hv141_1
       replace hv141_1 := Option.some.inj (hv141_1.symm.trans hx141_1)
       injection hv141_1 with hva_ hvn_ hvc_
       rw [hva_] at ge141_1
       rw [hvc_] at ul141_1
       have HL141_1 := mk0 (show Kd.V (Kd.int .i64) 2 _ w.heap.size _ _ ((rd_T64 l0_0 x11_1).f1) from Kd.V_mk ul141_1 ge141_1)
       clear hva_ hvn_ hvc_ ge141_1 ul141_1
       clear hcc141 hce141
       have HR141_1 := mk0 hi141_1
       have HC141_1 := mk0 hl141_1
       clear hi141_1 hl141_1
       replace p141 := eq_true p141
       replace q141 := eq_true q141
       go_wp2_with (first | ((with_reducible refine gate_dst (N := 7) rfl ?_); refine box_event ?hg (N := 7) ?hd (cs := #[.string (⟨#[]⟩ : ByteArray), .slice none 0 0, .int .i64 0, .int .i64 0]) (t := 64) ?hr ?_; (case hd => rfl); (case hg => rfl); (case hr => first | (go_simp; done) | (go_simp; rfl)); intro gb142 hg w17 hbox hb; have n0_ := mk0 (Kd.V_below (Kd.V_elderB (uV HO_9.out) gb142 (Nat.le_of_eq hg.symm)) hb); have n1_ := mk0 (Kd.V_below (Kd.V_elderB (uV HO_140000.out) gb142 (Nat.le_of_eq hg.symm)) hb); have n2_ := mk0 (Kd.V_below (Kd.V_elderB (uV HL141_1.out) gb142 (Nat.le_of_eq hg.symm)) hb); have n3_ := mk0 (blk_below (g := gb139) (o := .cells #[.slice (some ad141) l0_0.length c0_0, .int .i64 a0_1] 46 (0, 0)) (uB BK139.out) hb); have n4_ := mk0 (blk_below (g := gb140) (o := .cells #[.string x141000_1, .slice none 0 0, .int .i64 x141002_1, .int .i64 x141003_1] 64 (0, 0)) (uB BK140.out) hb); have n6_ := mk0 (below_step (by repeat (first | (with_reducible first | exact HB.out | apply bA | apply bN | apply bD | refine bS ?_ (by assumption)) | exact HB.out)) hb); have n7_ := mk0 (hbox); have n8_ := mk0 ((by rw [hg]; exact (below_size (by repeat (first | (with_reducible first | exact HB.out | apply bA | apply bN | apply bD | refine bS ?_ (by assumption)) | exact HB.out))) : w.heap.size ≤ gb142)); have n9_ := mk0 ((by rw [hg]; exact (below_size (by repeat (first | (with_reducible first | exact HB.out | apply bA | apply bN | apply bD | refine bS ?_ (by assumption)) | exact HB.out))) : w.heap.size ≤ gb142)); have n10_ := mk0 ((by rw [hg]; exact Nat.ne_of_lt (blk_lt (g := gb139) (o := .cells #[.slice (some ad141) l0_0.length c0_0, .int .i64 a0_1] 46 (0, 0)) (uB BK139.out)) : gb139 ≠ gb142)); have n11_ := mk0 ((by rw [hg]; exact Nat.ne_of_gt (blk_lt (g := gb139) (o := .cells #[.slice (some ad141) l0_0.length c0_0, .int .i64 a0_1] 46 (0, 0)) (uB BK139.out)) : gb142 ≠ gb139)); have n12_ := mk0 ((by rw [hg]; exact Nat.ne_of_lt (blk_lt (g := gb140) (o := .cells #[.string x141000_1, .slice none 0 0, .int .i64 x141002_1, .int .i64 x141003_1] 64 (0, 0)) (uB BK140.out)) : gb140 ≠ gb142)); have n13_ := mk0 ((by rw [hg]; exact Nat.ne_of_gt (blk_lt (g := gb140) (o := .cells #[.string x141000_1, .slice none 0 0, .int .i64 x141002_1, .int .i64 x141003_1] 64 (0, 0)) (uB BK140.out)) : gb142 ≠ gb140)); clear HO_9; clear HO_140000; clear HL141_1; clear BK139; clear BK140; clear HB; have HO_9 := n0_; have HO_140000 := n1_; have HL141_1 := n2_; have BK139 := n3_; have BK140 := n4_; have HB := n6_; have BK142 := n7_; have GW142 := n8_; have GE142 := n9_; have NB139_142 := n10_; have NB142_139 := n11_; have NB140_142 := n12_; have NB142_140 := n13_; clear n0_ n1_ n2_ n3_ n4_ n6_ n7_ n8_ n9_ n10_ n11_ n12_ n13_; clear hb hbox hg; have hnb18 := NB142_139.out; have hnc18 := NB139_142.out; have hnb19 := NB142_140.out; have hnc19 := NB140_142.out; have hcz20_0 : w17.cell? ⟨gb142, 0, none⟩ = some (.string (⟨#[]⟩ : ByteArray)) := (blk_cell BK142.out 0).trans rfl; have hcz20_1 : w17.cell? ⟨gb142, 1, none⟩ = some (.slice none 0 0) := (blk_cell BK142.out 1).trans rfl; have hcz20_2 : w17.cell? ⟨gb142, 2, none⟩ = some (.int .i64 0) := (blk_cell BK142.out 2).trans rfl; have hcz20_3 : w17.cell? ⟨gb142, 3, none⟩ = some (.int .i64 0) := (blk_cell BK142.out 3).trans rfl; have hfz20_0 := blk_frozen BK142.out 0; have hfz20_1 := blk_frozen BK142.out 1; have hfz20_2 := blk_frozen BK142.out 2; have hfz20_3 := blk_frozen BK142.out 3))
       go_roundg k1
       case measure => have := HK1.out; omega
       case rel => exact ⟨(wrap64 (x11_1 + 1)), (x141000_1), (x141002_1), (x141003_1), (by first | rfl | (simp; done) | (simp [*]; done) | (simp [bne_nil_, beq_nil_]; done)), H', ⟨by have := HK1.out; omega⟩, ⟨uV (Kd.V_mono (Kd.V_far (p := ⟨gb142, 3, none⟩) (Kd.V_far (p := ⟨gb142, 2, none⟩) (Kd.V_far (p := ⟨gb142, 1, none⟩) (Kd.V_far (p := ⟨gb142, 0, none⟩) (Kd.V_mono HO_9.out (fun k_ hk => (⟨hk, hk.2⟩ : _ ∧ k_ ≠ gb142))) (fun _ hk => hk.2) (.string ((rd_T64 l0_0 x11_1).f0))) (fun _ hk => hk.2) (.slice A141_1 ((rd_T64 l0_0 x11_1).f1).length c141_1)) (fun _ hk => hk.2) (.int .i64 ((rd_T64 l0_0 x11_1).f2))) (fun _ hk => hk.2) (.int .i64 ((rd_T64 l0_0 x11_1).f3))) (fun _ hk => ⟨hk.1.1.1, ⟨hk.1.1.2.1, hk.1.1.2.2⟩⟩))⟩, ⟨uV (Kd.V_mono (Kd.V_far (p := ⟨gb142, 3, none⟩) (Kd.V_far (p := ⟨gb142, 2, none⟩) (Kd.V_far (p := ⟨gb142, 1, none⟩) (Kd.V_far (p := ⟨gb142, 0, none⟩) (Kd.V_mono HO_140000.out (fun k_ hk => (⟨hk, hk.2⟩ : _ ∧ k_ ≠ gb142))) (fun _ hk => hk.2) (.string ((rd_T64 l0_0 x11_1).f0))) (fun _ hk => hk.2) (.slice A141_1 ((rd_T64 l0_0 x11_1).f1).length c141_1)) (fun _ hk => hk.2) (.int .i64 ((rd_T64 l0_0 x11_1).f2))) (fun _ hk => hk.2) (.int .i64 ((rd_T64 l0_0 x11_1).f3))) (fun _ hk => ⟨hk.1.1.1, ⟨hk.1.1.2.1, hk.1.1.2.2⟩⟩))⟩, ⟨by (with_reducible repeat (first | refine blk_drewN ?_ _ | refine blk_drew ?_ | refine blk_alloc ?_ _)); refine blk_far ?_ NB139_142.out _; (with_reducible repeat (first | refine blk_drewN ?_ _ | refine blk_drew ?_ | refine blk_alloc ?_ _)); refine blk_far ?_ NB139_142.out _; (with_reducible repeat (first | refine blk_drewN ?_ _ | refine blk_drew ?_ | refine blk_alloc ?_ _)); refine blk_far ?_ NB139_142.out _; (with_reducible repeat (first | refine blk_drewN ?_ _ | refine blk_drew ?_ | refine blk_alloc ?_ _)); refine blk_far ?_ NB139_142.out _; (with_reducible repeat (first | refine blk_drewN ?_ _ | refine blk_drew ?_ | refine blk_alloc ?_ _)); exact BK139.out⟩, ⟨by (with_reducible repeat (first | refine blk_drewN ?_ _ | refine blk_drew ?_ | refine blk_alloc ?_ _)); refine blk_far ?_ NB140_142.out _; (with_reducible repeat (first | refine blk_drewN ?_ _ | refine blk_drew ?_ | refine blk_alloc ?_ _)); refine blk_far ?_ NB140_142.out _; (with_reducible repeat (first | refine blk_drewN ?_ _ | refine blk_drew ?_ | refine blk_alloc ?_ _)); refine blk_far ?_ NB140_142.out _; (with_reducible repeat (first | refine blk_drewN ?_ _ | refine blk_drew ?_ | refine blk_alloc ?_ _)); refine blk_far ?_ NB140_142.out _; (with_reducible repeat (first | refine blk_drewN ?_ _ | refine blk_drew ?_ | refine blk_alloc ?_ _)); exact BK140.out⟩, ⟨by repeat (first | (with_reducible first | exact HB.out | apply bA | apply bN | apply bD | refine bS ?_ (by assumption)) | exact HB.out)⟩⟩
     ·rw [if_neg c9] at H
      exact absurd H (by simp)
    ·rw [if_neg c8] at H
     exact absurd H (by simp)
   ·rw [if_neg c7] at H
    have c7b0 : decide (x11_1 < (l0_0.length : Int)) = false := decide_eq_false c7
    clear c7
    simp only [Option.some.injEq, Prod.mk.injEq] at H
    obtain ⟨rfl, rfl, rfl, rfl, rfl⟩ := H
    have hnb21 := NB140_139.out
    have hnc21 := NB139_140.out
    have hcz22_0 : wr.cell? ⟨gb140, 0, none⟩ = some (.string x141000_1) := (blk_cell BK140.out 0).trans rfl
    have hcz22_1 : wr.cell? ⟨gb140, 1, none⟩ = some (.slice none 0 0) := (blk_cell BK140.out 1).trans rfl
    have hcz22_2 : wr.cell? ⟨gb140, 2, none⟩ = some (.int .i64 x141002_1) := (blk_cell BK140.out 2).trans rfl
    have hcz22_3 : wr.cell? ⟨gb140, 3, none⟩ = some (.int .i64 x141003_1) := (blk_cell BK140.out 3).trans rfl
    have hfz22_0 := blk_frozen BK140.out 0
    have hfz22_1 := blk_frozen BK140.out 1
    have hfz22_2 := blk_frozen BK140.out 2
    have hfz22_3 := blk_frozen BK140.out 3
    go_wp2
    refine bodyPost_ret (results_ct rfl _ _ gb140 64 #[.string (⟨#[]⟩ : ByteArray), .slice none 0 0, .int .i64 0, .int .i64 0] (0, 0) _ rfl (by (with_reducible repeat (first | refine blk_drewN ?_ _ | refine blk_drew ?_ | refine blk_alloc ?_ _)); refine blk_put (cs := #[.string (⟨#[]⟩ : ByteArray), .slice none 0 0, .int .i64 0, .int .i64 x141003_1]) ?_ 3 _ rfl; (with_reducible repeat (first | refine blk_drewN ?_ _ | refine blk_drew ?_ | refine blk_alloc ?_ _)); refine blk_put (cs := #[.string (⟨#[]⟩ : ByteArray), .slice none 0 0, .int .i64 x141002_1, .int .i64 x141003_1]) ?_ 2 _ rfl; (with_reducible repeat (first | refine blk_drewN ?_ _ | refine blk_drew ?_ | refine blk_alloc ?_ _)); refine blk_put (cs := #[.string (⟨#[]⟩ : ByteArray), .slice none 0 0, .int .i64 x141002_1, .int .i64 x141003_1]) ?_ 1 _ rfl; (with_reducible repeat (first | refine blk_drewN ?_ _ | refine blk_drew ?_ | refine blk_alloc ?_ _)); refine blk_put (cs := #[.string x141000_1, .slice none 0 0, .int .i64 x141002_1, .int .i64 x141003_1]) ?_ 0 _ rfl; (with_reducible repeat (first | refine blk_drewN ?_ _ | refine blk_drew ?_ | refine blk_alloc ?_ _)); exact BK140.out) Tryd.underlying64 rfl (by kernel_rfl)) rfl ?_
    exact ⟨_, by first | rfl | (simp [errW_none, errW_some] <;> rfl) | (simp [*, errW_none, errW_some] <;> rfl), (Kd.V_nil _ _ _ _ _), by repeat (first | (with_reducible first | exact HB.out | apply bA | apply bN | apply bD | refine bS ?_ (by assumption)) | exact HB.out)⟩

end Go.Proofs.YtmhkijidnpihmaaDoor.X
