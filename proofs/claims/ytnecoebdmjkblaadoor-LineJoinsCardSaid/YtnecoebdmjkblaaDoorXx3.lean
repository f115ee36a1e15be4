-- PRINTED by print.py (a twelfth state) out of the translation. Not trusted: Lean checks it.
import Derived.Test.YtnecoebdmjkblaaDoorXx0
import Derived.Test.YtnecoebdmjkblaaDoorXx2
namespace Go.Proofs.YtnecoebdmjkblaaDoor.X
open Go.Proofs.YtnecoebdmjkblaaDoor.Flt Go.Proofs.YtnecoebdmjkblaaDoor.H Go.RowKit Go.Proofs.YtnecoebdmjkblaaDoorW.PrintWords Go.Proofs.YtnecoebdmjkblaaDoorW.PrintLast Go.Proofs.YtnecoebdmjkblaaDoorW.PrintMore
attribute [local go_sem] max2_int min2_int max_two min_two max_three min_three max_four min_four   -- for this text's walks alone
set_option linter.unusedVariables false
set_option linter.unusedSimpArgs false

/-! ### furrowref4_Split: function 16 -/
mutual
def furrowref4_Split.l0 : Nat → List ByteArray → Int → Option (List ByteArray × (List (S63)) × Int)
 | 0, _, _ => none
 | k + 1, x4, x5 => if x5 < (x4.length : Int) then (if 0 ≤ x5 then (if ((rdOf ByteArray.empty x4 x5).size : Int) > 200 then ((furrowref4_At.f (⟨#[108, 105, 110, 101]⟩ : ByteArray) x5 4).bind fun bt183 => (some (([] : List ByteArray), bt183.1, bt183.2))) else (furrowref4_Split.l1 k x4 x5 0)) else (none)) else (some (x4, ([] : List (S63)), 0))
def furrowref4_Split.l1 : Nat → List ByteArray → Int → Int → Option (List ByteArray × (List (S63)) × Int)
 | 0, _, _, _ => none
 | k + 1, x4, x5, x6 => if 0 ≤ x5 then (if x5 < (x4.length : Int) then (if x6 < ((rdOf ByteArray.empty x4 x5).size : Int) then (if 0 ≤ x6 then (if (bt (rdOf ByteArray.empty x4 x5) x6) < 32 then (if (bt (rdOf ByteArray.empty x4 x5) x6) = 9 then (furrowref4_Split.l1 k x4 x5 (wrap64 (x6 + 1))) else (if (bt (rdOf ByteArray.empty x4 x5) x6) = 10 then (furrowref4_Split.l1 k x4 x5 (wrap64 (x6 + 1))) else ((furrowref4_At.f (⟨#[108, 105, 110, 101]⟩ : ByteArray) x5 3).bind fun bt189 => (some (([] : List ByteArray), bt189.1, bt189.2))))) else (if (bt (rdOf ByteArray.empty x4 x5) x6) > 126 then (if (bt (rdOf ByteArray.empty x4 x5) x6) = 9 then (furrowref4_Split.l1 k x4 x5 (wrap64 (x6 + 1))) else (if (bt (rdOf ByteArray.empty x4 x5) x6) = 10 then (furrowref4_Split.l1 k x4 x5 (wrap64 (x6 + 1))) else ((furrowref4_At.f (⟨#[108, 105, 110, 101]⟩ : ByteArray) x5 3).bind fun bt193 => (some (([] : List ByteArray), bt193.1, bt193.2))))) else (furrowref4_Split.l1 k x4 x5 (wrap64 (x6 + 1))))) else (none)) else (furrowref4_Split.l0 k x4 (wrap64 (x5 + 1)))) else (none)) else (none)
end
def furrowref4_Split.f (k : Nat) (a0 : ByteArray) : Option (List ByteArray × (List (S63)) × Int) := if (a0.size : Int) > 65536 then ((furrowref4_At.f (⟨#[116, 101, 120, 116]⟩ : ByteArray) 0 4).bind fun bt175 => (some (([] : List ByteArray), bt175.1, bt175.2))) else ((furrowref4_Lines.f k a0).bind fun t179 => (furrowref4_Split.l0 k t179 0))
theorem furrowref4_Split.mono_l : ∀ k, (∀ y0 y1, LeO (furrowref4_Split.l0 k y0 y1) (furrowref4_Split.l0 (k + 1) y0 y1)) ∧ (∀ y0 y1 y2, LeO (furrowref4_Split.l1 k y0 y1 y2) (furrowref4_Split.l1 (k + 1) y0 y1 y2))
 | 0 => ⟨fun _ _ r h => by simp [furrowref4_Split.l0] at h, fun _ _ _ r h => by simp [furrowref4_Split.l1] at h⟩
 | k + 1 => by
  obtain ⟨ih0, ih1⟩ := furrowref4_Split.mono_l k
  refine ⟨?_, ?_⟩
  ·intro y0 y1
   unfold furrowref4_Split.l0
   repeat' first
   | (with_reducible exact ih0 _ _)
   | (with_reducible exact ih1 _ _ _)
   | (with_reducible exact furrowref4_Lines.mono _ _)
   | (with_reducible exact LeO.refl _)
   | (with_reducible exact LeO.none _)
   | (with_reducible refine LeO.ite ?_ ?_)
   | (with_reducible refine LeO.bind ?_ (fun _ => ?_))
   | exact ih0 _ _
   | exact ih1 _ _ _
   | exact furrowref4_Lines.mono _ _
   | exact LeO.none _
   | refine LeO.ite ?_ ?_
   | refine LeO.bind ?_ (fun _ => ?_)
  ·intro y0 y1 y2
   unfold furrowref4_Split.l1
   repeat' first
   | (with_reducible exact ih0 _ _)
   | (with_reducible exact ih1 _ _ _)
   | (with_reducible exact furrowref4_Lines.mono _ _)
   | (with_reducible exact LeO.refl _)
   | (with_reducible exact LeO.none _)
   | (with_reducible refine LeO.ite ?_ ?_)
   | (with_reducible refine LeO.bind ?_ (fun _ => ?_))
   | exact ih0 _ _
   | exact ih1 _ _ _
   | exact furrowref4_Lines.mono _ _
   | exact LeO.none _
   | refine LeO.ite ?_ ?_
   | refine LeO.bind ?_ (fun _ => ?_)
theorem furrowref4_Split.mono : ∀ a0 k, LeO (furrowref4_Split.f k a0) (furrowref4_Split.f (k + 1) a0) := by
 intro a0 k
 obtain ⟨ih0, ih1⟩ := furrowref4_Split.mono_l k
 unfold furrowref4_Split.f
 repeat' first
   | (with_reducible exact ih0 _ _)
   | (with_reducible exact ih1 _ _ _)
   | (with_reducible exact furrowref4_Lines.mono _ _)
   | (with_reducible exact LeO.refl _)
   | (with_reducible exact LeO.none _)
   | (with_reducible refine LeO.ite ?_ ?_)
   | (with_reducible refine LeO.bind ?_ (fun _ => ?_))
   | exact ih0 _ _
   | exact ih1 _ _ _
   | exact furrowref4_Lines.mono _ _
   | exact LeO.none _
   | refine LeO.ite ?_ ?_
   | refine LeO.bind ?_ (fun _ => ?_)
set_option maxHeartbeats 8000000 in
set_option maxRecDepth 100000 in
theorem furrowref4_Split.calls (k : Nat) (a0 : ByteArray) (r1 : List ByteArray) (r2 : List (S63)) (r3 : Int) (w : World) (h : furrowref4_Split.f k a0 = some (r1, r2, r3)) :
  Calls Tryd.prog 16 #[.string a0] w fun e w' => ∃ v0_ v1_ : Value, e = .returned (.tuple #[v0_, .agg #[v1_, .int .i64 r3]]) ∧ Kd.R Kd.string 9 w' w.heap.size (fun _ => True) v0_ r1 ∧ Kd.R k63 63 w' w.heap.size (fun _ => True) v1_ r2 ∧ Below w.heap.size w w' := by
 have hu36 := Tryd.underlying36
 have HB := mk0 (Below.refl w.heap.size w)
 have H : (if (a0.size : Int) > 65536 then ((furrowref4_At.f (⟨#[116, 101, 120, 116]⟩ : ByteArray) 0 4).bind fun bt175 => (some (([] : List ByteArray), bt175.1, bt175.2))) else ((furrowref4_Lines.f k a0).bind fun t179 => (furrowref4_Split.l0 k t179 0))) = some (r1, r2, r3) := h
 clear h
 by_cases c2 : (a0.size : Int) > 65536
 ·rw [if_pos c2] at H
  have c2b0 : decide (65536 < (a0.size : Int)) = true := decide_eq_true c2
  have c2b1 : decide (65536 < a0.size) = true := decide_eq_true (by omega)
  clear c2
  replace H := Option.bind_eq_some_iff.mp H
  obtain ⟨⟨t175, t178⟩, A30, H⟩ := H
  replace H : (some (([] : List ByteArray), t175, t178)) = some (r1, r2, r3) := H
  have A3 := mk0 A30
  clear A30
  simp only [Option.some.injEq, Prod.mk.injEq] at H
  obtain ⟨rfl, rfl, rfl⟩ := H
  go_enter Tryd.func16, Tryd.ntmps16
  go_wp2_with (first | ((with_reducible refine gate_dst (N := 3) rfl ?_); refine box_event ?hg (N := 3) ?hd (cs := #[.slice none 0 0, .int .i64 0]) (t := 36) ?hr ?_; (case hd => rfl); (case hg => rfl); (case hr => first | (go_simp; done) | (go_simp; rfl)); intro gb174 hg w4 hbox hb; have n0_ := mk0 (below_step (uL HB.out) hb); have n1_ := mk0 (hbox); have n2_ := mk0 ((by rw [hg]; exact (below_size (uL HB.out)) : w.heap.size ≤ gb174)); have n3_ := mk0 ((by rw [hg]; exact (below_size (uL HB.out)) : w.heap.size ≤ gb174)); clear HB; have HB := n0_; have BK174 := n1_; have GW174 := n2_; have GE174 := n3_; clear n0_ n1_ n2_ n3_; clear hb hbox hg) | ((with_reducible refine gate_callee (f := 18) rfl ?_); refine goesL_ (some 11) rfl rfl Tryd.func18 (by kernel_rfl) rfl #[.string (⟨#[116, 101, 120, 116]⟩ : ByteArray), .int .i64 0, .int .i64 4] rfl (by (try simp only [List.map_toArray, List.map_cons, List.map_nil]); first | done | rfl | (simp only [List.length_drop, List.length_take]; rfl)) ?_; (with_reducible refine (furrowref4_At.calls (⟨#[116, 101, 120, 116]⟩ : ByteArray) 0 4 t175 t178 _ A3.out).mono ?_); rintro e w5 ⟨v176, rfl, ho0, hb⟩; refine ⟨_, rfl, ?_⟩; have n0_ := mk0 (Kd.R_lower ho0 (below_size (by repeat (first | (with_reducible first | exact HB.out | apply bA | apply bN | apply bD | refine bS ?_ (by assumption)) | exact HB.out)))); have n1_ := mk0 (blk_below (g := gb174) (o := .cells #[.slice none 0 0, .int .i64 0] 36 (0, 0)) (uB BK174.out) hb); have n2_ := mk0 (below_step (by repeat (first | (with_reducible first | exact HB.out | apply bA | apply bN | apply bD | refine bS ?_ (by assumption)) | exact HB.out)) hb); clear BK174; clear HB; have HO177 := n0_; have BK174 := n1_; have HB := n2_; clear n0_ n1_ n2_; (try clear hb); (try clear hb2); (try clear hk); (try clear hi); (try clear ho0); obtain ⟨Ao6, co6, eo6⟩ := Kd.R_slice HO177.out; subst eo6; have hcz7_0 : w5.cell? ⟨gb174, 0, none⟩ = some (.slice none 0 0) := (blk_cell BK174.out 0).trans rfl; have hcz7_1 : w5.cell? ⟨gb174, 1, none⟩ = some (.int .i64 0) := (blk_cell BK174.out 1).trans rfl; have hfz7_0 := blk_frozen BK174.out 0; have hfz7_1 := blk_frozen BK174.out 1))
  refine bodyPost_ret (results_tc rfl _ _ gb174 36 #[.slice Ao6 t175.length co6, .int .i64 t178] (0, 0) _ rfl (by (with_reducible repeat (first | refine blk_drewN ?_ _ | refine blk_drew ?_ | refine blk_alloc ?_ _)); refine blk_put (cs := #[.slice Ao6 t175.length co6, .int .i64 0]) ?_ 1 _ rfl; (with_reducible repeat (first | refine blk_drewN ?_ _ | refine blk_drew ?_ | refine blk_alloc ?_ _)); refine blk_put (cs := #[.slice none 0 0, .int .i64 0]) ?_ 0 _ rfl; (with_reducible repeat (first | refine blk_drewN ?_ _ | refine blk_drew ?_ | refine blk_alloc ?_ _)); exact BK174.out) Tryd.underlying36 rfl (by kernel_rfl)) rfl ?_
  exact ⟨_, _, by first | rfl | (simp [errW_none, errW_some] <;> rfl) | (simp [*, errW_none, errW_some] <;> rfl), by first | exact Kd.R_nil _ _ _ _ _ | exact Kd.N_nil _ _ _ _ _ | exact Kd.V_nil _ _ _ _ _ | exact Kd.Q_nil _ _ _ _ _ | exact Kd.S_nil _ _ _ _ _, uR (Kd.R_mono (Kd.R_far (p := ⟨gb174, 1, none⟩) (Kd.R_far (p := ⟨gb174, 0, none⟩) (Kd.R_types HO177.out BK174.out (by decide)) (fun _ hk => hk.2) (.slice Ao6 t175.length co6)) (fun _ hk => hk.2) (.int .i64 t178)) (fun _ hk => trivial)), by repeat (first | (with_reducible first | exact HB.out | apply bA | apply bN | apply bD | refine bS ?_ (by assumption)) | exact HB.out)⟩
 ·rw [if_neg c2] at H
  have c2b0 : decide (65536 < (a0.size : Int)) = false := decide_eq_false c2
  have c2b1 : decide (65536 < a0.size) = false := decide_eq_false (by omega)
  clear c2
  replace H := Option.bind_eq_some_iff.mp H
  obtain ⟨t179, A80, H⟩ := H
  replace H : (furrowref4_Split.l0 k t179 0) = some (r1, r2, r3) := H
  have A8 := mk0 A80
  clear A80
  have H' := mk0 H
  clear H
  go_enter Tryd.func16, Tryd.ntmps16
  go_wp2_with (first | ((with_reducible refine gate_dst (N := 3) rfl ?_); refine box_event ?hg (N := 3) ?hd (cs := #[.slice none 0 0, .int .i64 0]) (t := 36) ?hr ?_; (case hd => rfl); (case hg => rfl); (case hr => first | (go_simp; done) | (go_simp; rfl)); intro gb174 hg w9 hbox hb; have n0_ := mk0 (below_step (uL HB.out) hb); have n1_ := mk0 (hbox); have n2_ := mk0 ((by rw [hg]; exact (below_size (uL HB.out)) : w.heap.size ≤ gb174)); have n3_ := mk0 ((by rw [hg]; exact (below_size (uL HB.out)) : w.heap.size ≤ gb174)); clear HB; have HB := n0_; have BK174 := n1_; have GW174 := n2_; have GE174 := n3_; clear n0_ n1_ n2_ n3_; clear hb hbox hg) | ((with_reducible refine gate_callee (f := 25) rfl ?_); refine goesL_ (some 13) rfl rfl Tryd.func25 (by kernel_rfl) rfl #[.string a0] rfl (by (try simp only [List.map_toArray, List.map_cons, List.map_nil]); first | done | rfl | (simp only [List.length_drop, List.length_take]; rfl)) ?_; (with_reducible refine (furrowref4_Lines.calls k a0 t179 _ A8.out).mono ?_); rintro e w10 ⟨v180, rfl, ho0, hb⟩; refine ⟨_, rfl, ?_⟩; have n0_ := mk0 (Kd.R_lower ho0 (below_size (by repeat (first | (with_reducible first | exact HB.out | apply bA | apply bN | apply bD | refine bS ?_ (by assumption)) | exact HB.out)))); have n1_ := mk0 (blk_below (g := gb174) (o := .cells #[.slice none 0 0, .int .i64 0] 36 (0, 0)) (uB BK174.out) hb); have n2_ := mk0 (below_step (by repeat (first | (with_reducible first | exact HB.out | apply bA | apply bN | apply bD | refine bS ?_ (by assumption)) | exact HB.out)) hb); clear BK174; clear HB; have HO181 := n0_; have BK174 := n1_; have HB := n2_; clear n0_ n1_ n2_; (try clear hb); (try clear hb2); (try clear hk); (try clear hi); (try clear ho0)))
  go_loopg [5] k (fun kq v5 w' => ∃ (x5_1 : Int) (x175001_1 : Int), v5 = .int .i64 x5_1 ∧ Aside0 (furrowref4_Split.l0 kq t179 x5_1 = some (r1, r2, r3)) ∧ Aside0 (kq ≤ k) ∧ Aside0 (Kd.R Kd.string 9 w' w.heap.size (fun _ => True) v180 t179) ∧ Aside0 (w'.heap[gb174]? = some (.cells #[(.slice none 0 0), .int .i64 x175001_1] 36 (0, 0))) ∧ Aside0 (Below w.heap.size w w'))
  case atStart => exact ⟨(0), (0), (by first | rfl | (simp; done) | (simp [*]; done) | (simp [bne_nil_, beq_nil_]; done)), H', ⟨Nat.le_refl _⟩, ⟨uR HO181.out⟩, ⟨uB BK174.out⟩, ⟨by repeat (first | (with_reducible first | exact HB.out | apply bA | apply bN | apply bD | refine bS ?_ (by assumption)) | exact HB.out)⟩⟩
  case round =>
   clear H'
   try clear c1
   try clear c2
   try clear c2b0
   try clear c2b1
   try clear p2
   try clear hcz7_0
   try clear hcz7_1
   try clear hfz7_0
   try clear hfz7_1
   obtain ⟨x5_1, x175001_1, rfl, HA, HK1, HO_4, BK174, HB⟩ := hrel
   cases gk with
   | zero => exact absurd HA.out (by simp [furrowref4_Split.l0])
   | succ k1 =>
    have H := HA.out
    clear HA
    simp only [furrowref4_Split.l0] at H
    by_cases c11 : x5_1 < (t179.length : Int)
    ·rw [if_pos c11] at H
     have c11b0 : decide (x5_1 < (t179.length : Int)) = true := decide_eq_true c11
     clear c11
     by_cases c12 : 0 ≤ x5_1
     ·rw [if_pos c12] at H
      have c12b0 : decide (0 ≤ x5_1) = true := decide_eq_true c12
      clear c12
      by_cases c13 : ((rdOf ByteArray.empty t179 x5_1).size : Int) > 200
      ·rw [if_pos c13] at H
       have c13b0 : decide (200 < ((rdOf ByteArray.empty t179 x5_1).size : Int)) = true := decide_eq_true c13
       have c13b1 : decide (200 < (rdOf ByteArray.empty t179 x5_1).size) = true := decide_eq_true (by omega)
       clear c13
       replace H := Option.bind_eq_some_iff.mp H
       obtain ⟨⟨t183, t186⟩, A140, H⟩ := H
       replace H : (some (([] : List ByteArray), t183, t186)) = some (r1, r2, r3) := H
       have A14 := mk0 A140
       clear A140
       simp only [Option.some.injEq, Prod.mk.injEq] at H
       obtain ⟨rfl, rfl, rfl⟩ := H
       obtain ⟨Ao15, co15, eo15⟩ := Kd.R_slice HO_4.out
       subst eo15
       have p182 : 0 ≤ (x5_1 : Int) := of_decide_eq_true (by first | (with_reducible assumption) | assumption)
       have q182 : x5_1 < (t179.length : Int) := of_decide_eq_true (by first | (with_reducible assumption) | assumption)
       obtain ⟨ad182, e182, hx182_0⟩ := Kd.at_string (Kd.R_reads' HO_4.out).2.2 x5_1 p182 q182
       cases e182
       replace p182 := eq_true p182
       replace q182 := eq_true q182
       go_wp2_with (first | ((with_reducible refine gate_callee (f := 18) rfl ?_); refine goesL_ (some 27) rfl rfl Tryd.func18 (by kernel_rfl) rfl #[.string (⟨#[108, 105, 110, 101]⟩ : ByteArray), .int .i64 x5_1, .int .i64 4] rfl (by (try simp only [List.map_toArray, List.map_cons, List.map_nil]); first | done | rfl | (simp only [List.length_drop, List.length_take]; rfl)) ?_; (with_reducible refine (furrowref4_At.calls (⟨#[108, 105, 110, 101]⟩ : ByteArray) x5_1 4 t183 t186 _ A14.out).mono ?_); rintro e w16 ⟨v184, rfl, ho0, hb⟩; refine ⟨_, rfl, ?_⟩; have n0_ := mk0 (Kd.R_below (uR HO_4.out) hb); have n1_ := mk0 (Kd.R_lower ho0 (below_size (by repeat (first | (with_reducible first | exact HB.out | apply bA | apply bN | apply bD | refine bS ?_ (by assumption)) | exact HB.out)))); have n2_ := mk0 (blk_below (g := gb174) (o := .cells #[.slice none 0 0, .int .i64 x175001_1] 36 (0, 0)) (uB BK174.out) hb); have n3_ := mk0 (below_step (by repeat (first | (with_reducible first | exact HB.out | apply bA | apply bN | apply bD | refine bS ?_ (by assumption)) | exact HB.out)) hb); clear HO_4; clear BK174; clear HB; have HO_4 := n0_; have HO185 := n1_; have BK174 := n2_; have HB := n3_; clear n0_ n1_ n2_ n3_; (try clear hb); (try clear hb2); (try clear hk); (try clear hi); (try clear ho0); obtain ⟨Ao17, co17, eo17⟩ := Kd.R_slice HO185.out; subst eo17; have hcz18_0 : w16.cell? ⟨gb174, 0, none⟩ = some (.slice none 0 0) := (blk_cell BK174.out 0).trans rfl; have hcz18_1 : w16.cell? ⟨gb174, 1, none⟩ = some (.int .i64 x175001_1) := (blk_cell BK174.out 1).trans rfl; have hfz18_0 := blk_frozen BK174.out 0; have hfz18_1 := blk_frozen BK174.out 1))
       refine bodyPost_ret (results_tc rfl _ _ gb174 36 #[.slice Ao17 t183.length co17, .int .i64 t186] (0, 0) _ rfl (by (with_reducible repeat (first | refine blk_drewN ?_ _ | refine blk_drew ?_ | refine blk_alloc ?_ _)); refine blk_put (cs := #[.slice Ao17 t183.length co17, .int .i64 x175001_1]) ?_ 1 _ rfl; (with_reducible repeat (first | refine blk_drewN ?_ _ | refine blk_drew ?_ | refine blk_alloc ?_ _)); refine blk_put (cs := #[.slice none 0 0, .int .i64 x175001_1]) ?_ 0 _ rfl; (with_reducible repeat (first | refine blk_drewN ?_ _ | refine blk_drew ?_ | refine blk_alloc ?_ _)); exact BK174.out) Tryd.underlying36 rfl (by kernel_rfl)) rfl ?_
       exact ⟨_, _, by first | rfl | (simp [errW_none, errW_some] <;> rfl) | (simp [*, errW_none, errW_some] <;> rfl), by first | exact Kd.R_nil _ _ _ _ _ | exact Kd.N_nil _ _ _ _ _ | exact Kd.V_nil _ _ _ _ _ | exact Kd.Q_nil _ _ _ _ _ | exact Kd.S_nil _ _ _ _ _, uR (Kd.R_mono (Kd.R_far (p := ⟨gb174, 1, none⟩) (Kd.R_far (p := ⟨gb174, 0, none⟩) (Kd.R_types HO185.out BK174.out (by decide)) (fun _ hk => hk.2) (.slice Ao17 t183.length co17)) (fun _ hk => hk.2) (.int .i64 t186)) (fun _ hk => trivial)), by repeat (first | (with_reducible first | exact HB.out | apply bA | apply bN | apply bD | refine bS ?_ (by assumption)) | exact HB.out)⟩
      ·rw [if_neg c13] at H
       have c13b0 : decide (200 < ((rdOf ByteArray.empty t179 x5_1).size : Int)) = false := decide_eq_false c13
       have c13b1 : decide (200 < (rdOf ByteArray.empty t179 x5_1).size) = false := decide_eq_false (by omega)
       clear c13
       have H' := mk0 H
       clear H
       obtain ⟨Ao19, co19, eo19⟩ := Kd.R_slice HO_4.out
       subst eo19
       have p182 : 0 ≤ (x5_1 : Int) := of_decide_eq_true (by first | (with_reducible assumption) | assumption)
       have q182 : x5_1 < (t179.length : Int) := of_decide_eq_true (by first | (with_reducible assumption) | assumption)
       obtain ⟨ad182, e182, hx182_0⟩ := Kd.at_string (Kd.R_reads' HO_4.out).2.2 x5_1 p182 q182
       cases e182
       replace p182 := eq_true p182
       replace q182 := eq_true q182
       go_wp2
       go_loopg [6] k1 (fun kq v6 w' => ∃ (x6_2 : Int) (x175001_2 : Int), v6 = .int .i64 x6_2 ∧ Aside0 (furrowref4_Split.l1 kq t179 x5_1 x6_2 = some (r1, r2, r3)) ∧ Aside0 (kq ≤ k1) ∧ Aside0 (Kd.R Kd.string 9 w' w.heap.size (fun _ => True) (.slice (some ad182) t179.length co19) t179) ∧ Aside0 (w'.heap[gb174]? = some (.cells #[(.slice none 0 0), .int .i64 x175001_2] 36 (0, 0))) ∧ Aside0 (Below w.heap.size w w'))
       case atStart => exact ⟨(0), (x175001_1), (by first | rfl | (simp; done) | (simp [*]; done) | (simp [bne_nil_, beq_nil_]; done)), H', ⟨Nat.le_refl _⟩, ⟨uR HO_4.out⟩, ⟨uB BK174.out⟩, ⟨by repeat (first | (with_reducible first | exact HB.out | apply bA | apply bN | apply bD | refine bS ?_ (by assumption)) | exact HB.out)⟩⟩
       case round =>
        clear H'
        try clear c1
        try clear p1
        try clear q1
        try clear hx1
        try clear c2
        try clear c2b0
        try clear c2b1
        try clear p2
        try clear c11
        try clear c11b0
        try clear c12
        try clear c12b0
        try clear c13
        try clear c13b0
        try clear c13b1
        try clear c16
        try clear c18
        try clear p18
        try clear q18
        try clear hx18
        try clear hcz18_0
        try clear hcz18_1
        try clear hcz7_0
        try clear hcz7_1
        try clear hfz18_0
        try clear hfz18_1
        try clear hfz7_0
        try clear hfz7_1
        try clear hx182_0
        try clear p182
        try clear p2
        try clear q182
        obtain ⟨x6_2, x175001_2, rfl, HA, HK2, HO_4, BK174, HB⟩ := hrel
        cases gk with
        | zero => exact absurd HA.out (by simp [furrowref4_Split.l1])
        | succ k2 =>
         have H := HA.out
         clear HA
         simp only [furrowref4_Split.l1] at H
         by_cases c20 : 0 ≤ x5_1
         ·rw [if_pos c20] at H
          have c20b0 : decide (0 ≤ x5_1) = true := decide_eq_true c20
          clear c20
          by_cases c21 : x5_1 < (t179.length : Int)
          ·rw [if_pos c21] at H
           have c21b0 : decide (x5_1 < (t179.length : Int)) = true := decide_eq_true c21
           clear c21
           by_cases c22 : x6_2 < ((rdOf ByteArray.empty t179 x5_1).size : Int)
           ·rw [if_pos c22] at H
            have c22b0 : decide (x6_2 < ((rdOf ByteArray.empty t179 x5_1).size : Int)) = true := decide_eq_true c22
            clear c22
            by_cases c23 : 0 ≤ x6_2
            ·rw [if_pos c23] at H
             have c23b0 : decide (0 ≤ x6_2) = true := decide_eq_true c23
             clear c23
             by_cases c25 : (bt (rdOf ByteArray.empty t179 x5_1) x6_2) < 32
             ·rw [if_pos c25] at H
              have c25b0 : decide ((bt (rdOf ByteArray.empty t179 x5_1) x6_2) < 32) = true := decide_eq_true c25
              clear c25
              by_cases c26 : (bt (rdOf ByteArray.empty t179 x5_1) x6_2) = 9
              ·rw [if_pos c26] at H
               have c26b0 : ((bt (rdOf ByteArray.empty t179 x5_1) x6_2) == 9) = true := beq_iff_eq.mpr c26
               have c26b1 : ((bt (rdOf ByteArray.empty t179 x5_1) x6_2) != 9) = false := bne_eq_false_iff_eq.mpr c26
               clear c26
               have H' := mk0 H
               clear H
               have p187 : 0 ≤ (x5_1 : Int) := of_decide_eq_true (by first | (with_reducible assumption) | assumption)
               have q187 : x5_1 < (t179.length : Int) := of_decide_eq_true (by first | (with_reducible assumption) | assumption)
               obtain ⟨ad187, e187, hx187_0⟩ := Kd.at_string (Kd.R_reads' HO_4.out).2.2 x5_1 p187 q187
               obtain rfl : ad182 = ad187 := (by injection e187)
               replace p187 := eq_true p187
               replace q187 := eq_true q187
               have p188 : 0 ≤ (x5_1 : Int) := of_decide_eq_true (by first | (with_reducible assumption) | assumption)
               have q188 : x5_1 < (t179.length : Int) := of_decide_eq_true (by first | (with_reducible assumption) | assumption)
               obtain ⟨ad188, e188, hx188_0⟩ := Kd.at_string (Kd.R_reads' HO_4.out).2.2 x5_1 p188 q188
               obtain rfl : ad182 = ad188 := (by injection e188)
               replace p188 := eq_true p188
               replace q188 := eq_true q188
               have p24 : 0 ≤ (x6_2 : Int) := of_decide_eq_true (by first | (with_reducible assumption) | assumption)
               have q24 : x6_2 < ((rdOf ByteArray.empty t179 x5_1).size : Int) := of_decide_eq_true (by first | (with_reducible assumption) | assumption)
               have hx24 := bt_at (rdOf ByteArray.empty t179 x5_1) x6_2
               replace p24 := eq_true p24
               replace q24 := eq_true q24
               go_wp2
               go_roundg k2
               case measure => have := HK1.out; have := HK2.out; omega
               case rel => exact ⟨(wrap64 (x6_2 + 1)), (x175001_2), (by first | rfl | (simp; done) | (simp [*]; done) | (simp [bne_nil_, beq_nil_]; done)), H', ⟨by have := HK1.out; have := HK2.out; omega⟩, ⟨uR HO_4.out⟩, ⟨uB BK174.out⟩, ⟨by repeat (first | (with_reducible first | exact HB.out | apply bA | apply bN | apply bD | refine bS ?_ (by assumption)) | exact HB.out)⟩⟩
              ·rw [if_neg c26] at H
               have c26b0 : ((bt (rdOf ByteArray.empty t179 x5_1) x6_2) == 9) = false := beq_eq_false_iff_ne.mpr c26
               have c26b1 : ((bt (rdOf ByteArray.empty t179 x5_1) x6_2) != 9) = true := bne_iff_ne.mpr c26
               by_cases c27 : (bt (rdOf ByteArray.empty t179 x5_1) x6_2) = 10
               ·rw [if_pos c27] at H
                have c27b0 : ((bt (rdOf ByteArray.empty t179 x5_1) x6_2) == 10) = true := beq_iff_eq.mpr c27
                have c27b1 : ((bt (rdOf ByteArray.empty t179 x5_1) x6_2) != 10) = false := bne_eq_false_iff_eq.mpr c27
                clear c27
                have H' := mk0 H
                clear H
                have p187 : 0 ≤ (x5_1 : Int) := of_decide_eq_true (by first | (with_reducible assumption) | assumption)
                have q187 : x5_1 < (t179.length : Int) := of_decide_eq_true (by first | (with_reducible assumption) | assumption)
                obtain ⟨ad187, e187, hx187_0⟩ := Kd.at_string (Kd.R_reads' HO_4.out).2.2 x5_1 p187 q187
                obtain rfl : ad182 = ad187 := (by injection e187)
                replace p187 := eq_true p187
                replace q187 := eq_true q187
                have p188 : 0 ≤ (x5_1 : Int) := of_decide_eq_true (by first | (with_reducible assumption) | assumption)
                have q188 : x5_1 < (t179.length : Int) := of_decide_eq_true (by first | (with_reducible assumption) | assumption)
                obtain ⟨ad188, e188, hx188_0⟩ := Kd.at_string (Kd.R_reads' HO_4.out).2.2 x5_1 p188 q188
                obtain rfl : ad182 = ad188 := (by injection e188)
                replace p188 := eq_true p188
                replace q188 := eq_true q188
                have p24 : 0 ≤ (x6_2 : Int) := of_decide_eq_true (by first | (with_reducible assumption) | assumption)
                have q24 : x6_2 < ((rdOf ByteArray.empty t179 x5_1).size : Int) := of_decide_eq_true (by first | (with_reducible assumption) | assumption)
                have hx24 := bt_at (rdOf ByteArray.empty t179 x5_1) x6_2
                replace p24 := eq_true p24
                replace q24 := eq_true q24
                go_wp2
                go_roundg k2
                case measure => have := HK1.out; have := HK2.out; omega
                case rel => exact ⟨(wrap64 (x6_2 + 1)), (x175001_2), (by first | rfl | (simp; done) | (simp [*]; done) | (simp [bne_nil_, beq_nil_]; done)), H', ⟨by have := HK1.out; have := HK2.out; omega⟩, ⟨uR HO_4.out⟩, ⟨uB BK174.out⟩, ⟨by repeat (first | (with_reducible first | exact HB.out | apply bA | apply bN | apply bD | refine bS ?_ (by assumption)) | exact HB.out)⟩⟩
               ·rw [if_neg c27] at H
                have c27b0 : ((bt (rdOf ByteArray.empty t179 x5_1) x6_2) == 10) = false := beq_eq_false_iff_ne.mpr c27
                have c27b1 : ((bt (rdOf ByteArray.empty t179 x5_1) x6_2) != 10) = true := bne_iff_ne.mpr c27
                replace H := Option.bind_eq_some_iff.mp H
                obtain ⟨⟨t189, t192⟩, A280, H⟩ := H
                replace H : (some (([] : List ByteArray), t189, t192)) = some (r1, r2, r3) := H
                have A28 := mk0 A280
                clear A280
                simp only [Option.some.injEq, Prod.mk.injEq] at H
                obtain ⟨rfl, rfl, rfl⟩ := H
                have p187 : 0 ≤ (x5_1 : Int) := of_decide_eq_true (by first | (with_reducible assumption) | assumption)
                have q187 : x5_1 < (t179.length : Int) := of_decide_eq_true (by first | (with_reducible assumption) | assumption)
                obtain ⟨ad187, e187, hx187_0⟩ := Kd.at_string (Kd.R_reads' HO_4.out).2.2 x5_1 p187 q187
                obtain rfl : ad182 = ad187 := (by injection e187)
                replace p187 := eq_true p187
                replace q187 := eq_true q187
                have p188 : 0 ≤ (x5_1 : Int) := of_decide_eq_true (by first | (with_reducible assumption) | assumption)
                have q188 : x5_1 < (t179.length : Int) := of_decide_eq_true (by first | (with_reducible assumption) | assumption)
                obtain ⟨ad188, e188, hx188_0⟩ := Kd.at_string (Kd.R_reads' HO_4.out).2.2 x5_1 p188 q188
                obtain rfl : ad182 = ad188 := (by injection e188)
                replace p188 := eq_true p188
                replace q188 := eq_true q188
                have p24 : 0 ≤ (x6_2 : Int) := of_decide_eq_true (by first | (with_reducible assumption) | assumption)
                have q24 : x6_2 < ((rdOf ByteArray.empty t179 x5_1).size : Int) := of_decide_eq_true (by first | (with_reducible assumption) | assumption)
                have hx24 := bt_at (rdOf ByteArray.empty t179 x5_1) x6_2
                replace p24 := eq_true p24
                replace q24 := eq_true q24
                go_wp2_with (first | ((with_reducible refine gate_callee (f := 18) rfl ?_); refine goesL_ (some 58) rfl rfl Tryd.func18 (by kernel_rfl) rfl #[.string (⟨#[108, 105, 110, 101]⟩ : ByteArray), .int .i64 x5_1, .int .i64 3] rfl (by (try simp only [List.map_toArray, List.map_cons, List.map_nil]); first | done | rfl | (simp only [List.length_drop, List.length_take]; rfl)) ?_; (with_reducible refine (furrowref4_At.calls (⟨#[108, 105, 110, 101]⟩ : ByteArray) x5_1 3 t189 t192 _ A28.out).mono ?_); rintro e w29 ⟨v190, rfl, ho0, hb⟩; refine ⟨_, rfl, ?_⟩; have n0_ := mk0 (Kd.R_below (uR HO_4.out) hb); have n1_ := mk0 (Kd.R_lower ho0 (below_size (by repeat (first | (with_reducible first | exact HB.out | apply bA | apply bN | apply bD | refine bS ?_ (by assumption)) | exact HB.out)))); have n2_ := mk0 (blk_below (g := gb174) (o := .cells #[.slice none 0 0, .int .i64 x175001_2] 36 (0, 0)) (uB BK174.out) hb); have n3_ := mk0 (below_step (by repeat (first | (with_reducible first | exact HB.out | apply bA | apply bN | apply bD | refine bS ?_ (by assumption)) | exact HB.out)) hb); clear HO_4; clear BK174; clear HB; have HO_4 := n0_; have HO191 := n1_; have BK174 := n2_; have HB := n3_; clear n0_ n1_ n2_ n3_; (try clear hb); (try clear hb2); (try clear hk); (try clear hi); (try clear ho0); obtain ⟨Ao30, co30, eo30⟩ := Kd.R_slice HO191.out; subst eo30; have hcz31_0 : w29.cell? ⟨gb174, 0, none⟩ = some (.slice none 0 0) := (blk_cell BK174.out 0).trans rfl; have hcz31_1 : w29.cell? ⟨gb174, 1, none⟩ = some (.int .i64 x175001_2) := (blk_cell BK174.out 1).trans rfl; have hfz31_0 := blk_frozen BK174.out 0; have hfz31_1 := blk_frozen BK174.out 1))
                refine bodyPost_ret (results_tc rfl _ _ gb174 36 #[.slice Ao30 t189.length co30, .int .i64 t192] (0, 0) _ rfl (by (with_reducible repeat (first | refine blk_drewN ?_ _ | refine blk_drew ?_ | refine blk_alloc ?_ _)); refine blk_put (cs := #[.slice Ao30 t189.length co30, .int .i64 x175001_2]) ?_ 1 _ rfl; (with_reducible repeat (first | refine blk_drewN ?_ _ | refine blk_drew ?_ | refine blk_alloc ?_ _)); refine blk_put (cs := #[.slice none 0 0, .int .i64 x175001_2]) ?_ 0 _ rfl; (with_reducible repeat (first | refine blk_drewN ?_ _ | refine blk_drew ?_ | refine blk_alloc ?_ _)); exact BK174.out) Tryd.underlying36 rfl (by kernel_rfl)) rfl ?_
                exact ⟨_, _, by first | rfl | (simp [errW_none, errW_some] <;> rfl) | (simp [*, errW_none, errW_some] <;> rfl), by first | exact Kd.R_nil _ _ _ _ _ | exact Kd.N_nil _ _ _ _ _ | exact Kd.V_nil _ _ _ _ _ | exact Kd.Q_nil _ _ _ _ _ | exact Kd.S_nil _ _ _ _ _, uR (Kd.R_mono (Kd.R_far (p := ⟨gb174, 1, none⟩) (Kd.R_far (p := ⟨gb174, 0, none⟩) (Kd.R_types HO191.out BK174.out (by decide)) (fun _ hk => hk.2) (.slice Ao30 t189.length co30)) (fun _ hk => hk.2) (.int .i64 t192)) (fun _ hk => trivial)), by repeat (first | (with_reducible first | exact HB.out | apply bA | apply bN | apply bD | refine bS ?_ (by assumption)) | exact HB.out)⟩
             ·rw [if_neg c25] at H
              have c25b0 : decide ((bt (rdOf ByteArray.empty t179 x5_1) x6_2) < 32) = false := decide_eq_false c25
              clear c25
              by_cases c32 : (bt (rdOf ByteArray.empty t179 x5_1) x6_2) > 126
              ·rw [if_pos c32] at H
               have c32b0 : decide (126 < (bt (rdOf ByteArray.empty t179 x5_1) x6_2)) = true := decide_eq_true c32
               clear c32
               by_cases c33 : (bt (rdOf ByteArray.empty t179 x5_1) x6_2) = 9
               ·rw [if_pos c33] at H
                have c33b0 : ((bt (rdOf ByteArray.empty t179 x5_1) x6_2) == 9) = true := beq_iff_eq.mpr c33
                have c33b1 : ((bt (rdOf ByteArray.empty t179 x5_1) x6_2) != 9) = false := bne_eq_false_iff_eq.mpr c33
                clear c33
                have H' := mk0 H
                clear H
                have p187 : 0 ≤ (x5_1 : Int) := of_decide_eq_true (by first | (with_reducible assumption) | assumption)
                have q187 : x5_1 < (t179.length : Int) := of_decide_eq_true (by first | (with_reducible assumption) | assumption)
                obtain ⟨ad187, e187, hx187_0⟩ := Kd.at_string (Kd.R_reads' HO_4.out).2.2 x5_1 p187 q187
                obtain rfl : ad182 = ad187 := (by injection e187)
                replace p187 := eq_true p187
                replace q187 := eq_true q187
                have p188 : 0 ≤ (x5_1 : Int) := of_decide_eq_true (by first | (with_reducible assumption) | assumption)
                have q188 : x5_1 < (t179.length : Int) := of_decide_eq_true (by first | (with_reducible assumption) | assumption)
                obtain ⟨ad188, e188, hx188_0⟩ := Kd.at_string (Kd.R_reads' HO_4.out).2.2 x5_1 p188 q188
                obtain rfl : ad182 = ad188 := (by injection e188)
                replace p188 := eq_true p188
                replace q188 := eq_true q188
                have p24 : 0 ≤ (x6_2 : Int) := of_decide_eq_true (by first | (with_reducible assumption) | assumption)
                have q24 : x6_2 < ((rdOf ByteArray.empty t179 x5_1).size : Int) := of_decide_eq_true (by first | (with_reducible assumption) | assumption)
                have hx24 := bt_at (rdOf ByteArray.empty t179 x5_1) x6_2
                replace p24 := eq_true p24
                replace q24 := eq_true q24
                go_wp2
                go_roundg k2
                case measure => have := HK1.out; have := HK2.out; omega
                case rel => exact ⟨(wrap64 (x6_2 + 1)), (x175001_2), (by first | rfl | (simp; done) | (simp [*]; done) | (simp [bne_nil_, beq_nil_]; done)), H', ⟨by have := HK1.out; have := HK2.out; omega⟩, ⟨uR HO_4.out⟩, ⟨uB BK174.out⟩, ⟨by repeat (first | (with_reducible first | exact HB.out | apply bA | apply bN | apply bD | refine bS ?_ (by assumption)) | exact HB.out)⟩⟩
               ·rw [if_neg c33] at H
                have c33b0 : ((bt (rdOf ByteArray.empty t179 x5_1) x6_2) == 9) = false := beq_eq_false_iff_ne.mpr c33
                have c33b1 : ((bt (rdOf ByteArray.empty t179 x5_1) x6_2) != 9) = true := bne_iff_ne.mpr c33
                by_cases c34 : (bt (rdOf ByteArray.empty t179 x5_1) x6_2) = 10
                ·rw [if_pos c34] at H
                 have c34b0 : ((bt (rdOf ByteArray.empty t179 x5_1) x6_2) == 10) = true := beq_iff_eq.mpr c34
                 have c34b1 : ((bt (rdOf ByteArray.empty t179 x5_1) x6_2) != 10) = false := bne_eq_false_iff_eq.mpr c34
                 clear c34
                 have H' := mk0 H
                 clear H
                 have p187 : 0 ≤ (x5_1 : Int) := of_decide_eq_true (by first | (with_reducible assumption) | assumption)
                 have q187 : x5_1 < (t179.length : Int) := of_decide_eq_true (by first | (with_reducible assumption) | assumption)
                 obtain ⟨ad187, e187, hx187_0⟩ := Kd.at_string (Kd.R_reads' HO_4.out).2.2 x5_1 p187 q187
                 obtain rfl : ad182 = ad187 := (by injection e187)
                 replace p187 := eq_true p187
                 replace q187 := eq_true q187
                 have p188 : 0 ≤ (x5_1 : Int) := of_decide_eq_true (by first | (with_reducible assumption) | assumption)
                 have q188 : x5_1 < (t179.length : Int) := of_decide_eq_true (by first | (with_reducible assumption) | assumption)
                 obtain ⟨ad188, e188, hx188_0⟩ := Kd.at_string (Kd.R_reads' HO_4.out).2.2 x5_1 p188 q188
                 obtain rfl : ad182 = ad188 := (by injection e188)
                 replace p188 := eq_true p188
                 replace q188 := eq_true q188
                 have p24 : 0 ≤ (x6_2 : Int) := of_decide_eq_true (by first | (with_reducible assumption) | assumption)
                 have q24 : x6_2 < ((rdOf ByteArray.empty t179 x5_1).size : Int) := of_decide_eq_true (by first | (with_reducible assumption) | assumption)
                 have hx24 := bt_at (rdOf ByteArray.empty t179 x5_1) x6_2
                 replace p24 := eq_true p24
                 replace q24 := eq_true q24
                 go_wp2
                 go_roundg k2
                 case measure => have := HK1.out; have := HK2.out; omega
                 case rel => exact ⟨(wrap64 (x6_2 + 1)), (x175001_2), (by first | rfl | (simp; done) | (simp [*]; done) | (simp [bne_nil_, beq_nil_]; done)), H', ⟨by have := HK1.out; have := HK2.out; omega⟩, ⟨uR HO_4.out⟩, ⟨uB BK174.out⟩, ⟨by repeat (first | (with_reducible first | exact HB.out | apply bA | apply bN | apply bD | refine bS ?_ (by assumption)) | exact HB.out)⟩⟩
                ·rw [if_neg c34] at H
                 have c34b0 : ((bt (rdOf ByteArray.empty t179 x5_1) x6_2) == 10) = false := beq_eq_false_iff_ne.mpr c34
                 have c34b1 : ((bt (rdOf ByteArray.empty t179 x5_1) x6_2) != 10) = true := bne_iff_ne.mpr c34
                 replace H := Option.bind_eq_some_iff.mp H
                 obtain ⟨⟨t193, t196⟩, A350, H⟩ := H
                 replace H : (some (([] : List ByteArray), t193, t196)) = some (r1, r2, r3) := H
                 have A35 := mk0 A350
                 clear A350
                 simp only [Option.some.injEq, Prod.mk.injEq] at H
                 obtain ⟨rfl, rfl, rfl⟩ := H
                 have p187 : 0 ≤ (x5_1 : Int) := of_decide_eq_true (by first | (with_reducible assumption) | assumption)
                 have q187 : x5_1 < (t179.length : Int) := of_decide_eq_true (by first | (with_reducible assumption) | assumption)
                 obtain ⟨ad187, e187, hx187_0⟩ := Kd.at_string (Kd.R_reads' HO_4.out).2.2 x5_1 p187 q187
                 obtain rfl : ad182 = ad187 := (by injection e187)
                 replace p187 := eq_true p187
                 replace q187 := eq_true q187
                 have p188 : 0 ≤ (x5_1 : Int) := of_decide_eq_true (by first | (with_reducible assumption) | assumption)
                 have q188 : x5_1 < (t179.length : Int) := of_decide_eq_true (by first | (with_reducible assumption) | assumption)
                 obtain ⟨ad188, e188, hx188_0⟩ := Kd.at_string (Kd.R_reads' HO_4.out).2.2 x5_1 p188 q188
                 obtain rfl : ad182 = ad188 := (by injection e188)
                 replace p188 := eq_true p188
                 replace q188 := eq_true q188
                 have p24 : 0 ≤ (x6_2 : Int) := of_decide_eq_true (by first | (with_reducible assumption) | assumption)
                 have q24 : x6_2 < ((rdOf ByteArray.empty t179 x5_1).size : Int) := of_decide_eq_true (by first | (with_reducible assumption) | assumption)
                 have hx24 := bt_at (rdOf ByteArray.empty t179 x5_1) x6_2
                 replace p24 := eq_true p24
                 replace q24 := eq_true q24
                 go_wp2_with (first | ((with_reducible refine gate_callee (f := 18) rfl ?_); refine goesL_ (some 58) rfl rfl Tryd.func18 (by kernel_rfl) rfl #[.string (⟨#[108, 105, 110, 101]⟩ : ByteArray), .int .i64 x5_1, .int .i64 3] rfl (by (try simp only [List.map_toArray, List.map_cons, List.map_nil]); first | done | rfl | (simp only [List.length_drop, List.length_take]; rfl)) ?_; (with_reducible refine (furrowref4_At.calls (⟨#[108, 105, 110, 101]⟩ : ByteArray) x5_1 3 t193 t196 _ A35.out).mono ?_); rintro e w36 ⟨v194, rfl, ho0, hb⟩; refine ⟨_, rfl, ?_⟩; have n0_ := mk0 (Kd.R_below (uR HO_4.out) hb); have n1_ := mk0 (Kd.R_lower ho0 (below_size (by repeat (first | (with_reducible first | exact HB.out | apply bA | apply bN | apply bD | refine bS ?_ (by assumption)) | exact HB.out)))); have n2_ := mk0 (blk_below (g := gb174) (o := .cells #[.slice none 0 0, .int .i64 x175001_2] 36 (0, 0)) (uB BK174.out) hb); have n3_ := mk0 (below_step (by repeat (first | (with_reducible first | exact HB.out | apply bA | apply bN | apply bD | refine bS ?_ (by assumption)) | exact HB.out)) hb); clear HO_4; clear BK174; clear HB; have HO_4 := n0_; have HO195 := n1_; have BK174 := n2_; have HB := n3_; clear n0_ n1_ n2_ n3_; (try clear hb); (try clear hb2); (try clear hk); (try clear hi); (try clear ho0); obtain ⟨Ao37, co37, eo37⟩ := Kd.R_slice HO195.out; subst eo37; have hcz38_0 : w36.cell? ⟨gb174, 0, none⟩ = some (.slice none 0 0) := (blk_cell BK174.out 0).trans rfl; have hcz38_1 : w36.cell? ⟨gb174, 1, none⟩ = some (.int .i64 x175001_2) := (blk_cell BK174.out 1).trans rfl; have hfz38_0 := blk_frozen BK174.out 0; have hfz38_1 := blk_frozen BK174.out 1))
                 refine bodyPost_ret (results_tc rfl _ _ gb174 36 #[.slice Ao37 t193.length co37, .int .i64 t196] (0, 0) _ rfl (by (with_reducible repeat (first | refine blk_drewN ?_ _ | refine blk_drew ?_ | refine blk_alloc ?_ _)); refine blk_put (cs := #[.slice Ao37 t193.length co37, .int .i64 x175001_2]) ?_ 1 _ rfl; (with_reducible repeat (first | refine blk_drewN ?_ _ | refine blk_drew ?_ | refine blk_alloc ?_ _)); refine blk_put (cs := #[.slice none 0 0, .int .i64 x175001_2]) ?_ 0 _ rfl; (with_reducible repeat (first | refine blk_drewN ?_ _ | refine blk_drew ?_ | refine blk_alloc ?_ _)); exact BK174.out) Tryd.underlying36 rfl (by kernel_rfl)) rfl ?_
                 exact ⟨_, _, by first | rfl | (simp [errW_none, errW_some] <;> rfl) | (simp [*, errW_none, errW_some] <;> rfl), by first | exact Kd.R_nil _ _ _ _ _ | exact Kd.N_nil _ _ _ _ _ | exact Kd.V_nil _ _ _ _ _ | exact Kd.Q_nil _ _ _ _ _ | exact Kd.S_nil _ _ _ _ _, uR (Kd.R_mono (Kd.R_far (p := ⟨gb174, 1, none⟩) (Kd.R_far (p := ⟨gb174, 0, none⟩) (Kd.R_types HO195.out BK174.out (by decide)) (fun _ hk => hk.2) (.slice Ao37 t193.length co37)) (fun _ hk => hk.2) (.int .i64 t196)) (fun _ hk => trivial)), by repeat (first | (with_reducible first | exact HB.out | apply bA | apply bN | apply bD | refine bS ?_ (by assumption)) | exact HB.out)⟩
              ·rw [if_neg c32] at H
               have c32b0 : decide (126 < (bt (rdOf ByteArray.empty t179 x5_1) x6_2)) = false := decide_eq_false c32
               clear c32
               have H' := mk0 H
               clear H
               have p187 : 0 ≤ (x5_1 : Int) := of_decide_eq_true (by first | (with_reducible assumption) | assumption)
               have q187 : x5_1 < (t179.length : Int) := of_decide_eq_true (by first | (with_reducible assumption) | assumption)
               obtain ⟨ad187, e187, hx187_0⟩ := Kd.at_string (Kd.R_reads' HO_4.out).2.2 x5_1 p187 q187
               obtain rfl : ad182 = ad187 := (by injection e187)
               replace p187 := eq_true p187
               replace q187 := eq_true q187
               have p188 : 0 ≤ (x5_1 : Int) := of_decide_eq_true (by first | (with_reducible assumption) | assumption)
               have q188 : x5_1 < (t179.length : Int) := of_decide_eq_true (by first | (with_reducible assumption) | assumption)
               obtain ⟨ad188, e188, hx188_0⟩ := Kd.at_string (Kd.R_reads' HO_4.out).2.2 x5_1 p188 q188
               obtain rfl : ad182 = ad188 := (by injection e188)
               replace p188 := eq_true p188
               replace q188 := eq_true q188
               have p24 : 0 ≤ (x6_2 : Int) := of_decide_eq_true (by first | (with_reducible assumption) | assumption)
               have q24 : x6_2 < ((rdOf ByteArray.empty t179 x5_1).size : Int) := of_decide_eq_true (by first | (with_reducible assumption) | assumption)
               have hx24 := bt_at (rdOf ByteArray.empty t179 x5_1) x6_2
               replace p24 := eq_true p24
               replace q24 := eq_true q24
               go_wp2
               go_roundg k2
               case measure => have := HK1.out; have := HK2.out; omega
               case rel => exact ⟨(wrap64 (x6_2 + 1)), (x175001_2), (by first | rfl | (simp; done) | (simp [*]; done) | (simp [bne_nil_, beq_nil_]; done)), H', ⟨by have := HK1.out; have := HK2.out; omega⟩, ⟨uR HO_4.out⟩, ⟨uB BK174.out⟩, ⟨by repeat (first | (with_reducible first | exact HB.out | apply bA | apply bN | apply bD | refine bS ?_ (by assumption)) | exact HB.out)⟩⟩
            ·rw [if_neg c23] at H
             exact absurd H (by simp)
           ·rw [if_neg c22] at H
            have c22b0 : decide (x6_2 < ((rdOf ByteArray.empty t179 x5_1).size : Int)) = false := decide_eq_false c22
            clear c22
            have H' := mk0 H
            clear H
            have p187 : 0 ≤ (x5_1 : Int) := of_decide_eq_true (by first | (with_reducible assumption) | assumption)
            have q187 : x5_1 < (t179.length : Int) := of_decide_eq_true (by first | (with_reducible assumption) | assumption)
            obtain ⟨ad187, e187, hx187_0⟩ := Kd.at_string (Kd.R_reads' HO_4.out).2.2 x5_1 p187 q187
            obtain rfl : ad182 = ad187 := (by injection e187)
            replace p187 := eq_true p187
            replace q187 := eq_true q187
            go_wp2
            go_roundg k2
            case measure => have := HK1.out; have := HK2.out; omega
            case rel => exact ⟨(wrap64 (x5_1 + 1)), (x175001_2), (by first | rfl | (simp; done) | (simp [*]; done) | (simp [bne_nil_, beq_nil_]; done)), H', ⟨by have := HK1.out; have := HK2.out; omega⟩, ⟨uR HO_4.out⟩, ⟨uB BK174.out⟩, ⟨by repeat (first | (with_reducible first | exact HB.out | apply bA | apply bN | apply bD | refine bS ?_ (by assumption)) | exact HB.out)⟩⟩
          ·rw [if_neg c21] at H
           exact absurd H (by simp)
         ·rw [if_neg c20] at H
          exact absurd H (by simp)
     ·rw [if_neg c12] at H
      exact absurd H (by simp)
    ·rw [if_neg c11] at H
     have c11b0 : decide (x5_1 < (t179.length : Int)) = false := decide_eq_false c11
     clear c11
     simp only [Option.some.injEq, Prod.mk.injEq] at H
     obtain ⟨rfl, rfl, rfl⟩ := H
     obtain ⟨Ao39, co39, eo39⟩ := Kd.R_slice HO_4.out
     subst eo39
     have hcz40_0 : wr.cell? ⟨gb174, 0, none⟩ = some (.slice none 0 0) := (blk_cell BK174.out 0).trans rfl
     have hcz40_1 : wr.cell? ⟨gb174, 1, none⟩ = some (.int .i64 x175001_1) := (blk_cell BK174.out 1).trans rfl
     have hfz40_0 := blk_frozen BK174.out 0
     have hfz40_1 := blk_frozen BK174.out 1
     go_wp2
     refine bodyPost_ret (results_tc rfl _ _ gb174 36 #[.slice none 0 0, .int .i64 0] (0, 0) _ rfl (by (with_reducible repeat (first | refine blk_drewN ?_ _ | refine blk_drew ?_ | refine blk_alloc ?_ _)); refine blk_put (cs := #[.slice none 0 0, .int .i64 x175001_1]) ?_ 1 _ rfl; (with_reducible repeat (first | refine blk_drewN ?_ _ | refine blk_drew ?_ | refine blk_alloc ?_ _)); refine blk_put (cs := #[.slice none 0 0, .int .i64 x175001_1]) ?_ 0 _ rfl; (with_reducible repeat (first | refine blk_drewN ?_ _ | refine blk_drew ?_ | refine blk_alloc ?_ _)); exact BK174.out) Tryd.underlying36 rfl (by kernel_rfl)) rfl ?_
     exact ⟨_, _, by first | rfl | (simp [errW_none, errW_some] <;> rfl) | (simp [*, errW_none, errW_some] <;> rfl), uR (Kd.R_mono (Kd.R_far (p := ⟨gb174, 1, none⟩) (Kd.R_far (p := ⟨gb174, 0, none⟩) (Kd.R_types HO_4.out BK174.out (by decide)) (fun _ hk => hk.2) (.slice none 0 0)) (fun _ hk => hk.2) (.int .i64 0)) (fun _ hk => trivial)), by first | exact Kd.R_nil _ _ _ _ _ | exact Kd.N_nil _ _ _ _ _ | exact Kd.V_nil _ _ _ _ _ | exact Kd.Q_nil _ _ _ _ _ | exact Kd.S_nil _ _ _ _ _, by repeat (first | (with_reducible first | exact HB.out | apply bA | apply bN | apply bD | refine bS ?_ (by assumption)) | exact HB.out)⟩

-- NOT PRINTED: function 38 (reflectlite_TypeOf)

-- NOT PRINTED: function 39 (errors_is)

-- NOT PRINTED: function 26 (errors_Is)

-- NOT PRINTED: function 40 (reflectlite_ValueOf)

-- NOT PRINTED: function 41 (reflectlite_Value_Type)

-- NOT PRINTED: function 42 (reflectlite_Value_IsNil)

-- NOT PRINTED: function 53 (reflectlite_Value_Elem)

-- NOT PRINTED: function 54 (reflectlite_Value_Set)

-- NOT PRINTED: function 43 (errors_as)

-- NOT PRINTED: function 27 (errors_As)

end Go.Proofs.YtnecoebdmjkblaaDoor.X
