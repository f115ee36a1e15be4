-- PRINTED by print.py (a twelfth state) out of the translation. Not trusted: Lean checks it.
import Derived.Test.YteeeoblpfepepaaDoorXx0
import Derived.Test.YteeeoblpfepepaaDoorXx7
namespace Go.Proofs.YteeeoblpfepepaaDoor.X
open Go.Proofs.YteeeoblpfepepaaDoor.Flt Go.Proofs.YteeeoblpfepepaaDoor.H Go.RowKit Go.Proofs.YteeeoblpfepepaaDoorW.PrintWords Go.Proofs.YteeeoblpfepepaaDoorW.PrintLast Go.Proofs.YteeeoblpfepepaaDoorW.PrintMore
attribute [local go_sem] max2_int min2_int max_two min_two max_three min_three max_four min_four   -- for this text's walks alone
set_option linter.unusedVariables false
set_option linter.unusedSimpArgs false

/-! ### furrowref4_Apply: function 20 -/
def furrowref4_Apply.l0 : Nat → List ByteArray → List (S60) → List ByteArray → Int → Int → Option (List ByteArray × (List (S67)) × Int)
 | 0, _, _, _, _, _ => none
 | k + 1, x0, x1, x7, x8, x9 => if x9 < (x1.length : Int) then (if 0 ≤ x9 then (if 0 ≤ x8 then (if x8 ≤ ((rd_T60 x1 x9).f0) then (if ((rd_T60 x1 x9).f0) ≤ (x0.length : Int) then (if x7.length + ((x0.take (((rd_T60 x1 x9).f0) : Int).toNat).drop (x8 : Int).toNat).length < 8796093022208 then ((some (x7 ++ ((x0.take (((rd_T60 x1 x9).f0) : Int).toNat).drop (x8 : Int).toNat) : List ByteArray)).bind fun y339 => (if y339.length + ((rd_T60 x1 x9).f2).length < 8796093022208 then (furrowref4_Apply.l0 k x0 x1 (y339 ++ ((rd_T60 x1 x9).f2)) ((rd_T60 x1 x9).f1) (wrap64 (x9 + 1))) else (none))) else (none)) else (none)) else (none)) else (none)) else (none)) else (if 0 ≤ x8 then (if x8 ≤ (x0.length : Int) then (if x7.length + (x0.drop (x8 : Int).toNat).length < 8796093022208 then (some ((x7 ++ (x0.drop (x8 : Int).toNat)), ([] : List (S67)), 0)) else (none)) else (none)) else (none))
def furrowref4_Apply.f (k : Nat) (l0 : List ByteArray) (l1 : List (S60)) : Option (List ByteArray × (List (S67)) × Int) := (furrowref4_CheckEdits.f k (l0.length : Int) l1).bind fun bt332 => (if bt332.2 = 0 then (furrowref4_Apply.l0 k l0 l1 ([] : List ByteArray) 0 0) else (some (([] : List ByteArray), bt332.1, bt332.2)))
theorem furrowref4_Apply.mono_l : ∀ k, (∀ y0 y1 y2 y3 y4, LeO (furrowref4_Apply.l0 k y0 y1 y2 y3 y4) (furrowref4_Apply.l0 (k + 1) y0 y1 y2 y3 y4))
 | 0 => fun _ _ _ _ _ r h => by simp [furrowref4_Apply.l0] at h
 | k + 1 => by
  have ih0 := furrowref4_Apply.mono_l k
  ·intro y0 y1 y2 y3 y4
   unfold furrowref4_Apply.l0
   repeat' first
   | (with_reducible exact ih0 _ _ _ _ _)
   | (with_reducible exact furrowref4_CheckEdits.mono _ _ _)
   | (with_reducible exact LeO.refl _)
   | (with_reducible exact LeO.none _)
   | (with_reducible refine LeO.ite ?_ ?_)
   | (with_reducible refine LeO.bind ?_ (fun _ => ?_))
   | exact ih0 _ _ _ _ _
   | exact furrowref4_CheckEdits.mono _ _ _
   | exact LeO.none _
   | refine LeO.ite ?_ ?_
   | refine LeO.bind ?_ (fun _ => ?_)
theorem furrowref4_Apply.mono : ∀ a0 a1 k, LeO (furrowref4_Apply.f k a0 a1) (furrowref4_Apply.f (k + 1) a0 a1) := by
 intro a0 a1 k
 have ih0 := furrowref4_Apply.mono_l k
 unfold furrowref4_Apply.f
 repeat' first
   | (with_reducible exact ih0 _ _ _ _ _)
   | (with_reducible exact furrowref4_CheckEdits.mono _ _ _)
   | (with_reducible exact LeO.refl _)
   | (with_reducible exact LeO.none _)
   | (with_reducible refine LeO.ite ?_ ?_)
   | (with_reducible refine LeO.bind ?_ (fun _ => ?_))
   | exact ih0 _ _ _ _ _
   | exact furrowref4_CheckEdits.mono _ _ _
   | exact LeO.none _
   | refine LeO.ite ?_ ?_
   | refine LeO.bind ?_ (fun _ => ?_)
set_option maxHeartbeats 8000000 in
set_option maxRecDepth 100000 in
theorem furrowref4_Apply.calls (k : Nat) (A0 : Option Addr) (c0 : Nat) (l0 : List ByteArray) (A1 : Option Addr) (c1 : Nat) (l1 : List (S60)) (r1 : List ByteArray) (r2 : List (S67)) (r3 : Int) (w : World) (hr0 : Kd.C Kd.string w A0 l0.length l0) (hc0 : l0.length ≤ c0) (hr1 : Kd.C k60 w A1 l1.length l1) (hc1 : l1.length ≤ c1) (h : furrowref4_Apply.f k l0 l1 = some (r1, r2, r3)) :
  Calls Tryd.prog 20 #[.slice A0 l0.length c0, .slice A1 l1.length c1] w fun e w' => ∃ v0_ v1_ : Value, e = .returned (.tuple #[v0_, .agg #[v1_, .int .i64 r3]]) ∧ Kd.R Kd.string 9 w' w.heap.size (fun _ => True) v0_ r1 ∧ Kd.R k67 67 w' w.heap.size (fun _ => True) v1_ r2 ∧ Below w.heap.size w w' := by
 have hu43 := Tryd.underlying43
 have HR0 := mk0 hr0
 have HC0 := mk0 hc0
 clear hr0 hc0
 have HR1 := mk0 hr1
 have HC1 := mk0 hc1
 clear hr1 hc1
 have HB := mk0 (Below.refl w.heap.size w)
 have H : ((furrowref4_CheckEdits.f k (l0.length : Int) l1).bind fun bt332 => (if bt332.2 = 0 then (furrowref4_Apply.l0 k l0 l1 ([] : List ByteArray) 0 0) else (some (([] : List ByteArray), bt332.1, bt332.2)))) = some (r1, r2, r3) := h
 clear h
 replace H := Option.bind_eq_some_iff.mp H
 obtain ⟨⟨t332, t335⟩, A30, H⟩ := H
 replace H : (if t335 = 0 then (furrowref4_Apply.l0 k l0 l1 ([] : List ByteArray) 0 0) else (some (([] : List ByteArray), t332, t335))) = some (r1, r2, r3) := H
 have A3 := mk0 A30
 clear A30
 by_cases c4 : t335 = 0
 ·rw [if_pos c4] at H
  have c4b0 : (t335 == 0) = true := beq_iff_eq.mpr c4
  have c4b1 : (t335 != 0) = false := bne_eq_false_iff_eq.mpr c4
  clear c4
  have H' := mk0 H
  clear H
  go_enter Tryd.func20, Tryd.ntmps20
  go_wp2_with (first | ((with_reducible refine gate_dst (N := 5) rfl ?_); refine box_event ?hg (N := 5) ?hd (cs := #[.slice none 0 0, .int .i64 0]) (t := 43) ?hr ?_; (case hd => rfl); (case hg => rfl); (case hr => first | (go_simp; done) | (go_simp; rfl)); intro gb331 hg w5 hbox hb; have n0_ := mk0 (below_step (uL HB.out) hb); have n1_ := mk0 (hbox); have n2_ := mk0 ((by rw [hg]; exact (below_size (uL HB.out)) : w.heap.size ≤ gb331)); have n3_ := mk0 ((by rw [hg]; exact (below_size (uL HB.out)) : w.heap.size ≤ gb331)); clear HB; have HB := n0_; have BK331 := n1_; have GW331 := n2_; have GE331 := n3_; clear n0_ n1_ n2_ n3_; clear hb hbox hg) | ((with_reducible refine gate_callee (f := 19) rfl ?_); refine goesL_ (some 13) rfl rfl Tryd.func19 (by kernel_rfl) rfl #[.int .i64 (l0.length : Int), .slice A1 l1.length c1] rfl (by (try simp only [List.map_toArray, List.map_cons, List.map_nil]); first | done | rfl | (simp only [List.length_drop, List.length_take]; rfl)) ?_; (with_reducible refine (furrowref4_CheckEdits.calls k (l0.length : Int) _ _ l1 t332 t335 _ ?side1 ?side2 A3.out).mono ?_); (case side1 => repeat (first | exact (Kd.C_below HR1.out HB.out) | (with_reducible refine Kd.C_alloc ?_ _) | (with_reducible refine Kd.C_drewN ?_ _) | (with_reducible refine Kd.C_drew ?_))); (case side2 => exact HC1.out); rintro e w6 ⟨v333, rfl, ho0, hb⟩; refine ⟨_, rfl, ?_⟩; have n0_ := mk0 (Kd.R_lower ho0 (below_size (by repeat (first | (with_reducible first | exact HB.out | apply bA | apply bN | apply bD | refine bS ?_ (by assumption)) | exact HB.out)))); have n1_ := mk0 (blk_below (g := gb331) (o := .cells #[.slice none 0 0, .int .i64 0] 43 (0, 0)) (uB BK331.out) hb); have n2_ := mk0 (below_step (by repeat (first | (with_reducible first | exact HB.out | apply bA | apply bN | apply bD | refine bS ?_ (by assumption)) | exact HB.out)) hb); clear BK331; clear HB; have HO334 := n0_; have BK331 := n1_; have HB := n2_; clear n0_ n1_ n2_; (try clear hb); (try clear hb2); (try clear hk); (try clear hi); (try clear ho0)) | ((with_reducible refine gate_dst (N := 6) rfl ?_); refine box_event ?hg (N := 6) ?hd (cs := #[.slice none 0 0, .int .i64 0]) (t := 43) ?hr ?_; (case hd => rfl); (case hg => rfl); (case hr => first | (go_simp; done) | (go_simp; rfl)); intro gb336 hg w7 hbox hb; have n0_ := mk0 (Kd.R_below (uR HO334.out) hb); have n1_ := mk0 (blk_below (g := gb331) (o := .cells #[.slice none 0 0, .int .i64 0] 43 (0, 0)) (uB BK331.out) hb); have n2_ := mk0 (below_step (by repeat (first | (with_reducible first | exact HB.out | apply bA | apply bN | apply bD | refine bS ?_ (by assumption)) | exact HB.out)) hb); have n3_ := mk0 (hbox); have n4_ := mk0 ((by rw [hg]; exact (below_size (by repeat (first | (with_reducible first | exact HB.out | apply bA | apply bN | apply bD | refine bS ?_ (by assumption)) | exact HB.out))) : w.heap.size ≤ gb336)); have n5_ := mk0 ((by rw [hg]; exact (below_size (by repeat (first | (with_reducible first | exact HB.out | apply bA | apply bN | apply bD | refine bS ?_ (by assumption)) | exact HB.out))) : w.heap.size ≤ gb336)); have n6_ := mk0 ((by rw [hg]; exact Nat.ne_of_lt (blk_lt (g := gb331) (o := .cells #[.slice none 0 0, .int .i64 0] 43 (0, 0)) (uB BK331.out)) : gb331 ≠ gb336)); have n7_ := mk0 ((by rw [hg]; exact Nat.ne_of_gt (blk_lt (g := gb331) (o := .cells #[.slice none 0 0, .int .i64 0] 43 (0, 0)) (uB BK331.out)) : gb336 ≠ gb331)); clear HO334; clear BK331; clear HB; have HO334 := n0_; have BK331 := n1_; have HB := n2_; have BK336 := n3_; have GW336 := n4_; have GE336 := n5_; have NB331_336 := n6_; have NB336_331 := n7_; clear n0_ n1_ n2_ n3_ n4_ n5_ n6_ n7_; clear hb hbox hg; obtain ⟨Ao8, co8, eo8⟩ := Kd.R_slice HO334.out; subst eo8; have hnb9 := NB336_331.out; have hnc9 := NB331_336.out; have hcz10_0 : w7.cell? ⟨gb336, 0, none⟩ = some (.slice none 0 0) := (blk_cell BK336.out 0).trans rfl; have hcz10_1 : w7.cell? ⟨gb336, 1, none⟩ = some (.int .i64 0) := (blk_cell BK336.out 1).trans rfl; have hfz10_0 := blk_frozen BK336.out 0; have hfz10_1 := blk_frozen BK336.out 1))
  go_loopg [7, 8, 9] k (fun kq v7 v8 v9 w' => ∃ (x7_1 : List ByteArray) (x8_1 : Int) (x9_1 : Int), v8 = .int .i64 x8_1 ∧ v9 = .int .i64 x9_1 ∧ Aside0 (furrowref4_Apply.l0 kq l0 l1 x7_1 x8_1 x9_1 = some (r1, r2, r3)) ∧ Aside0 (kq ≤ k) ∧ Aside0 (Kd.R Kd.string 9 w' w.heap.size (fun _ => True) v7 x7_1) ∧ Aside0 (Kd.R k67 67 w' w.heap.size (fun _ => True) (.slice Ao8 t332.length co8) t332) ∧ Aside0 (w'.heap[gb331]? = some (.cells #[(.slice none 0 0), .int .i64 0] 43 (0, 0))) ∧ Aside0 (w'.heap[gb336]? = some (.cells #[(.slice Ao8 t332.length co8), .int .i64 t335] 43 (0, 0))) ∧ Aside0 (Below w.heap.size w w'))
  case atStart => exact ⟨(([] : List ByteArray)), (0), (0), (by first | rfl | (simp; done) | (simp [*]; done) | (simp [bne_nil_, beq_nil_]; done)), (by first | rfl | (simp; done) | (simp [*]; done) | (simp [bne_nil_, beq_nil_]; done)), H', ⟨Nat.le_refl _⟩, ⟨by first | exact Kd.R_nil _ _ _ _ _ | exact Kd.N_nil _ _ _ _ _ | exact Kd.V_nil _ _ _ _ _ | exact Kd.Q_nil _ _ _ _ _ | exact Kd.S_nil _ _ _ _ _⟩, ⟨uR (Kd.R_mono (Kd.R_far (p := ⟨gb336, 1, none⟩) (Kd.R_far (p := ⟨gb336, 0, none⟩) (Kd.R_types HO334.out BK336.out (by decide)) (fun _ hk => hk.2) (.slice Ao8 t332.length co8)) (fun _ hk => hk.2) (.int .i64 t335)) (fun _ hk => trivial))⟩, ⟨by (with_reducible repeat (first | refine blk_drewN ?_ _ | refine blk_drew ?_ | refine blk_alloc ?_ _)); refine blk_far ?_ NB331_336.out _; (with_reducible repeat (first | refine blk_drewN ?_ _ | refine blk_drew ?_ | refine blk_alloc ?_ _)); refine blk_far ?_ NB331_336.out _; (with_reducible repeat (first | refine blk_drewN ?_ _ | refine blk_drew ?_ | refine blk_alloc ?_ _)); exact BK331.out⟩, ⟨by (with_reducible repeat (first | refine blk_drewN ?_ _ | refine blk_drew ?_ | refine blk_alloc ?_ _)); refine blk_put (cs := #[.slice Ao8 t332.length co8, .int .i64 0]) ?_ 1 _ rfl; (with_reducible repeat (first | refine blk_drewN ?_ _ | refine blk_drew ?_ | refine blk_alloc ?_ _)); refine blk_put (cs := #[.slice none 0 0, .int .i64 0]) ?_ 0 _ rfl; (with_reducible repeat (first | refine blk_drewN ?_ _ | refine blk_drew ?_ | refine blk_alloc ?_ _)); exact BK336.out⟩, ⟨by repeat (first | (with_reducible first | exact HB.out | apply bA | apply bN | apply bD | refine bS ?_ (by assumption)) | exact HB.out)⟩⟩
  case round =>
   clear H'
   try clear c1
   try clear c2
   try clear p2
   try clear c4
   try clear c4b0
   try clear c4b1
   try clear c9
   try clear hcz10_0
   try clear hcz10_1
   try clear hfz10_0
   try clear hfz10_1
   obtain ⟨x7_1, x8_1, x9_1, rfl, rfl, HA, HK1, HO_7, HO_337000, BK331, BK336, HB⟩ := hrel
   cases gk with
   | zero => exact absurd HA.out (by simp [furrowref4_Apply.l0])
   | succ k1 =>
    have H := HA.out
    clear HA
    simp only [furrowref4_Apply.l0] at H
    by_cases c11 : x9_1 < (l1.length : Int)
    ·rw [if_pos c11] at H
     have c11b0 : decide (x9_1 < (l1.length : Int)) = true := decide_eq_true c11
     clear c11
     by_cases c12 : 0 ≤ x9_1
     ·rw [if_pos c12] at H
      have c12b0 : decide (0 ≤ x9_1) = true := decide_eq_true c12
      clear c12
      by_cases c13 : 0 ≤ x8_1
      ·rw [if_pos c13] at H
       have c13b0 := eq_true c13
       have c13b1 : decide (0 ≤ x8_1) = true := decide_eq_true c13
       clear c13
       by_cases c14 : x8_1 ≤ ((rd_T60 l1 x9_1).f0)
       ·rw [if_pos c14] at H
        have c14b0 := eq_true c14
        have c14b1 : decide (x8_1 ≤ ((rd_T60 l1 x9_1).f0)) = true := decide_eq_true c14
        clear c14
        by_cases c15 : ((rd_T60 l1 x9_1).f0) ≤ (l0.length : Int)
        ·rw [if_pos c15] at H
         have c15b0 := eq_true c15
         have c15b1 : decide (((rd_T60 l1 x9_1).f0) ≤ (l0.length : Int)) = true := decide_eq_true c15
         clear c15
         by_cases c16 : x7_1.length + ((l0.take (((rd_T60 l1 x9_1).f0) : Int).toNat).drop (x8_1 : Int).toNat).length < 8796093022208
         ·rw [if_pos c16] at H
          have LMc16 := mk0 c16
          clear c16
          obtain ⟨y339, hy339⟩ : ∃ y_ : List ByteArray, y_ = (x7_1 ++ ((l0.take (((rd_T60 l1 x9_1).f0) : Int).toNat).drop (x8_1 : Int).toNat)) := ⟨_, rfl⟩
          replace H : (if y339.length + ((rd_T60 l1 x9_1).f2).length < 8796093022208 then (furrowref4_Apply.l0 k1 l0 l1 (y339 ++ ((rd_T60 l1 x9_1).f2)) ((rd_T60 l1 x9_1).f1) (wrap64 (x9_1 + 1))) else (none)) = some (r1, r2, r3) := by first | (rw [hy339]; with_reducible exact H) | (have H2_ := (Option.bind_some _ _).symm.trans H; rw [hy339]; with_reducible exact H2_) | (have H2_ := (Option.bind_some _ _).symm.trans H; with_reducible exact H2_) | with_reducible exact H | (rw [hy339]; exact H) | exact H
          have Ny339 := mk0 hy339
          clear hy339
          by_cases c17 : y339.length + ((rd_T60 l1 x9_1).f2).length < 8796093022208
          ·rw [if_pos c17] at H
           have LMc17 := mk0 c17
           clear c17
           obtain ⟨y343, hy343⟩ : ∃ y_ : List ByteArray, y_ = (y339 ++ ((rd_T60 l1 x9_1).f2)) := ⟨_, rfl⟩
           replace H : (furrowref4_Apply.l0 k1 l0 l1 y343 ((rd_T60 l1 x9_1).f1) (wrap64 (x9_1 + 1))) = some (r1, r2, r3) := by first | (rw [hy343]; with_reducible exact H) | (have H2_ := (Option.bind_some _ _).symm.trans H; rw [hy343]; with_reducible exact H2_) | (have H2_ := (Option.bind_some _ _).symm.trans H; with_reducible exact H2_) | with_reducible exact H | (rw [hy343]; exact H) | exact H
           have Ny343 := mk0 hy343
           clear hy343
           have H' := mk0 H
           clear H
           have p337 : 0 ≤ (x9_1 : Int) := of_decide_eq_true (by first | (with_reducible assumption) | assumption)
           have q337 : x9_1 < (l1.length : Int) := of_decide_eq_true (by first | (with_reducible assumption) | assumption)
           obtain ⟨ad337, A337_2, c337_2, e337, hx337_0, hx337_1, hx337_2, hl337_2, hi337_2⟩ := at_T60 HR1.out x9_1 p337 q337
           cases e337
           replace hx337_0 := (HB.out.cell (World.block_lt_of_cell? w _ hx337_0)).trans hx337_0
           replace hx337_1 := (HB.out.cell (World.block_lt_of_cell? w _ hx337_1)).trans hx337_1
           replace hx337_2 := (HB.out.cell (World.block_lt_of_cell? w _ hx337_2)).trans hx337_2
           have HR337_2 := mk0 hi337_2
           have HC337_2 := mk0 hl337_2
           clear hi337_2 hl337_2
           replace p337 := eq_true p337
           replace q337 := eq_true q337
           obtain ⟨i018, hi018, _, hsz18, _⟩ := info_parts info9
           obtain ⟨A18, hcut18, hA18, hC18⟩ := print_mid_of (P := Tryd.prog) Value.string (⟨#[]⟩ : ByteArray) 22 9 .i64 .i64 Tryd.underlying22 hi018 hsz18 A0 c0 l0 x8_1 ((rd_T60 l1 x9_1).f0) (of_decide_eq_true (by first | (with_reducible assumption) | assumption)) (by first | omega | exact of_decide_eq_true (by first | (with_reducible assumption) | assumption)) (of_decide_eq_true (by first | (with_reducible assumption) | assumption)) HC0.out
           have HR338 := mk0 (Kd.C_of_reads (h1 := fun _ => rfl) (hA18 _ (Kd.reads_of_C HR0.out)))
           have HC338 := mk0 hC18
           clear hA18 hC18 hi018 hsz18
           go_wp2_with (first | ((with_reducible refine gate_builtin (b := .append) (xs := #[.tmp 24, .tmp 32]) rfl ?_); at_builtin; refine Kd.R_append_rows Kd.string (w0 := w) w.heap.size rfl (.tmp 24) (.tmp 32) 22 9 (.string ⟨#[]⟩) 16 rfl Tryd.underlying22 info9 rfl (by decide) (by omega) u7 x7_1 ((l0.take (((rd_T60 l1 x9_1).f0) : Int).toNat).drop (x8_1 : Int).toNat) _ _ _ (fun _ => True) (fun _ => False) rfl rfl ?aO ?aR (fun _ _ h => h) (fun _ h => h.elim) ?aF ?aB ?aS ?aL ?_; (case aR => first | (rw [← show ((l0.take (((rd_T60 l1 x9_1).f0) : Int).toNat).drop (x8_1 : Int).toNat).length = (((rd_T60 l1 x9_1).f0).toNat - x8_1.toNat) from (by rw [List.length_drop, List.length_take]; have h_ : (((rd_T60 l1 x9_1).f0) : Int) ≤ (l0.length : Int) := of_decide_eq_true (by first | (with_reducible assumption) | assumption); omega)]; repeat (first | exact (Kd.C_below HR338.out HB.out) | (with_reducible refine Kd.C_alloc ?_ _) | (with_reducible refine Kd.C_drewN ?_ _) | (with_reducible refine Kd.C_drew ?_))) | (repeat (first | exact (Kd.C_below HR338.out HB.out) | (with_reducible refine Kd.C_alloc ?_ _) | (with_reducible refine Kd.C_drewN ?_ _) | (with_reducible refine Kd.C_drew ?_)))); (case aB => exact (by repeat (first | (with_reducible first | exact HB.out | apply bA | apply bN | apply bD | refine bS ?_ (by assumption)) | exact HB.out))); (case aF => exact (fun _ _ => trivial)); (case aO => exact (uR HO_7.out)); (case aS => exact (below_size (by repeat (first | (with_reducible first | exact HB.out | apply bA | apply bN | apply bD | refine bS ?_ (by assumption)) | exact HB.out)))); (case aL => have := LMc16.out; have hlx_ := (show ((l0.take (((rd_T60 l1 x9_1).f0) : Int).toNat).drop (x8_1 : Int).toNat).length = (((rd_T60 l1 x9_1).f0).toNat - x8_1.toNat) from (by rw [List.length_drop, List.length_take]; have h_ : (((rd_T60 l1 x9_1).f0) : Int) ≤ (l0.length : Int) := of_decide_eq_true (by first | (with_reducible assumption) | assumption); omega)); omega); intro v340 w19 ho hb hg hat; rw [← Ny339.out] at ho; have n0_ := mk0 (Kd.R_over' (uR HO_337000.out) (Kd.R_typed (uR HO_7.out)) (by decide) hg); have n1_ := mk0 (blk_grown (g := gb331) (o := .cells #[.slice none 0 0, .int .i64 0] 43 (0, 0)) (uB BK331.out) hg (Kd.R_ne HO_7.out BK331.out (by decide))); have n2_ := mk0 (blk_grown (g := gb336) (o := .cells #[.slice Ao8 t332.length co8, .int .i64 t335] 43 (0, 0)) (uB BK336.out) hg (Kd.R_ne HO_7.out BK336.out (by decide))); have n3_ := mk0 (hb); have n4_ := mk0 (ho); clear HO_337000; clear BK331; clear BK336; clear HB; clear HO_7; have HO_337000 := n0_; have BK331 := n1_; have BK336 := n2_; have HB := n3_; have HO341 := n4_; clear n0_ n1_ n2_ n3_ n4_; clear ho hb hg hat; have p342 : 0 ≤ (x9_1 : Int) := of_decide_eq_true (by first | (with_reducible assumption) | assumption); have q342 : x9_1 < (l1.length : Int) := of_decide_eq_true (by first | (with_reducible assumption) | assumption); obtain ⟨ad342, A342_2, c342_2, e342, hx342_0, hx342_1, hx342_2, hl342_2, hi342_2⟩ := at_T60 HR1.out x9_1 p342 q342; obtain rfl : ad337 = ad342 := (by injection e342); replace hx342_0 := (HB.out.cell (World.block_lt_of_cell? w _ hx342_0)).trans hx342_0; replace hx342_1 := (HB.out.cell (World.block_lt_of_cell? w _ hx342_1)).trans hx342_1; replace hx342_2 := (HB.out.cell (World.block_lt_of_cell? w _ hx342_2)).trans hx342_2; have HR342_2 := mk0 hi342_2; have HC342_2 := mk0 hl342_2; clear hi342_2 hl342_2; replace p342 := eq_true p342; replace q342 := eq_true q342) | ((with_reducible refine gate_builtin (b := .append) (xs := #[.tmp 34, .tmp 39]) rfl ?_); at_builtin; refine Kd.R_append_rows Kd.string (w0 := w) w.heap.size rfl (.tmp 34) (.tmp 39) 22 9 (.string ⟨#[]⟩) 16 rfl Tryd.underlying22 info9 rfl (by decide) (by omega) v340 y339 ((rd_T60 l1 x9_1).f2) _ _ _ (fun _ => True) (fun _ => False) rfl rfl ?aO ?aR (fun _ _ h => h) (fun _ h => h.elim) ?aF ?aB ?aS ?aL ?_; (case aR => repeat (first | exact (Kd.C_below HR342_2.out HB.out) | (with_reducible refine Kd.C_alloc ?_ _) | (with_reducible refine Kd.C_drewN ?_ _) | (with_reducible refine Kd.C_drew ?_))); (case aB => exact (by repeat (first | (with_reducible first | exact HB.out | apply bA | apply bN | apply bD | refine bS ?_ (by assumption)) | exact HB.out))); (case aF => exact (fun _ _ => trivial)); (case aO => exact (uR HO341.out)); (case aS => exact (below_size (by repeat (first | (with_reducible first | exact HB.out | apply bA | apply bN | apply bD | refine bS ?_ (by assumption)) | exact HB.out)))); (case aL => have := LMc17.out; omega); intro v344 w20 ho hb hg hat; rw [← Ny343.out] at ho; have n0_ := mk0 (Kd.R_over' (uR HO_337000.out) (Kd.R_typed (uR HO341.out)) (by decide) hg); have n1_ := mk0 (blk_grown (g := gb331) (o := .cells #[.slice none 0 0, .int .i64 0] 43 (0, 0)) (uB BK331.out) hg (Kd.R_ne HO341.out BK331.out (by decide))); have n2_ := mk0 (blk_grown (g := gb336) (o := .cells #[.slice Ao8 t332.length co8, .int .i64 t335] 43 (0, 0)) (uB BK336.out) hg (Kd.R_ne HO341.out BK336.out (by decide))); have n3_ := mk0 (hb); have n4_ := mk0 (ho); clear HO_337000; clear BK331; clear BK336; clear HB; clear HO341; have HO_337000 := n0_; have BK331 := n1_; have BK336 := n2_; have HB := n3_; have HO345 := n4_; clear n0_ n1_ n2_ n3_ n4_; clear ho hb hg hat; have p346 : 0 ≤ (x9_1 : Int) := of_decide_eq_true (by first | (with_reducible assumption) | assumption); have q346 : x9_1 < (l1.length : Int) := of_decide_eq_true (by first | (with_reducible assumption) | assumption); obtain ⟨ad346, A346_2, c346_2, e346, hx346_0, hx346_1, hx346_2, hl346_2, hi346_2⟩ := at_T60 HR1.out x9_1 p346 q346; obtain rfl : ad337 = ad346 := (by injection e346); replace hx346_0 := (HB.out.cell (World.block_lt_of_cell? w _ hx346_0)).trans hx346_0; replace hx346_1 := (HB.out.cell (World.block_lt_of_cell? w _ hx346_1)).trans hx346_1; replace hx346_2 := (HB.out.cell (World.block_lt_of_cell? w _ hx346_2)).trans hx346_2; have HR346_2 := mk0 hi346_2; have HC346_2 := mk0 hl346_2; clear hi346_2 hl346_2; replace p346 := eq_true p346; replace q346 := eq_true q346))
           go_roundg k1
           case measure => have := HK1.out; omega
           case rel => exact ⟨(y343), ((rd_T60 l1 x9_1).f1), (wrap64 (x9_1 + 1)), (by first | rfl | (simp; done) | (simp [*]; done) | (simp [bne_nil_, beq_nil_]; done)), (by first | rfl | (simp; done) | (simp [*]; done) | (simp [bne_nil_, beq_nil_]; done)), H', ⟨by have := HK1.out; omega⟩, ⟨uR HO345.out⟩, ⟨uR HO_337000.out⟩, ⟨uB BK331.out⟩, ⟨uB BK336.out⟩, ⟨by repeat (first | (with_reducible first | exact HB.out | apply bA | apply bN | apply bD | refine bS ?_ (by assumption)) | exact HB.out)⟩⟩
          ·rw [if_neg c17] at H
           exact absurd H (by simp)
         ·rw [if_neg c16] at H
          exact absurd H (by simp)
        ·rw [if_neg c15] at H
         exact absurd H (by simp)
       ·rw [if_neg c14] at H
        exact absurd H (by simp)
      ·rw [if_neg c13] at H
       exact absurd H (by simp)
     ·rw [if_neg c12] at H
      exact absurd H (by simp)
    ·rw [if_neg c11] at H
     have c11b0 : decide (x9_1 < (l1.length : Int)) = false := decide_eq_false c11
     clear c11
     by_cases c21 : 0 ≤ x8_1
     ·rw [if_pos c21] at H
      have c21b0 := eq_true c21
      have c21b1 : decide (0 ≤ x8_1) = true := decide_eq_true c21
      clear c21
      by_cases c22 : x8_1 ≤ (l0.length : Int)
      ·rw [if_pos c22] at H
       have c22b0 := eq_true c22
       have c22b1 : decide (x8_1 ≤ (l0.length : Int)) = true := decide_eq_true c22
       clear c22
       by_cases c23 : x7_1.length + (l0.drop (x8_1 : Int).toNat).length < 8796093022208
       ·rw [if_pos c23] at H
        have LMc23 := mk0 c23
        clear c23
        obtain ⟨y348, hy348⟩ : ∃ y_ : List ByteArray, y_ = (x7_1 ++ (l0.drop (x8_1 : Int).toNat)) := ⟨_, rfl⟩
        replace H : (some (y348, ([] : List (S67)), 0)) = some (r1, r2, r3) := by first | (rw [hy348]; with_reducible exact H) | (have H2_ := (Option.bind_some _ _).symm.trans H; rw [hy348]; with_reducible exact H2_) | (have H2_ := (Option.bind_some _ _).symm.trans H; with_reducible exact H2_) | with_reducible exact H | (rw [hy348]; exact H) | exact H
        have Ny348 := mk0 hy348
        clear hy348
        simp only [Option.some.injEq, Prod.mk.injEq] at H
        obtain ⟨rfl, rfl, rfl⟩ := H
        obtain ⟨i024, hi024, _, hsz24, _⟩ := info_parts info9
        obtain ⟨A24, hcut24, hA24, hC24⟩ := print_drop_of (P := Tryd.prog) Value.string (⟨#[]⟩ : ByteArray) 22 9 .i64 Tryd.underlying22 hi024 hsz24 A0 c0 l0 x8_1 (of_decide_eq_true (by first | (with_reducible assumption) | assumption)) (of_decide_eq_true (by first | (with_reducible assumption) | assumption)) HC0.out
        have HR347 := mk0 (Kd.C_of_reads (h1 := fun _ => rfl) (hA24 _ (Kd.reads_of_C HR0.out)))
        have HC347 := mk0 hC24
        clear hA24 hC24 hi024 hsz24
        go_wp2_with (first | ((with_reducible refine gate_builtin (b := .append) (xs := #[.tmp 46, .tmp 49]) rfl ?_); at_builtin; refine Kd.R_append_rows Kd.string (w0 := w) w.heap.size rfl (.tmp 46) (.tmp 49) 22 9 (.string ⟨#[]⟩) 16 rfl Tryd.underlying22 info9 rfl (by decide) (by omega) u7 x7_1 (l0.drop (x8_1 : Int).toNat) _ _ _ (fun _ => True) (fun _ => False) rfl rfl ?aO ?aR (fun _ _ h => h) (fun _ h => h.elim) ?aF ?aB ?aS ?aL ?_; (case aR => first | (rw [← show (l0.drop (x8_1 : Int).toNat).length = (l0.length - x8_1.toNat) from List.length_drop]; repeat (first | exact (Kd.C_below HR347.out HB.out) | (with_reducible refine Kd.C_alloc ?_ _) | (with_reducible refine Kd.C_drewN ?_ _) | (with_reducible refine Kd.C_drew ?_))) | (repeat (first | exact (Kd.C_below HR347.out HB.out) | (with_reducible refine Kd.C_alloc ?_ _) | (with_reducible refine Kd.C_drewN ?_ _) | (with_reducible refine Kd.C_drew ?_)))); (case aB => exact (by repeat (first | (with_reducible first | exact HB.out | apply bA | apply bN | apply bD | refine bS ?_ (by assumption)) | exact HB.out))); (case aF => exact (fun _ _ => trivial)); (case aO => exact (uR HO_7.out)); (case aS => exact (below_size (by repeat (first | (with_reducible first | exact HB.out | apply bA | apply bN | apply bD | refine bS ?_ (by assumption)) | exact HB.out)))); (case aL => have := LMc23.out; have hlx_ := (show (l0.drop (x8_1 : Int).toNat).length = (l0.length - x8_1.toNat) from List.length_drop); omega); intro v349 w25 ho hb hg hat; rw [← Ny348.out] at ho; have n0_ := mk0 (Kd.R_over' (uR HO_337000.out) (Kd.R_typed (uR HO_7.out)) (by decide) hg); have n1_ := mk0 (blk_grown (g := gb331) (o := .cells #[.slice none 0 0, .int .i64 0] 43 (0, 0)) (uB BK331.out) hg (Kd.R_ne HO_7.out BK331.out (by decide))); have n2_ := mk0 (blk_grown (g := gb336) (o := .cells #[.slice Ao8 t332.length co8, .int .i64 t335] 43 (0, 0)) (uB BK336.out) hg (Kd.R_ne HO_7.out BK336.out (by decide))); have n3_ := mk0 (hb); have n4_ := mk0 (ho); clear HO_337000; clear BK331; clear BK336; clear HB; clear HO_7; have HO_337000 := n0_; have BK331 := n1_; have BK336 := n2_; have HB := n3_; have HO350 := n4_; clear n0_ n1_ n2_ n3_ n4_; clear ho hb hg hat; have hnb26 := NB331_336.out; have hnc26 := NB336_331.out; have hcz27_0 : w25.cell? ⟨gb331, 0, none⟩ = some (.slice none 0 0) := (blk_cell BK331.out 0).trans rfl; have hcz27_1 : w25.cell? ⟨gb331, 1, none⟩ = some (.int .i64 0) := (blk_cell BK331.out 1).trans rfl; have hfz27_0 := blk_frozen BK331.out 0; have hfz27_1 := blk_frozen BK331.out 1))
        refine bodyPost_ret (results_tc rfl _ _ gb331 43 #[.slice none 0 0, .int .i64 0] (0, 0) _ rfl (by (with_reducible repeat (first | refine blk_drewN ?_ _ | refine blk_drew ?_ | refine blk_alloc ?_ _)); refine blk_put (cs := #[.slice none 0 0, .int .i64 0]) ?_ 1 _ rfl; (with_reducible repeat (first | refine blk_drewN ?_ _ | refine blk_drew ?_ | refine blk_alloc ?_ _)); refine blk_put (cs := #[.slice none 0 0, .int .i64 0]) ?_ 0 _ rfl; (with_reducible repeat (first | refine blk_drewN ?_ _ | refine blk_drew ?_ | refine blk_alloc ?_ _)); exact BK331.out) Tryd.underlying43 rfl (by kernel_rfl)) rfl ?_
        exact ⟨_, _, by first | rfl | (simp [errW_none, errW_some] <;> rfl) | (simp [*, errW_none, errW_some] <;> rfl), uR (Kd.R_mono (Kd.R_far (p := ⟨gb331, 1, none⟩) (Kd.R_far (p := ⟨gb331, 0, none⟩) (Kd.R_types HO350.out BK331.out (by decide)) (fun _ hk => hk.2) (.slice none 0 0)) (fun _ hk => hk.2) (.int .i64 0)) (fun _ hk => trivial)), by first | exact Kd.R_nil _ _ _ _ _ | exact Kd.N_nil _ _ _ _ _ | exact Kd.V_nil _ _ _ _ _ | exact Kd.Q_nil _ _ _ _ _ | exact Kd.S_nil _ _ _ _ _, by repeat (first | (with_reducible first | exact HB.out | apply bA | apply bN | apply bD | refine bS ?_ (by assumption)) | exact HB.out)⟩
       ·rw [if_neg c23] at H
        exact absurd H (by simp)
      ·rw [if_neg c22] at H
       exact absurd H (by simp)
     ·rw [if_neg c21] at H
      exact absurd H (by simp)
 ·rw [if_neg c4] at H
  have c4b0 : (t335 == 0) = false := beq_eq_false_iff_ne.mpr c4
  have c4b1 : (t335 != 0) = true := bne_iff_ne.mpr c4
  simp only [Option.some.injEq, Prod.mk.injEq] at H
  obtain ⟨rfl, rfl, rfl⟩ := H
  go_enter Tryd.func20, Tryd.ntmps20
  try go_wp2_with (first | ((with_reducible refine gate_dst (N := 5) rfl ?_); refine box_event ?hg (N := 5) ?hd (cs := #[.slice none 0 0, .int .i64 0]) (t := 43) ?hr ?_; (case hd => rfl); (case hg => rfl); (case hr => first | (go_simp; done) | (go_simp; rfl)); intro gb331 hg w28 hbox hb; have n0_ := mk0 (below_step (uL HB.out) hb); have n1_ := mk0 (hbox); have n2_ := mk0 ((by rw [hg]; exact (below_size (uL HB.out)) : w.heap.size ≤ gb331)); have n3_ := mk0 ((by rw [hg]; exact (below_size (uL HB.out)) : w.heap.size ≤ gb331)); clear HB; have HB := n0_; have BK331 := n1_; have GW331 := n2_; have GE331 := n3_; clear n0_ n1_ n2_ n3_; clear hb hbox hg) | ((with_reducible refine gate_callee (f := 19) rfl ?_); refine goesL_ (some 13) rfl rfl Tryd.func19 (by kernel_rfl) rfl #[.int .i64 (l0.length : Int), .slice A1 l1.length c1] rfl (by (try simp only [List.map_toArray, List.map_cons, List.map_nil]); first | done | rfl | (simp only [List.length_drop, List.length_take]; rfl)) ?_; (with_reducible refine (furrowref4_CheckEdits.calls k (l0.length : Int) _ _ l1 t332 t335 _ ?side1 ?side2 A3.out).mono ?_); (case side1 => repeat (first | exact (Kd.C_below HR1.out HB.out) | (with_reducible refine Kd.C_alloc ?_ _) | (with_reducible refine Kd.C_drewN ?_ _) | (with_reducible refine Kd.C_drew ?_))); (case side2 => exact HC1.out); rintro e w29 ⟨v333, rfl, ho0, hb⟩; refine ⟨_, rfl, ?_⟩; have n0_ := mk0 (Kd.R_lower ho0 (below_size (by repeat (first | (with_reducible first | exact HB.out | apply bA | apply bN | apply bD | refine bS ?_ (by assumption)) | exact HB.out)))); have n1_ := mk0 (blk_below (g := gb331) (o := .cells #[.slice none 0 0, .int .i64 0] 43 (0, 0)) (uB BK331.out) hb); have n2_ := mk0 (below_step (by repeat (first | (with_reducible first | exact HB.out | apply bA | apply bN | apply bD | refine bS ?_ (by assumption)) | exact HB.out)) hb); clear BK331; clear HB; have HO334 := n0_; have BK331 := n1_; have HB := n2_; clear n0_ n1_ n2_; (try clear hb); (try clear hb2); (try clear hk); (try clear hi); (try clear ho0)) | ((with_reducible refine gate_dst (N := 6) rfl ?_); refine box_event ?hg (N := 6) ?hd (cs := #[.slice none 0 0, .int .i64 0]) (t := 43) ?hr ?_; (case hd => rfl); (case hg => rfl); (case hr => first | (go_simp; done) | (go_simp; rfl)); intro gb336 hg w30 hbox hb; have n0_ := mk0 (Kd.R_below (uR HO334.out) hb); have n1_ := mk0 (blk_below (g := gb331) (o := .cells #[.slice none 0 0, .int .i64 0] 43 (0, 0)) (uB BK331.out) hb); have n2_ := mk0 (below_step (by repeat (first | (with_reducible first | exact HB.out | apply bA | apply bN | apply bD | refine bS ?_ (by assumption)) | exact HB.out)) hb); have n3_ := mk0 (hbox); have n4_ := mk0 ((by rw [hg]; exact (below_size (by repeat (first | (with_reducible first | exact HB.out | apply bA | apply bN | apply bD | refine bS ?_ (by assumption)) | exact HB.out))) : w.heap.size ≤ gb336)); have n5_ := mk0 ((by rw [hg]; exact (below_size (by repeat (first | (with_reducible first | exact HB.out | apply bA | apply bN | apply bD | refine bS ?_ (by assumption)) | exact HB.out))) : w.heap.size ≤ gb336)); have n6_ := mk0 ((by rw [hg]; exact Nat.ne_of_lt (blk_lt (g := gb331) (o := .cells #[.slice none 0 0, .int .i64 0] 43 (0, 0)) (uB BK331.out)) : gb331 ≠ gb336)); have n7_ := mk0 ((by rw [hg]; exact Nat.ne_of_gt (blk_lt (g := gb331) (o := .cells #[.slice none 0 0, .int .i64 0] 43 (0, 0)) (uB BK331.out)) : gb336 ≠ gb331)); clear HO334; clear BK331; clear HB; have HO334 := n0_; have BK331 := n1_; have HB := n2_; have BK336 := n3_; have GW336 := n4_; have GE336 := n5_; have NB331_336 := n6_; have NB336_331 := n7_; clear n0_ n1_ n2_ n3_ n4_ n5_ n6_ n7_; clear hb hbox hg; obtain ⟨Ao31, co31, eo31⟩ := Kd.R_slice HO334.out; subst eo31; have hnb32 := NB336_331.out; have hnc32 := NB331_336.out; have hcz33_0 : w30.cell? ⟨gb336, 0, none⟩ = some (.slice none 0 0) := (blk_cell BK336.out 0).trans rfl; have hcz33_1 : w30.cell? ⟨gb336, 1, none⟩ = some (.int .i64 0) := (blk_cell BK336.out 1).trans rfl; have hfz33_0 := blk_frozen BK336.out 0; have hfz33_1 := blk_frozen BK336.out 1))
  have n0_ : Aside0 (Kd.R k67 67 ((w30.setCell ⟨gb336, 0, none⟩ (.slice Ao31 t332.length co31)).setCell ⟨gb336, 1, none⟩ (.int .i64 t335)) w.heap.size (fun _ => True) (.slice Ao31 t332.length co31) t332) := ⟨uR (Kd.R_mono (Kd.R_far (p := ⟨gb336, 1, none⟩) (Kd.R_far (p := ⟨gb336, 0, none⟩) (Kd.R_types HO334.out BK336.out (by decide)) (fun _ hk => hk.2) (.slice Ao31 t332.length co31)) (fun _ hk => hk.2) (.int .i64 t335)) (fun _ hk => trivial))⟩
  have n1_ : Aside0 (((w30.setCell ⟨gb336, 0, none⟩ (.slice Ao31 t332.length co31)).setCell ⟨gb336, 1, none⟩ (.int .i64 t335)).heap[gb331]? = some (.cells #[.slice none 0 0, .int .i64 0] 43 (0, 0))) := ⟨by (with_reducible repeat (first | refine blk_drewN ?_ _ | refine blk_drew ?_ | refine blk_alloc ?_ _)); refine blk_far ?_ NB331_336.out _; (with_reducible repeat (first | refine blk_drewN ?_ _ | refine blk_drew ?_ | refine blk_alloc ?_ _)); refine blk_far ?_ NB331_336.out _; (with_reducible repeat (first | refine blk_drewN ?_ _ | refine blk_drew ?_ | refine blk_alloc ?_ _)); exact BK331.out⟩
  have n2_ : Aside0 (((w30.setCell ⟨gb336, 0, none⟩ (.slice Ao31 t332.length co31)).setCell ⟨gb336, 1, none⟩ (.int .i64 t335)).heap[gb336]? = some (.cells #[.slice Ao31 t332.length co31, .int .i64 t335] 43 (0, 0))) := ⟨by (with_reducible repeat (first | refine blk_drewN ?_ _ | refine blk_drew ?_ | refine blk_alloc ?_ _)); refine blk_put (cs := #[.slice Ao31 t332.length co31, .int .i64 0]) ?_ 1 _ rfl; (with_reducible repeat (first | refine blk_drewN ?_ _ | refine blk_drew ?_ | refine blk_alloc ?_ _)); refine blk_put (cs := #[.slice none 0 0, .int .i64 0]) ?_ 0 _ rfl; (with_reducible repeat (first | refine blk_drewN ?_ _ | refine blk_drew ?_ | refine blk_alloc ?_ _)); exact BK336.out⟩
  have n3_ : Aside0 (Below w.heap.size w ((w30.setCell ⟨gb336, 0, none⟩ (.slice Ao31 t332.length co31)).setCell ⟨gb336, 1, none⟩ (.int .i64 t335))) := ⟨by repeat (first | (with_reducible first | exact HB.out | apply bA | apply bN | apply bD | refine bS ?_ (by assumption)) | exact HB.out)⟩
  (try clear HO334)
  (try clear BK331)
  (try clear BK336)
  (try clear HB)
  generalize ((w30.setCell ⟨gb336, 0, none⟩ (.slice Ao31 t332.length co31)).setCell ⟨gb336, 1, none⟩ (.int .i64 t335)) = w34 at n0_ n1_ n2_ n3_ ⊢
  have HO334 := n0_
  have BK331 := n1_
  have BK336 := n2_
  have HB := n3_
  clear n0_ n1_ n2_ n3_
  have n0_ := mk0 (Kd.R_drew HO334.out)
  have n1_ := mk0 (blk_drew BK331.out)
  have n2_ := mk0 (blk_drew BK336.out)
  have n3_ := mk0 (below_drew1 HB.out)
  clear HO334
  clear BK331
  clear BK336
  clear HB
  have HO334 := n0_
  have BK331 := n1_
  have BK336 := n2_
  have HB := n3_
  clear n0_ n1_ n2_ n3_
  refine start_ (n := 3) (S := fun w' => w'.cell? ⟨gb336, 0, none⟩ = some (.slice Ao31 t332.length co31) ∧ w'.cell? ⟨gb336, 1, none⟩ = some (.int .i64 t335)) (ds := []) #[false, false, false] (by kernel_rfl) rfl rfl ⟨(blk_cell BK336.out 0).trans rfl, (blk_cell BK336.out 1).trans rfl⟩ (fun hHeld => ?_)
  generalize w34.drew = w35 at HO334 BK331 BK336 HB hHeld ⊢
  refine pure_ (i := 1) (N := some 4) (v := ?_) (a' := ?_) #[false, true, false] rfl rfl (by kernel_rfl) (fun _ _ _ h => h) (Or.inl ⟨by rfl, ?_⟩) ?_ ?_
  rotate_left
  ·intro w'
   go_simp
   with_reducible rfl
  rotate_left
  ·simp only [Act.put, List.setIfInBounds_toArray, List.set_cons_zero, List.set_cons_succ, i64_w, i32_w]
   rfl
  refine take_ (i := 0) (N := some 17) (v := ?_) (a' := ?_) #[true, true, false] rfl rfl (by kernel_rfl) (fun _ _ _ h => h) (Or.inl ⟨by rfl, ?_⟩) hHeld ?_ ?_
  rotate_left
  ·rintro w' ⟨s0, s1⟩
   go_simp
   with_reducible rfl
  rotate_left
  ·simp only [Act.put, List.setIfInBounds_toArray, List.set_cons_zero, List.set_cons_succ, i64_w, i32_w]
   rfl
  refine one_ (i := 2) (N := none) #[true, true, true] rfl rfl (by kernel_rfl) (by decide) (fun K hK => ?_)
  have hs36 : w35.cell? ⟨gb331, 0, none⟩ = some (.slice none 0 0) := (blk_cell BK331.out 0).trans rfl
  have hfs36 := blk_frozen BK331.out 0
  have hns36_1 := NB336_331.out
  have hms36_1 := NB331_336.out
  have hs37 : w35.cell? ⟨gb331, 1, none⟩ = some (.int .i64 0) := (blk_cell BK331.out 1).trans rfl
  have hfs37 := blk_frozen BK331.out 1
  have hns37_1 := NB336_331.out
  have hms37_1 := NB331_336.out
  refine skip_ (w1 := ?_) (by rfl) rfl ?_ ?_
  rotate_left
  ·go_simp
   rfl
  refine hK.out _ _ ⟨((cell_far (p := ⟨gb331, _, none⟩) NB336_331.out _).trans (((cell_far (p := ⟨gb331, _, none⟩) NB336_331.out _).trans (hHeld.1)))), ((cell_far (p := ⟨gb331, _, none⟩) NB336_331.out _).trans (((cell_far (p := ⟨gb331, _, none⟩) NB336_331.out _).trans (hHeld.2))))⟩ (fun hHeld => ?_)
  clear hK K
  refine done_ (by kernel_rfl) ?_
  try go_wp2
  refine bodyPost_ret (results_tc rfl _ _ gb331 43 #[.slice Ao31 t332.length co31, .int .i64 t335] (0, 0) _ rfl (by (with_reducible repeat (first | refine blk_drewN ?_ _ | refine blk_drew ?_ | refine blk_alloc ?_ _)); refine blk_put (cs := #[.slice Ao31 t332.length co31, .int .i64 0]) ?_ 1 _ rfl; (with_reducible repeat (first | refine blk_drewN ?_ _ | refine blk_drew ?_ | refine blk_alloc ?_ _)); refine blk_put (cs := #[.slice none 0 0, .int .i64 0]) ?_ 0 _ rfl; (with_reducible repeat (first | refine blk_drewN ?_ _ | refine blk_drew ?_ | refine blk_alloc ?_ _)); exact BK331.out) Tryd.underlying43 rfl (by kernel_rfl)) rfl ?_
  exact ⟨_, _, by first | rfl | (simp [errW_none, errW_some] <;> rfl) | (simp [*, errW_none, errW_some] <;> rfl), by first | exact Kd.R_nil _ _ _ _ _ | exact Kd.N_nil _ _ _ _ _ | exact Kd.V_nil _ _ _ _ _ | exact Kd.Q_nil _ _ _ _ _ | exact Kd.S_nil _ _ _ _ _, uR (Kd.R_mono (Kd.R_far (p := ⟨gb331, 1, none⟩) (Kd.R_far (p := ⟨gb331, 0, none⟩) (Kd.R_types HO334.out BK331.out (by decide)) (fun _ hk => hk.2) (.slice Ao31 t332.length co31)) (fun _ hk => hk.2) (.int .i64 t335)) (fun _ hk => trivial)), by repeat (first | (with_reducible first | exact HB.out | apply bA | apply bN | apply bD | refine bS ?_ (by assumption)) | exact HB.out)⟩

end Go.Proofs.YteeeoblpfepepaaDoor.X
