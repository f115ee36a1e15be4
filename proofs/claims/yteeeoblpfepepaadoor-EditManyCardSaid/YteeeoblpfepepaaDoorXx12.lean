-- PRINTED by print.py (a twelfth state) out of the translation. Not trusted: Lean checks it.
import Derived.Test.YteeeoblpfepepaaDoorXx0
import Derived.Test.YteeeoblpfepepaaDoorXx11
namespace Go.Proofs.YteeeoblpfepepaaDoor.X
open Go.Proofs.YteeeoblpfepepaaDoor.Flt Go.Proofs.YteeeoblpfepepaaDoor.H Go.RowKit Go.Proofs.YteeeoblpfepepaaDoorW.PrintWords Go.Proofs.YteeeoblpfepepaaDoorW.PrintLast Go.Proofs.YteeeoblpfepepaaDoorW.PrintMore
attribute [local go_sem] max2_int min2_int max_two min_two max_three min_three max_four min_four   -- for this text's walks alone
set_option linter.unusedVariables false
set_option linter.unusedSimpArgs false

/-! ### edit_Apply: function 12 -/
def edit_Apply.l0 : Nat → List ByteArray → List ByteArray → Int → List (S38) → Int → Int → Option (List ByteArray × (List (Flt)))
 | 0, _, _, _, _, _, _ => none
 | k + 1, x0, x7, x8, x18, x19, x20 => if x20 < x19 then (if 0 ≤ x20 then (if x20 < (x18.length : Int) then (if 0 ≤ x8 then (if x8 ≤ ((rd_T38 x18 x20).f0) then (if ((rd_T38 x18 x20).f0) ≤ (x0.length : Int) then (if x7.length + ((x0.take (((rd_T38 x18 x20).f0) : Int).toNat).drop (x8 : Int).toNat).length < 8796093022208 then ((some (x7 ++ ((x0.take (((rd_T38 x18 x20).f0) : Int).toNat).drop (x8 : Int).toNat) : List ByteArray)).bind fun y119 => (if y119.length + ((rd_T38 x18 x20).f2).length < 8796093022208 then (edit_Apply.l0 k x0 (y119 ++ ((rd_T38 x18 x20).f2)) ((rd_T38 x18 x20).f1) x18 x19 (wrap64 (x20 + 1))) else (none))) else (none)) else (none)) else (none)) else (none)) else (none)) else (none)) else (if 0 ≤ x8 then (if x8 ≤ (x0.length : Int) then (if x7.length + (x0.drop (x8 : Int).toNat).length < 8796093022208 then (some ((x7 ++ (x0.drop (x8 : Int).toNat)), ([] : List (Flt)))) else (none)) else (none)) else (none))
def edit_Apply.f (k : Nat) (l0 : List ByteArray) (l1 : List (S38)) : Option (List ByteArray × (List (Flt))) := (edit_Check.f k (l0.length : Int) l1).bind fun t113 => (if (t113.length : Int) = 0 then (edit_Apply.l0 k l0 ([] : List ByteArray) 0 l1 (l1.length : Int) 0) else (some (([] : List ByteArray), t113)))
theorem edit_Apply.mono_l : ∀ k, (∀ y0 y1 y2 y3 y4 y5, LeO (edit_Apply.l0 k y0 y1 y2 y3 y4 y5) (edit_Apply.l0 (k + 1) y0 y1 y2 y3 y4 y5))
 | 0 => fun _ _ _ _ _ _ r h => by simp [edit_Apply.l0] at h
 | k + 1 => by
  have ih0 := edit_Apply.mono_l k
  ·intro y0 y1 y2 y3 y4 y5
   unfold edit_Apply.l0
   repeat' first
   | (with_reducible exact ih0 _ _ _ _ _ _)
   | (with_reducible exact edit_Check.mono _ _ _)
   | (with_reducible exact LeO.refl _)
   | (with_reducible exact LeO.none _)
   | (with_reducible refine LeO.ite ?_ ?_)
   | (with_reducible refine LeO.bind ?_ (fun _ => ?_))
   | exact ih0 _ _ _ _ _ _
   | exact edit_Check.mono _ _ _
   | exact LeO.none _
   | refine LeO.ite ?_ ?_
   | refine LeO.bind ?_ (fun _ => ?_)
theorem edit_Apply.mono : ∀ a0 a1 k, LeO (edit_Apply.f k a0 a1) (edit_Apply.f (k + 1) a0 a1) := by
 intro a0 a1 k
 have ih0 := edit_Apply.mono_l k
 unfold edit_Apply.f
 repeat' first
   | (with_reducible exact ih0 _ _ _ _ _ _)
   | (with_reducible exact edit_Check.mono _ _ _)
   | (with_reducible exact LeO.refl _)
   | (with_reducible exact LeO.none _)
   | (with_reducible refine LeO.ite ?_ ?_)
   | (with_reducible refine LeO.bind ?_ (fun _ => ?_))
   | exact ih0 _ _ _ _ _ _
   | exact edit_Check.mono _ _ _
   | exact LeO.none _
   | refine LeO.ite ?_ ?_
   | refine LeO.bind ?_ (fun _ => ?_)
def edit_Apply.T9 : Bool × List (List Nat × List Nat) := (true, [([], []), ([], []), ([], []), ([], []), ([3], [3]), ([1, 2, 4], [1, 2, 4]), ([0, 5], [0, 5]), ([], []), ([7], [7]), ([6, 8, 6], [6, 8]), ([9, 9, 0, 1, 2, 3, 4, 5, 6, 7, 8, 9], [0, 9])])
def edit_Apply.B9 : List Nat := [0, 0, 0, 0, 8, 30, 63, 0, 128, 511, 1023]
theorem edit_Apply.tab9 : rtab .any (opsOf Tryd.f12 9) = edit_Apply.T9 := by kernel_rfl
theorem edit_Apply.bits9 : waitsOk edit_Apply.T9.2 edit_Apply.B9 = true := by kernel_rfl
set_option maxHeartbeats 8000000 in
set_option maxRecDepth 100000 in
theorem edit_Apply.calls (k : Nat) (A0 : Option Addr) (c0 : Nat) (l0 : List ByteArray) (A1 : Option Addr) (c1 : Nat) (l1 : List (S38)) (r1 : List ByteArray) (r2 : List (Flt)) (w : World) (hr0 : Kd.C Kd.string w A0 l0.length l0) (hc0 : l0.length ≤ c0) (hr1 : Kd.C k38 w A1 l1.length l1) (hc1 : l1.length ≤ c1) (h : edit_Apply.f k l0 l1 = some (r1, r2)) :
  Calls Tryd.prog 12 #[.slice A0 l0.length c0, .slice A1 l1.length c1] w fun e w' => ∃ v0_ v1_ : Value, e = .returned (.tuple #[v0_, errV v1_]) ∧ Kd.R Kd.string 9 w' w.heap.size (fun _ => True) v0_ r1 ∧ Kd.R fltK 65 w' w.heap.size (fun _ => True) v1_ r2 ∧ Below w.heap.size w w' := by
 have hu38 := Tryd.underlying38
 have HR0 := mk0 hr0
 have HC0 := mk0 hc0
 clear hr0 hc0
 have HR1 := mk0 hr1
 have HC1 := mk0 hc1
 clear hr1 hc1
 have HB := mk0 (Below.refl w.heap.size w)
 have H : ((edit_Check.f k (l0.length : Int) l1).bind fun t113 => (if (t113.length : Int) = 0 then (edit_Apply.l0 k l0 ([] : List ByteArray) 0 l1 (l1.length : Int) 0) else (some (([] : List ByteArray), t113)))) = some (r1, r2) := h
 clear h
 replace H := Option.bind_eq_some_iff.mp H
 obtain ⟨t113, A30, H⟩ := H
 replace H : (if (t113.length : Int) = 0 then (edit_Apply.l0 k l0 ([] : List ByteArray) 0 l1 (l1.length : Int) 0) else (some (([] : List ByteArray), t113))) = some (r1, r2) := H
 have A3 := mk0 A30
 clear A30
 by_cases c4 : (t113.length : Int) = 0
 ·rw [if_pos c4] at H
  have c4b0 : ((t113.length : Int) == 0) = true := beq_iff_eq.mpr c4
  have c4b1 : ((t113.length : Int) != 0) = false := bne_eq_false_iff_eq.mpr c4
  clear c4
  have H' := mk0 H
  clear H
  go_enter Tryd.func12, Tryd.ntmps12
  go_wp2_with (first | ((with_reducible refine gate_callee (f := 23) rfl ?_); refine goesL_ (some 14) rfl rfl Tryd.func23 (by kernel_rfl) rfl #[.int .i64 (l0.length : Int), .slice A1 l1.length c1] rfl (by (try simp only [List.map_toArray, List.map_cons, List.map_nil]); first | done | rfl | (simp only [List.length_drop, List.length_take]; rfl)) ?_; (with_reducible refine (edit_Check.calls k (l0.length : Int) _ _ l1 t113 _ ?side1 ?side2 A3.out).mono ?_); (case side1 => repeat (first | exact HR1.out | (with_reducible refine Kd.C_alloc ?_ _) | (with_reducible refine Kd.C_drewN ?_ _) | (with_reducible refine Kd.C_drew ?_))); (case side2 => exact HC1.out); rintro e w5 ⟨v114, rfl, ho0, hb⟩; refine ⟨_, rfl, ?_⟩; have n0_ := mk0 (Kd.R_lower ho0 (below_size (uL HB.out))); have n1_ := mk0 (below_step (uL HB.out) hb); clear HB; have HO115 := n0_; have HB := n1_; clear n0_ n1_; (try clear hb); (try clear hb2); (try clear hk); (try clear hi); (try clear ho0); (first | (have EHO115 := cmpV_no HO115.out (by with_reducible assumption)) | (have EHO115 := cmpV_yes HO115.out (by with_reducible assumption)) | skip)))
  go_loopg [7, 8, 20] k (fun kq v7 v8 v20 w' => ∃ (x7_1 : List ByteArray) (x8_1 : Int) (x20_1 : Int), v8 = .int .i64 x8_1 ∧ v20 = .int .i64 x20_1 ∧ Aside0 (edit_Apply.l0 kq l0 x7_1 x8_1 l1 (l1.length : Int) x20_1 = some (r1, r2)) ∧ Aside0 (kq ≤ k) ∧ Aside0 (Kd.R Kd.string 9 w' w.heap.size (fun _ => True) v7 x7_1) ∧ Aside0 (Below w.heap.size w w'))
  case atStart => exact ⟨(([] : List ByteArray)), (0), (0), (by first | rfl | (simp; done) | (simp [*]; done) | (simp [bne_nil_, beq_nil_]; done)), (by first | rfl | (simp; done) | (simp [*]; done) | (simp [bne_nil_, beq_nil_]; done)), H', ⟨Nat.le_refl _⟩, ⟨by first | exact Kd.R_nil _ _ _ _ _ | exact Kd.N_nil _ _ _ _ _ | exact Kd.V_nil _ _ _ _ _ | exact Kd.Q_nil _ _ _ _ _ | exact Kd.S_nil _ _ _ _ _⟩, ⟨uL HB.out⟩⟩
  case round =>
   clear H'
   try clear c1
   try clear c2
   try clear p2
   try clear c4
   try clear c4b0
   try clear c4b1
   obtain ⟨x7_1, x8_1, x20_1, rfl, rfl, HA, HK1, HO_7, HB⟩ := hrel
   cases gk with
   | zero => exact absurd HA.out (by simp [edit_Apply.l0])
   | succ k1 =>
    have H := HA.out
    clear HA
    simp only [edit_Apply.l0] at H
    by_cases c6 : x20_1 < (l1.length : Int)
    ·rw [if_pos c6] at H
     have c6b0 : decide (x20_1 < (l1.length : Int)) = true := decide_eq_true c6
     clear c6
     by_cases c7 : 0 ≤ x20_1
     ·rw [if_pos c7] at H
      have c7b0 : decide (0 ≤ x20_1) = true := decide_eq_true c7
      clear c7
      by_cases c8 : x20_1 < (l1.length : Int)
      ·rw [if_pos c8] at H
       have c8b0 : decide (x20_1 < (l1.length : Int)) = true := decide_eq_true c8
       clear c8
       by_cases c9 : 0 ≤ x8_1
       ·rw [if_pos c9] at H
        have c9b0 := eq_true c9
        have c9b1 : decide (0 ≤ x8_1) = true := decide_eq_true c9
        clear c9
        by_cases c10 : x8_1 ≤ ((rd_T38 l1 x20_1).f0)
        ·rw [if_pos c10] at H
         have c10b0 := eq_true c10
         have c10b1 : decide (x8_1 ≤ ((rd_T38 l1 x20_1).f0)) = true := decide_eq_true c10
         clear c10
         by_cases c11 : ((rd_T38 l1 x20_1).f0) ≤ (l0.length : Int)
         ·rw [if_pos c11] at H
          have c11b0 := eq_true c11
          have c11b1 : decide (((rd_T38 l1 x20_1).f0) ≤ (l0.length : Int)) = true := decide_eq_true c11
          clear c11
          by_cases c12 : x7_1.length + ((l0.take (((rd_T38 l1 x20_1).f0) : Int).toNat).drop (x8_1 : Int).toNat).length < 8796093022208
          ·rw [if_pos c12] at H
           have LMc12 := mk0 c12
           clear c12
           obtain ⟨y119, hy119⟩ : ∃ y_ : List ByteArray, y_ = (x7_1 ++ ((l0.take (((rd_T38 l1 x20_1).f0) : Int).toNat).drop (x8_1 : Int).toNat)) := ⟨_, rfl⟩
           replace H : (if y119.length + ((rd_T38 l1 x20_1).f2).length < 8796093022208 then (edit_Apply.l0 k1 l0 (y119 ++ ((rd_T38 l1 x20_1).f2)) ((rd_T38 l1 x20_1).f1) l1 (l1.length : Int) (wrap64 (x20_1 + 1))) else (none)) = some (r1, r2) := by first | (rw [hy119]; with_reducible exact H) | (have H2_ := (Option.bind_some _ _).symm.trans H; rw [hy119]; with_reducible exact H2_) | (have H2_ := (Option.bind_some _ _).symm.trans H; with_reducible exact H2_) | with_reducible exact H | (rw [hy119]; exact H) | exact H
           have Ny119 := mk0 hy119
           clear hy119
           by_cases c13 : y119.length + ((rd_T38 l1 x20_1).f2).length < 8796093022208
           ·rw [if_pos c13] at H
            have LMc13 := mk0 c13
            clear c13
            obtain ⟨y122, hy122⟩ : ∃ y_ : List ByteArray, y_ = (y119 ++ ((rd_T38 l1 x20_1).f2)) := ⟨_, rfl⟩
            replace H : (edit_Apply.l0 k1 l0 y122 ((rd_T38 l1 x20_1).f1) l1 (l1.length : Int) (wrap64 (x20_1 + 1))) = some (r1, r2) := by first | (rw [hy122]; with_reducible exact H) | (have H2_ := (Option.bind_some _ _).symm.trans H; rw [hy122]; with_reducible exact H2_) | (have H2_ := (Option.bind_some _ _).symm.trans H; with_reducible exact H2_) | with_reducible exact H | (rw [hy122]; exact H) | exact H
            have Ny122 := mk0 hy122
            clear hy122
            have H' := mk0 H
            clear H
            have p116 : 0 ≤ (x20_1 : Int) := of_decide_eq_true (by first | (with_reducible assumption) | assumption)
            have q116 : x20_1 < (l1.length : Int) := of_decide_eq_true (by first | (with_reducible assumption) | assumption)
            obtain ⟨ad116, A116_2, c116_2, e116, hx116_0, hx116_1, hx116_2, hl116_2, hi116_2⟩ := at_T38 HR1.out x20_1 p116 q116
            cases e116
            replace hx116_0 := (HB.out.cell (World.block_lt_of_cell? w _ hx116_0)).trans hx116_0
            replace hx116_1 := (HB.out.cell (World.block_lt_of_cell? w _ hx116_1)).trans hx116_1
            replace hx116_2 := (HB.out.cell (World.block_lt_of_cell? w _ hx116_2)).trans hx116_2
            have HR116_2 := mk0 hi116_2
            have HC116_2 := mk0 hl116_2
            clear hi116_2 hl116_2
            replace p116 := eq_true p116
            replace q116 := eq_true q116
            try go_wp2_with (first | ((with_reducible refine gate_dst (N := 10) rfl ?_); refine box_event ?hg (N := 10) ?hd (cs := #[.int .i64 0, .int .i64 0, .slice none 0 0]) (t := 38) ?hr ?_; (case hd => rfl); (case hg => rfl); (case hr => first | (go_simp; done) | (go_simp; rfl)); intro gb117 hg w14 hbox hb; have n0_ := mk0 (Kd.R_below (uR HO_7.out) hb); have n1_ := mk0 (below_step (uL HB.out) hb); have n2_ := mk0 (hbox); have n3_ := mk0 ((by rw [hg]; exact (below_size (uL HB.out)) : w.heap.size ≤ gb117)); have n4_ := mk0 ((by rw [hg]; exact (below_size (uL HB.out)) : w.heap.size ≤ gb117)); clear HO_7; clear HB; have HO_7 := n0_; have HB := n1_; have BK117 := n2_; have GW117 := n3_; have GE117 := n4_; clear n0_ n1_ n2_ n3_ n4_; clear hb hbox hg; have hcz15_0 : w14.cell? ⟨gb117, 0, none⟩ = some (.int .i64 0) := (blk_cell BK117.out 0).trans rfl; have hcz15_1 : w14.cell? ⟨gb117, 1, none⟩ = some (.int .i64 0) := (blk_cell BK117.out 1).trans rfl; have hcz15_2 : w14.cell? ⟨gb117, 2, none⟩ = some (.slice none 0 0) := (blk_cell BK117.out 2).trans rfl; have hfz15_0 := blk_frozen BK117.out 0; have hfz15_1 := blk_frozen BK117.out 1; have hfz15_2 := blk_frozen BK117.out 2))
            have n0_ : Aside0 (Kd.R Kd.string 9 (((w14.setCell ⟨gb117, 0, none⟩ (.int .i64 ((rd_T38 l1 x20_1).f0))).setCell ⟨gb117, 1, none⟩ (.int .i64 ((rd_T38 l1 x20_1).f1))).setCell ⟨gb117, 2, none⟩ (.slice A116_2 ((rd_T38 l1 x20_1).f2).length c116_2)) w.heap.size (fun _ => True) u7 x7_1) := ⟨uR (Kd.R_mono (Kd.R_far (p := ⟨gb117, 2, none⟩) (Kd.R_far (p := ⟨gb117, 1, none⟩) (Kd.R_far (p := ⟨gb117, 0, none⟩) (Kd.R_types HO_7.out BK117.out (by decide)) (fun _ hk => hk.2) (.int .i64 ((rd_T38 l1 x20_1).f0))) (fun _ hk => hk.2) (.int .i64 ((rd_T38 l1 x20_1).f1))) (fun _ hk => hk.2) (.slice A116_2 ((rd_T38 l1 x20_1).f2).length c116_2)) (fun _ hk => trivial))⟩
            have n1_ : Aside0 ((((w14.setCell ⟨gb117, 0, none⟩ (.int .i64 ((rd_T38 l1 x20_1).f0))).setCell ⟨gb117, 1, none⟩ (.int .i64 ((rd_T38 l1 x20_1).f1))).setCell ⟨gb117, 2, none⟩ (.slice A116_2 ((rd_T38 l1 x20_1).f2).length c116_2)).heap[gb117]? = some (.cells #[.int .i64 ((rd_T38 l1 x20_1).f0), .int .i64 ((rd_T38 l1 x20_1).f1), .slice A116_2 ((rd_T38 l1 x20_1).f2).length c116_2] 38 (0, 0))) := ⟨by (with_reducible repeat (first | refine blk_drewN ?_ _ | refine blk_drew ?_ | refine blk_alloc ?_ _)); refine blk_put (cs := #[.int .i64 ((rd_T38 l1 x20_1).f0), .int .i64 ((rd_T38 l1 x20_1).f1), .slice none 0 0]) ?_ 2 _ rfl; (with_reducible repeat (first | refine blk_drewN ?_ _ | refine blk_drew ?_ | refine blk_alloc ?_ _)); refine blk_put (cs := #[.int .i64 ((rd_T38 l1 x20_1).f0), .int .i64 0, .slice none 0 0]) ?_ 1 _ rfl; (with_reducible repeat (first | refine blk_drewN ?_ _ | refine blk_drew ?_ | refine blk_alloc ?_ _)); refine blk_put (cs := #[.int .i64 0, .int .i64 0, .slice none 0 0]) ?_ 0 _ rfl; (with_reducible repeat (first | refine blk_drewN ?_ _ | refine blk_drew ?_ | refine blk_alloc ?_ _)); exact BK117.out⟩
            have n2_ : Aside0 (Below w.heap.size w (((w14.setCell ⟨gb117, 0, none⟩ (.int .i64 ((rd_T38 l1 x20_1).f0))).setCell ⟨gb117, 1, none⟩ (.int .i64 ((rd_T38 l1 x20_1).f1))).setCell ⟨gb117, 2, none⟩ (.slice A116_2 ((rd_T38 l1 x20_1).f2).length c116_2))) := ⟨by repeat (first | (with_reducible first | exact HB.out | apply bA | apply bN | apply bD | refine bS ?_ (by assumption)) | exact HB.out)⟩
            (try clear HO_7)
            (try clear BK117)
            (try clear HB)
            generalize (((w14.setCell ⟨gb117, 0, none⟩ (.int .i64 ((rd_T38 l1 x20_1).f0))).setCell ⟨gb117, 1, none⟩ (.int .i64 ((rd_T38 l1 x20_1).f1))).setCell ⟨gb117, 2, none⟩ (.slice A116_2 ((rd_T38 l1 x20_1).f2).length c116_2)) = w16 at n0_ n1_ n2_ ⊢
            have HO_7 := n0_
            have BK117 := n1_
            have HB := n2_
            clear n0_ n1_ n2_
            have n0_ := mk0 (Kd.R_drew HO_7.out)
            have n1_ := mk0 (blk_drew BK117.out)
            have n2_ := mk0 (below_drew1 HB.out)
            clear HO_7
            clear BK117
            clear HB
            have HO_7 := n0_
            have BK117 := n1_
            have HB := n2_
            clear n0_ n1_ n2_
            obtain ⟨i018, hi018, _, hsz18, _⟩ := info_parts info9
            obtain ⟨A18, hcut18, hA18, hC18⟩ := print_mid_of (P := Tryd.prog) Value.string (⟨#[]⟩ : ByteArray) 22 9 .i64 .i64 Tryd.underlying22 hi018 hsz18 A0 c0 l0 x8_1 ((rd_T38 l1 x20_1).f0) (of_decide_eq_true (by first | (with_reducible assumption) | assumption)) (by first | omega | exact of_decide_eq_true (by first | (with_reducible assumption) | assumption)) (of_decide_eq_true (by first | (with_reducible assumption) | assumption)) HC0.out
            have HR118 := mk0 (Kd.C_of_reads (h1 := fun _ => rfl) (hA18 _ (Kd.reads_of_C HR0.out)))
            have HC118 := mk0 hC18
            clear hA18 hC18 hi018 hsz18
            refine start_ (n := 11) (S := fun w' => w'.cell? ⟨gb117, 0, none⟩ = some (.int .i64 ((rd_T38 l1 x20_1).f0)) ∧ w'.cell? ⟨gb117, 1, none⟩ = some (.int .i64 ((rd_T38 l1 x20_1).f1)) ∧ w'.cell? ⟨gb117, 2, none⟩ = some (.slice A116_2 ((rd_T38 l1 x20_1).f2).length c116_2)) (ds := []) #[false, false, false, false, false, false, false, false, false, false, false] (by kernel_rfl) rfl rfl ⟨(blk_cell BK117.out 0).trans rfl, (blk_cell BK117.out 1).trans rfl, (blk_cell BK117.out 2).trans rfl⟩ (fun hHeld => ?_); refine with_tabW edit_Apply.tab9 edit_Apply.bits9 (fun HT_ HW_ => ?_)
            generalize w16.drew = w17 at HO_7 BK117 HB HR118 hHeld ⊢
            refine pure_ (i := 0) (N := some 24) (v := ?_) (a' := ?_) #[true, false, false, false, false, false, false, false, false, false, false] rfl rfl (any_of HT_.out (by kernel_rfl)) (fun _ _ _ h => h) (Or.inl ⟨by rfl, ?_⟩) ?_ ?_
            rotate_left
            ·intro w'
             go_simp
             with_reducible rfl
            rotate_left
            ·simp only [Act.put, List.setIfInBounds_toArray, List.set_cons_zero, List.set_cons_succ, i64_w, i32_w]
             rfl
            refine pure_ (i := 1) (N := some 25) (v := ?_) (a' := ?_) #[true, true, false, false, false, false, false, false, false, false, false] rfl rfl (any_of HT_.out (by kernel_rfl)) (fun _ _ _ h => h) (Or.inl ⟨by rfl, ?_⟩) ?_ ?_
            rotate_left
            ·intro w'
             go_simp
             with_reducible rfl
            rotate_left
            ·simp only [Act.put, List.setIfInBounds_toArray, List.set_cons_zero, List.set_cons_succ, i64_w, i32_w]
             rfl
            refine pure_ (i := 2) (N := some 26) (v := ?_) (a' := ?_) #[true, true, true, false, false, false, false, false, false, false, false] rfl rfl (any_of HT_.out (by kernel_rfl)) (fun _ _ _ h => h) (Or.inl ⟨by rfl, ?_⟩) ?_ ?_
            rotate_left
            ·intro w'
             go_simp
             with_reducible rfl
            rotate_left
            ·simp only [Act.put, List.setIfInBounds_toArray, List.set_cons_zero, List.set_cons_succ, i64_w, i32_w]
             rfl
            refine pure_ (i := 3) (N := some 27) (v := ?_) (a' := ?_) #[true, true, true, true, false, false, false, false, false, false, false] rfl rfl (any_of HT_.out (by kernel_rfl)) (fun _ _ _ h => h) (Or.inl ⟨by rfl, ?_⟩) ?_ ?_
            rotate_left
            ·intro w'
             go_simp
             with_reducible rfl
            rotate_left
            ·simp only [Act.put, List.setIfInBounds_toArray, List.set_cons_zero, List.set_cons_succ, i64_w, i32_w]
             rfl
            refine pure_ (i := 7) (N := some 31) (v := ?_) (a' := ?_) #[true, true, true, true, false, false, false, true, false, false, false] rfl rfl (any_of HT_.out (by kernel_rfl)) (fun _ _ _ h => h) (Or.inl ⟨by rfl, ?_⟩) ?_ ?_
            rotate_left
            ·intro w'
             go_simp
             with_reducible rfl
            rotate_left
            ·simp only [Act.put, List.setIfInBounds_toArray, List.set_cons_zero, List.set_cons_succ, i64_w, i32_w]
             rfl
            refine take_ (i := 4) (N := some 28) (v := ?_) (a' := ?_) #[true, true, true, true, true, false, false, true, false, false, false] rfl rfl (take_ofW HT_.out HW_.out (by kernel_rfl)) (fun _ _ _ h => h) (Or.inl ⟨by rfl, ?_⟩) hHeld ?_ ?_
            rotate_left
            ·rintro w' ⟨s0, s1, s2⟩
             go_simp
             with_reducible rfl
            rotate_left
            ·simp only [Act.put, List.setIfInBounds_toArray, List.set_cons_zero, List.set_cons_succ, i64_w, i32_w]
             rfl
            refine pure_ (i := 5) (N := some 29) (v := ?_) (a' := ?_) #[true, true, true, true, true, true, false, true, false, false, false] rfl rfl (any_of HT_.out (by kernel_rfl)) (fun _ _ _ h => h) (Or.inl ⟨by rfl, ?_⟩) ?_ ?_
            rotate_left
            ·intro w'
             go_simp
             with_reducible rfl
            rotate_left
            ·simp only [Act.put, List.setIfInBounds_toArray, List.set_cons_zero, List.set_cons_succ, i64_w, i32_w]
             rfl
            refine take_ (i := 8) (N := some 32) (v := ?_) (a' := ?_) #[true, true, true, true, true, true, false, true, true, false, false] rfl rfl (take_ofW HT_.out HW_.out (by kernel_rfl)) (fun _ _ _ h => h) (Or.inl ⟨by rfl, ?_⟩) hHeld ?_ ?_
            rotate_left
            ·rintro w' ⟨s0, s1, s2⟩
             go_simp
             with_reducible rfl
            rotate_left
            ·simp only [Act.put, List.setIfInBounds_toArray, List.set_cons_zero, List.set_cons_succ, i64_w, i32_w]
             rfl
            refine one_ (i := 6) (N := some 30) #[true, true, true, true, true, true, true, true, true, false, false] rfl rfl (one_of HT_.out (by kernel_rfl)) (by decide) (fun K hK => ?_)
            refine Kd.R_append_rows_step Kd.string (w0 := w) w.heap.size (by rfl) (.tmp 24) (.tmp 29) 22 9 (.string ⟨#[]⟩) 16 rfl Tryd.underlying22 info9 rfl (by decide) (by omega) u7 x7_1 ((l0.take (((rd_T38 l1 x20_1).f0) : Int).toNat).drop (x8_1 : Int).toNat) _ _ _ (fun _ => True) (fun _ => False) rfl rfl ?aO ?aR (fun _ _ h => h) (fun _ h => h.elim) ?aF ?aB ?aS ?aL ?_
            (case aR => first | (rw [← show ((l0.take (((rd_T38 l1 x20_1).f0) : Int).toNat).drop (x8_1 : Int).toNat).length = (((rd_T38 l1 x20_1).f0).toNat - x8_1.toNat) from (by rw [List.length_drop, List.length_take]; have h_ : (((rd_T38 l1 x20_1).f0) : Int) ≤ (l0.length : Int) := of_decide_eq_true (by first | (with_reducible assumption) | assumption); omega)]; repeat (first | exact (Kd.C_below HR118.out HB.out) | (with_reducible refine Kd.C_alloc ?_ _) | (with_reducible refine Kd.C_drewN ?_ _) | (with_reducible refine Kd.C_drew ?_))) | (repeat (first | exact (Kd.C_below HR118.out HB.out) | (with_reducible refine Kd.C_alloc ?_ _) | (with_reducible refine Kd.C_drewN ?_ _) | (with_reducible refine Kd.C_drew ?_))))
            (case aB => exact (by repeat (first | (with_reducible first | exact HB.out | apply bA | apply bN | apply bD | refine bS ?_ (by assumption)) | exact HB.out)))
            (case aF => exact (fun _ _ => trivial))
            (case aO => exact (uR HO_7.out))
            (case aS => exact (below_size (by repeat (first | (with_reducible first | exact HB.out | apply bA | apply bN | apply bD | refine bS ?_ (by assumption)) | exact HB.out))))
            (case aL => have := LMc12.out; have hlx_ := (show ((l0.take (((rd_T38 l1 x20_1).f0) : Int).toNat).drop (x8_1 : Int).toNat).length = (((rd_T38 l1 x20_1).f0).toNat - x8_1.toNat) from (by rw [List.length_drop, List.length_take]; have h_ : (((rd_T38 l1 x20_1).f0) : Int) ≤ (l0.length : Int) := of_decide_eq_true (by first | (with_reducible assumption) | assumption); omega)); omega)
            intro v120 w19 ho hb hg hat
            rw [← Ny119.out] at ho
            have n0_ := mk0 (blk_grown (g := gb117) (o := .cells #[.int .i64 ((rd_T38 l1 x20_1).f0), .int .i64 ((rd_T38 l1 x20_1).f1), .slice A116_2 ((rd_T38 l1 x20_1).f2).length c116_2] 38 (0, 0)) (uB BK117.out) hg (Kd.R_ne HO_7.out BK117.out (by decide)))
            have n1_ := mk0 (hb)
            have n2_ := mk0 (ho)
            clear BK117
            clear HB
            clear HO_7
            have BK117 := n0_
            have HB := n1_
            have HO121 := n2_
            clear n0_ n1_ n2_
            clear ho hb hg hat
            refine hK.out _ _ ⟨(blk_cell BK117.out 0).trans rfl, (blk_cell BK117.out 1).trans rfl, (blk_cell BK117.out 2).trans rfl⟩ (fun hHeld => ?_)
            clear hK K
            refine norm_ (a' := ?_) ?_ ?_
            rotate_left
            ·show Act.put _ (some 30) _ = _
             simp only [Act.put, List.setIfInBounds_toArray, List.set_cons_zero, List.set_cons_succ, i64_w, i32_w]
             rfl
            refine one_ (i := 9) (N := some 33) #[true, true, true, true, true, true, true, true, true, true, false] rfl rfl (one_of HT_.out (by kernel_rfl)) (by decide) (fun K hK => ?_)
            refine Kd.R_append_rows_step Kd.string (w0 := w) w.heap.size (by rfl) (.tmp 30) (.tmp 32) 22 9 (.string ⟨#[]⟩) 16 rfl Tryd.underlying22 info9 rfl (by decide) (by omega) v120 y119 ((rd_T38 l1 x20_1).f2) _ _ _ (fun _ => True) (fun _ => False) rfl rfl ?aO ?aR (fun _ _ h => h) (fun _ h => h.elim) ?aF ?aB ?aS ?aL ?_
            (case aR => repeat (first | exact (Kd.C_below HR116_2.out HB.out) | (with_reducible refine Kd.C_alloc ?_ _) | (with_reducible refine Kd.C_drewN ?_ _) | (with_reducible refine Kd.C_drew ?_)))
            (case aB => exact (by repeat (first | (with_reducible first | exact HB.out | apply bA | apply bN | apply bD | refine bS ?_ (by assumption)) | exact HB.out)))
            (case aF => exact (fun _ _ => trivial))
            (case aO => exact (uR HO121.out))
            (case aS => exact (below_size (by repeat (first | (with_reducible first | exact HB.out | apply bA | apply bN | apply bD | refine bS ?_ (by assumption)) | exact HB.out))))
            (case aL => have := LMc13.out; omega)
            intro v123 w20 ho hb hg hat
            rw [← Ny122.out] at ho
            have n0_ := mk0 (blk_grown (g := gb117) (o := .cells #[.int .i64 ((rd_T38 l1 x20_1).f0), .int .i64 ((rd_T38 l1 x20_1).f1), .slice A116_2 ((rd_T38 l1 x20_1).f2).length c116_2] 38 (0, 0)) (uB BK117.out) hg (Kd.R_ne HO121.out BK117.out (by decide)))
            have n1_ := mk0 (hb)
            have n2_ := mk0 (ho)
            clear BK117
            clear HB
            clear HO121
            have BK117 := n0_
            have HB := n1_
            have HO124 := n2_
            clear n0_ n1_ n2_
            clear ho hb hg hat
            refine hK.out _ _ ⟨(blk_cell BK117.out 0).trans rfl, (blk_cell BK117.out 1).trans rfl, (blk_cell BK117.out 2).trans rfl⟩ (fun hHeld => ?_)
            clear hK K
            refine norm_ (a' := ?_) ?_ ?_
            rotate_left
            ·show Act.put _ (some 33) _ = _
             simp only [Act.put, List.setIfInBounds_toArray, List.set_cons_zero, List.set_cons_succ, i64_w, i32_w]
             rfl
            refine pure_ (i := 10) (N := some 7) (v := ?_) (a' := ?_) #[true, true, true, true, true, true, true, true, true, true, true] rfl rfl (any_of HT_.out (by kernel_rfl)) (fun _ _ _ h => h) (Or.inl ⟨by rfl, ?_⟩) ?_ ?_
            rotate_left
            ·intro w'
             go_simp
             with_reducible rfl
            rotate_left
            ·simp only [Act.put, List.setIfInBounds_toArray, List.set_cons_zero, List.set_cons_succ, i64_w, i32_w]
             rfl
            refine done_ (done_of HT_.out (by kernel_rfl)) ?_
            have hcz21_0 : w20.cell? ⟨gb117, 0, none⟩ = some (.int .i64 ((rd_T38 l1 x20_1).f0)) := (blk_cell BK117.out 0).trans rfl
            have hcz21_1 : w20.cell? ⟨gb117, 1, none⟩ = some (.int .i64 ((rd_T38 l1 x20_1).f1)) := (blk_cell BK117.out 1).trans rfl
            have hcz21_2 : w20.cell? ⟨gb117, 2, none⟩ = some (.slice A116_2 ((rd_T38 l1 x20_1).f2).length c116_2) := (blk_cell BK117.out 2).trans rfl
            have hfz21_0 := blk_frozen BK117.out 0
            have hfz21_1 := blk_frozen BK117.out 1
            have hfz21_2 := blk_frozen BK117.out 2
            try go_wp2
            go_roundg k1
            case measure => have := HK1.out; omega
            case rel => exact ⟨(y122), ((rd_T38 l1 x20_1).f1), (wrap64 (x20_1 + 1)), (by first | rfl | (simp; done) | (simp [*]; done) | (simp [bne_nil_, beq_nil_]; done)), (by first | rfl | (simp; done) | (simp [*]; done) | (simp [bne_nil_, beq_nil_]; done)), H', ⟨by have := HK1.out; omega⟩, ⟨uR HO124.out⟩, ⟨by repeat (first | (with_reducible first | exact HB.out | apply bA | apply bN | apply bD | refine bS ?_ (by assumption)) | exact HB.out)⟩⟩
           ·rw [if_neg c13] at H
            exact absurd H (by simp)
          ·rw [if_neg c12] at H
           exact absurd H (by simp)
         ·rw [if_neg c11] at H
          exact absurd H (by simp)
        ·rw [if_neg c10] at H
         exact absurd H (by simp)
       ·rw [if_neg c9] at H
        exact absurd H (by simp)
      ·rw [if_neg c8] at H
       exact absurd H (by simp)
     ·rw [if_neg c7] at H
      exact absurd H (by simp)
    ·rw [if_neg c6] at H
     have c6b0 : decide (x20_1 < (l1.length : Int)) = false := decide_eq_false c6
     clear c6
     by_cases c22 : 0 ≤ x8_1
     ·rw [if_pos c22] at H
      have c22b0 := eq_true c22
      have c22b1 : decide (0 ≤ x8_1) = true := decide_eq_true c22
      clear c22
      by_cases c23 : x8_1 ≤ (l0.length : Int)
      ·rw [if_pos c23] at H
       have c23b0 := eq_true c23
       have c23b1 : decide (x8_1 ≤ (l0.length : Int)) = true := decide_eq_true c23
       clear c23
       by_cases c24 : x7_1.length + (l0.drop (x8_1 : Int).toNat).length < 8796093022208
       ·rw [if_pos c24] at H
        have LMc24 := mk0 c24
        clear c24
        obtain ⟨y126, hy126⟩ : ∃ y_ : List ByteArray, y_ = (x7_1 ++ (l0.drop (x8_1 : Int).toNat)) := ⟨_, rfl⟩
        replace H : (some (y126, ([] : List (Flt)))) = some (r1, r2) := by first | (rw [hy126]; with_reducible exact H) | (have H2_ := (Option.bind_some _ _).symm.trans H; rw [hy126]; with_reducible exact H2_) | (have H2_ := (Option.bind_some _ _).symm.trans H; with_reducible exact H2_) | with_reducible exact H | (rw [hy126]; exact H) | exact H
        have Ny126 := mk0 hy126
        clear hy126
        simp only [Option.some.injEq, Prod.mk.injEq] at H
        obtain ⟨rfl, rfl⟩ := H
        obtain ⟨i025, hi025, _, hsz25, _⟩ := info_parts info9
        obtain ⟨A25, hcut25, hA25, hC25⟩ := print_drop_of (P := Tryd.prog) Value.string (⟨#[]⟩ : ByteArray) 22 9 .i64 Tryd.underlying22 hi025 hsz25 A0 c0 l0 x8_1 (of_decide_eq_true (by first | (with_reducible assumption) | assumption)) (of_decide_eq_true (by first | (with_reducible assumption) | assumption)) HC0.out
        have HR125 := mk0 (Kd.C_of_reads (h1 := fun _ => rfl) (hA25 _ (Kd.reads_of_C HR0.out)))
        have HC125 := mk0 hC25
        clear hA25 hC25 hi025 hsz25
        go_wp2_with (first | ((with_reducible refine gate_builtin (b := .append) (xs := #[.tmp 37, .tmp 40]) rfl ?_); at_builtin; refine Kd.R_append_rows Kd.string (w0 := w) w.heap.size rfl (.tmp 37) (.tmp 40) 22 9 (.string ⟨#[]⟩) 16 rfl Tryd.underlying22 info9 rfl (by decide) (by omega) u7 x7_1 (l0.drop (x8_1 : Int).toNat) _ _ _ (fun _ => True) (fun _ => False) rfl rfl ?aO ?aR (fun _ _ h => h) (fun _ h => h.elim) ?aF ?aB ?aS ?aL ?_; (case aR => first | (rw [← show (l0.drop (x8_1 : Int).toNat).length = (l0.length - x8_1.toNat) from List.length_drop]; repeat (first | exact (Kd.C_below HR125.out HB.out) | (with_reducible refine Kd.C_alloc ?_ _) | (with_reducible refine Kd.C_drewN ?_ _) | (with_reducible refine Kd.C_drew ?_))) | (repeat (first | exact (Kd.C_below HR125.out HB.out) | (with_reducible refine Kd.C_alloc ?_ _) | (with_reducible refine Kd.C_drewN ?_ _) | (with_reducible refine Kd.C_drew ?_)))); (case aB => exact (uL HB.out)); (case aF => exact (fun _ _ => trivial)); (case aO => exact (uR HO_7.out)); (case aS => exact (below_size (uL HB.out))); (case aL => have := LMc24.out; have hlx_ := (show (l0.drop (x8_1 : Int).toNat).length = (l0.length - x8_1.toNat) from List.length_drop); omega); intro v127 w26 ho hb hg hat; rw [← Ny126.out] at ho; have n0_ := mk0 (hb); have n1_ := mk0 (ho); clear HB; clear HO_7; have HB := n0_; have HO128 := n1_; clear n0_ n1_; clear ho hb hg hat))
        go_ret2
        exact ⟨_, (.slice none 0 0), by first | rfl | (simp [errW_none, errW_some] <;> rfl) | (simp [*, errW_none, errW_some] <;> rfl), uR HO128.out, by first | exact Kd.R_nil _ _ _ _ _ | exact Kd.N_nil _ _ _ _ _ | exact Kd.V_nil _ _ _ _ _ | exact Kd.Q_nil _ _ _ _ _ | exact Kd.S_nil _ _ _ _ _, uL HB.out⟩
       ·rw [if_neg c24] at H
        exact absurd H (by simp)
      ·rw [if_neg c23] at H
       exact absurd H (by simp)
     ·rw [if_neg c22] at H
      exact absurd H (by simp)
 ·rw [if_neg c4] at H
  have c4b0 : ((t113.length : Int) == 0) = false := beq_eq_false_iff_ne.mpr c4
  have c4b1 : ((t113.length : Int) != 0) = true := bne_iff_ne.mpr c4
  have c4b2 : ¬ (t113 = []) := fun h_ => c4 (by rw [h_]; rfl)
  simp only [Option.some.injEq, Prod.mk.injEq] at H
  obtain ⟨rfl, rfl⟩ := H
  go_enter Tryd.func12, Tryd.ntmps12
  go_wp2_with (first | ((with_reducible refine gate_callee (f := 23) rfl ?_); refine goesL_ (some 14) rfl rfl Tryd.func23 (by kernel_rfl) rfl #[.int .i64 (l0.length : Int), .slice A1 l1.length c1] rfl (by (try simp only [List.map_toArray, List.map_cons, List.map_nil]); first | done | rfl | (simp only [List.length_drop, List.length_take]; rfl)) ?_; (with_reducible refine (edit_Check.calls k (l0.length : Int) _ _ l1 t113 _ ?side1 ?side2 A3.out).mono ?_); (case side1 => repeat (first | exact HR1.out | (with_reducible refine Kd.C_alloc ?_ _) | (with_reducible refine Kd.C_drewN ?_ _) | (with_reducible refine Kd.C_drew ?_))); (case side2 => exact HC1.out); rintro e w27 ⟨v114, rfl, ho0, hb⟩; refine ⟨_, rfl, ?_⟩; have n0_ := mk0 (Kd.R_lower ho0 (below_size (uL HB.out))); have n1_ := mk0 (below_step (uL HB.out) hb); clear HB; have HO115 := n0_; have HB := n1_; clear n0_ n1_; (try clear hb); (try clear hb2); (try clear hk); (try clear hi); (try clear ho0); (first | (have EHO115 := cmpV_no HO115.out (by with_reducible assumption)) | (have EHO115 := cmpV_yes HO115.out (by with_reducible assumption)) | skip)))
  go_ret2
  exact ⟨_, (v114), by first | rfl | (simp [errW_none, errW_some] <;> rfl) | (simp [*, errW_none, errW_some] <;> rfl), by first | exact Kd.R_nil _ _ _ _ _ | exact Kd.N_nil _ _ _ _ _ | exact Kd.V_nil _ _ _ _ _ | exact Kd.Q_nil _ _ _ _ _ | exact Kd.S_nil _ _ _ _ _, uR HO115.out, uL HB.out⟩

end Go.Proofs.YteeeoblpfepepaaDoor.X
