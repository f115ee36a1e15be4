/- edit.Back: walked; no conditions but what is known of the package-level variable that errors.As reads. -/
import Derived.Test.YteeeoblpfepepaaDoorHandN
import Derived.Test.YteeeoblpfepepaaDoorXx11
import Derived.Test.YteeeoblpfepepaaDoorHandE
import Derived.Test.YteeeoblpfepepaaDoorHandN
import Derived.Test.YteeeoblpfepepaaDoorSq
namespace Go.Proofs.YteeeoblpfepepaaDoor.H
open Go.Proofs.YteeeoblpfepepaaDoor.Flt Go.Proofs.YteeeoblpfepepaaDoor.X Go.RowKit Go.Proofs.YteeeoblpfepepaaDoorW.PrintWords Go.Proofs.YteeeoblpfepepaaDoorW.PrintLast Go.Proofs.YteeeoblpfepepaaDoorW.PrintMore
set_option linter.unusedVariables false
set_option linter.unusedSimpArgs false
theorem as_none (v x : Value) (h : v = .nilIface) (w : World) : Calls Tryd.prog 25 #[v, x] w fun e w' => e = .returned (.bool false) ∧ w = w' := by
  subst h
  go_enter Tryd.func25, Tryd.ntmps25
  go_wp2
  go_ret
  exact ⟨rfl, rfl⟩
set_option maxHeartbeats 4000000 in
set_option maxRecDepth 100000 in
theorem back_err (k : Nat) (A0 : Option Addr) (c0 : Nat) (l0 : List ByteArray) (A1 : Option Addr) (c1 : Nat) (l1 : List S38) (t : List Flt) (w : World) (hr1 : Kd.C k38 w A1 l1.length l1) (hc1 : l1.length ≤ c1) (hG : Glob w) (ht : edit_Check.f k (l0.length : Int) l1 = some t) (hn : ((t.length : Int) == 0) = false) :
    Calls Tryd.prog 13 #[.slice A0 l0.length c0, .slice A1 l1.length c1] w fun e w' => ∃ v_ : Value, e = .returned (.tuple #[.slice none 0 0, errV v_]) ∧ Kd.R fltK 65 w' w.heap.size (fun _ => True) v_ t ∧ Below w.heap.size w w' := by
  have HR1 := Aside0.mk hr1
  have HC1 := Aside0.mk hc1
  have HG := Aside0.mk (Glob.err hG)
  have HT := Aside0.mk ht
  clear hr1 hc1 hG ht
  go_enter Tryd.func13, Tryd.ntmps13
  go_wp2_with (go_at_call 23; (refine (edit_Check.calls k (l0.length : Int) _ _ l1 t _ (Kd.C_alloc HR1.out _) HC1.out HT.out).mono ?_); (rintro e w5 ⟨v, rfl, ho, hb⟩; have HO := Aside0.mk ho; have HB := Aside0.mk hb; have EV := Aside0.mk (errV_yes ho hn); clear ho hb))
  rw [EV.out]
  have HF := Aside0.mk ((HB.out.cell (p := ⟨w.heap.size, 0, none⟩) (by simp)).trans ((World.cell?_alloc_at (w := w) #[.pointer none] 54 w.heap.size 0 rfl).trans (show (#[Value.pointer none] : Array Value)[0]? = some (.pointer none) from rfl)))
  have HZ := Aside0.mk ((HB.out.frozen (p := ⟨w.heap.size, 0, none⟩) (by simp)).trans (show (w.alloc (.cells #[.pointer none] 54)).frozen? ⟨w.heap.size, 0, none⟩ = false by simp))
  have HB5 := Aside0.mk ((below1 w (.cells #[.pointer none] 54)).trans (HB.out.mono (by simp)))
  go_wp2_with (go_at_call 25; (refine (asF (errA v) ⟨w.heap.size, 0, none⟩ (.pointer none) _ (ErrTy.below HG.out HB5.out) HF.out HZ.out).mono ?_); (rintro e w6 ⟨rfl, hcell, hg⟩; have HG6 := Aside0.mk hg; clear hg))
  go_quiet (fail)
  go_wp2
  go_ret2
  refine ⟨v, by rw [EV.out]; rfl, ?_, ?_⟩
  · have h1 := Kd.R_bound HO.out
    have h2 := Kd.R_step (w1 := w6) h1 (fun k hk hlt => HG6.out.block k hlt (by
      have := hk.2.1
      simp at this ⊢
      omega))
    exact uR (Kd.R_lower (Kd.R_mono h2 (fun _ _ => trivial)) (by simp))
  · exact uL (HB5.out.grown HG6.out HB5.out.size (fun k hk => by obtain rfl := Option.some.inj hk; exact Nat.le_refl _))
def edit_Back.l0 : Nat → List ByteArray → List (S38) → Int → List (S38) → Int → Int → Option ((List (S38)) × (List (Flt)))
  | 0, _, _, _, _, _, _ => none
  | k + 1, x0, x8, x9, x22, x23, x24 => if x24 < x23 then (if 0 ≤ x24 then (if x24 < (x22.length : Int) then (if 0 ≤ ((rd_T38 x22 x24).f0) then (if ((rd_T38 x22 x24).f0) ≤ ((rd_T38 x22 x24).f1) then (if ((rd_T38 x22 x24).f1) ≤ (x0.length : Int) then ((slices_Clone_string_string.f ((x0.take (((rd_T38 x22 x24).f1) : Int).toNat).drop (((rd_T38 x22 x24).f0) : Int).toNat)).bind fun t119 => (if x8.length < 3518437208883 then (edit_Back.l0 k x0 (x8 ++ [(⟨wrap64 (((rd_T38 x22 x24).f0) + x9), wrap64 ((wrap64 (((rd_T38 x22 x24).f0) + x9)) + (((rd_T38 x22 x24).f2).length : Int)), t119⟩ : S38)]) (wrap64 (x9 + (wrap64 ((((rd_T38 x22 x24).f2).length : Int) - (wrap64 (((rd_T38 x22 x24).f1) - ((rd_T38 x22 x24).f0))))))) x22 x23 (wrap64 (x24 + 1))) else (none))) else (none)) else (none)) else (none)) else (none)) else (none)) else (some (x8, ([] : List (Flt))))
def edit_Back.f (k : Nat) (l0 : List ByteArray) (l1 : List (S38)) : Option ((List (S38)) × (List (Flt))) := (edit_Check.f k (l0.length : Int) l1).bind fun t113 => (if (t113.length : Int) = 0 then (edit_Back.l0 k l0 ([] : List (S38)) 0 l1 (l1.length : Int) 0) else (some (([] : List (S38)), t113)))
theorem edit_Back.mono_l : ∀ k, (∀ y0 y1 y2 y3 y4 y5, LeO (edit_Back.l0 k y0 y1 y2 y3 y4 y5) (edit_Back.l0 (k + 1) y0 y1 y2 y3 y4 y5))
  | 0 => fun _ _ _ _ _ _ r h => by simp [edit_Back.l0] at h
  | k + 1 => by
    have ih0 := edit_Back.mono_l k
    · intro y0 y1 y2 y3 y4 y5
      unfold edit_Back.l0
      repeat' first
      | (with_reducible exact ih0 _ _ _ _ _ _)
      | (with_reducible exact edit_Check.mono _ _ _)
      | (with_reducible exact LeO.refl _)
      | (with_reducible exact LeO.none _)
      | (with_reducible refine LeO.ite ?_ ?_)
      | (with_reducible refine LeO.bind ?_ (fun _ => ?_))
      | exact ih0 _ _ _ _ _ _
      | exact edit_Check.mono _ _ _
      | exact LeO.none _
      | refine LeO.ite ?_ ?_
      | refine LeO.bind ?_ (fun _ => ?_)
theorem edit_Back.mono : ∀ a0 a1 k, LeO (edit_Back.f k a0 a1) (edit_Back.f (k + 1) a0 a1) := by
  intro a0 a1 k
  have ih0 := edit_Back.mono_l k
  unfold edit_Back.f
  repeat' first
      | (with_reducible exact ih0 _ _ _ _ _ _)
      | (with_reducible exact edit_Check.mono _ _ _)
      | (with_reducible exact LeO.refl _)
      | (with_reducible exact LeO.none _)
      | (with_reducible refine LeO.ite ?_ ?_)
      | (with_reducible refine LeO.bind ?_ (fun _ => ?_))
      | exact ih0 _ _ _ _ _ _
      | exact edit_Check.mono _ _ _
      | exact LeO.none _
      | refine LeO.ite ?_ ?_
      | refine LeO.bind ?_ (fun _ => ?_)
def edit_Back.T11 : Bool × List (List Nat × List Nat) := (true, [([], []), ([], []), ([], []), ([], []), ([3], [3]), ([4], [4]), ([2, 5], [2, 5]), ([], []), ([], []), ([8], [8]), ([], []), ([10], [10]), ([7, 9, 11], [7, 9, 11]), ([12], [12]), ([1, 6, 13], [1, 6, 13]), ([14], [14]), ([0, 15, 13], [0, 15]), ([16, 16, 0, 1, 2, 3, 4, 5, 6, 7, 8, 9, 10, 11, 12, 13, 14, 15, 16], [0, 16])])
def edit_Back.B11 : List Nat := [0, 0, 0, 0, 8, 24, 60, 0, 0, 256, 0, 1024, 3968, 8064, 16382, 32766, 65535, 131071]
theorem edit_Back.tab11 : rtab .any (opsOf Tryd.f13 11) = edit_Back.T11 := by kernel_rfl
theorem edit_Back.bits11 : waitsOk edit_Back.T11.2 edit_Back.B11 = true := by kernel_rfl
set_option maxHeartbeats 8000000 in
set_option maxRecDepth 100000 in
theorem edit_Back.calls (k : Nat) (A0 : Option Addr) (c0 : Nat) (l0 : List ByteArray) (A1 : Option Addr) (c1 : Nat) (l1 : List (S38)) (r1 : List (S38)) (r2 : List (Flt)) (w : World) (hr0 : Kd.C Kd.string w A0 l0.length l0) (hc0 : l0.length ≤ c0) (hr1 : Kd.C k38 w A1 l1.length l1) (hc1 : l1.length ≤ c1) (hG : Glob w) (h : edit_Back.f k l0 l1 = some (r1, r2)) :
    Calls Tryd.prog 13 #[.slice A0 l0.length c0, .slice A1 l1.length c1] w fun e w' => ∃ v0_ v1_ : Value, e = .returned (.tuple #[v0_, errV v1_]) ∧ Kd.S k38 38 w' w.heap.size (fun _ => True) v0_ r1 ∧ Kd.R fltK 65 w' w.heap.size (fun _ => True) v1_ r2 ∧ Below w.heap.size w w' := by
  have hu38 := Tryd.underlying38
  have HR0 := Aside0.mk hr0
  have HC0 := Aside0.mk hc0
  clear hr0 hc0
  have HR1 := Aside0.mk hr1
  have HC1 := Aside0.mk hc1
  clear hr1 hc1
  have HB := Aside0.mk (Below.refl w.heap.size w)
  have H : ((edit_Check.f k (l0.length : Int) l1).bind fun t113 => (if (t113.length : Int) = 0 then (edit_Back.l0 k l0 ([] : List (S38)) 0 l1 (l1.length : Int) 0) else (some (([] : List (S38)), t113)))) = some (r1, r2) := h
  clear h
  replace H := Option.bind_eq_some_iff.mp H
  obtain ⟨t113, A30, H⟩ := H
  replace H : (if (t113.length : Int) = 0 then (edit_Back.l0 k l0 ([] : List (S38)) 0 l1 (l1.length : Int) 0) else (some (([] : List (S38)), t113))) = some (r1, r2) := H
  have A3 := Aside0.mk A30
  clear A30
  by_cases c4 : (t113.length : Int) = 0
  · rw [if_pos c4] at H
    have c4b0 : ((t113.length : Int) == 0) = true := beq_iff_eq.mpr c4
    have c4b1 : ((t113.length : Int) != 0) = false := bne_eq_false_iff_eq.mpr c4
    clear c4
    have H' := Aside0.mk H
    clear H
    go_enter Tryd.func13, Tryd.ntmps13
    go_wp2_with (first | ((with_reducible refine gate_callee (f := 23) rfl ?_); refine goesL_ (some 16) rfl rfl Tryd.func23 (by kernel_rfl) rfl #[.int .i64 (l0.length : Int), .slice A1 l1.length c1] rfl (by (try simp only [List.map_toArray, List.map_cons, List.map_nil]); first | done | rfl | (simp only [List.length_drop, List.length_take]; rfl)) ?_; (with_reducible refine (edit_Check.calls k (l0.length : Int) _ _ l1 t113 _ ?side1 ?side2 A3.out).mono ?_); (case side1 => repeat (first | exact HR1.out | (with_reducible refine Kd.C_alloc ?_ _) | (with_reducible refine Kd.C_drewN ?_ _) | (with_reducible refine Kd.C_drew ?_))); (case side2 => exact HC1.out); rintro e w5 ⟨v114, rfl, ho0, hb⟩; refine ⟨_, rfl, ?_⟩; have n0_ := Aside0.mk (Kd.R_lower ho0 (below_size (by repeat (first | (with_reducible first | exact HB.out | apply below_alloc | apply pw_below_drewN | apply below_drew1) | exact HB.out)))); have n1_ := Aside0.mk (below_step (by repeat (first | (with_reducible first | exact HB.out | apply below_alloc | apply pw_below_drewN | apply below_drew1) | exact HB.out)) hb); clear HB; have HO115 := n0_; have HB := n1_; clear n0_ n1_; (try clear hb); (try clear hb2); (try clear hk); (try clear hi); (try clear ho0); (first | (have EHO115 := cmpV_no HO115.out (by with_reducible assumption)) | (have EHO115 := cmpV_yes HO115.out (by with_reducible assumption)) | skip)) | (go_at_call 25; (refine (as_none _ _ (errV_no HO115.out (by with_reducible assumption)) _).mono ?_); rintro e w_ ⟨rfl, rfl⟩))
    go_loopg [8, 9, 24] k (fun kq v8 v9 v24 w' => ∃ (x8_1 : List (S38)) (x9_1 : Int) (x24_1 : Int), v9 = .int .i64 x9_1 ∧ v24 = .int .i64 x24_1 ∧ Aside0 (edit_Back.l0 kq l0 x8_1 x9_1 l1 (l1.length : Int) x24_1 = some (r1, r2)) ∧ Aside0 (kq ≤ k) ∧ Aside0 (Kd.S k38 38 w' w.heap.size (fun _ => True) v8 x8_1) ∧ Aside0 (Below w.heap.size w w'))
    case atStart => exact ⟨(([] : List (S38))), (0), (0), (by first | rfl | (simp; done) | (simp [*]; done) | (simp [bne_nil_, beq_nil_]; done)), (by first | rfl | (simp; done) | (simp [*]; done) | (simp [bne_nil_, beq_nil_]; done)), H', ⟨Nat.le_refl _⟩, ⟨by first | exact Kd.S_nil _ _ _ _ _ | exact Kd.N_nil _ _ _ _ _ | exact Kd.V_nil _ _ _ _ _ | exact Kd.Q_nil _ _ _ _ _ | exact Kd.R_nil _ _ _ _ _⟩, ⟨by repeat (first | (with_reducible first | exact HB.out | apply below_alloc | apply pw_below_drewN | apply below_drew1) | exact HB.out)⟩⟩
    case round =>
      clear H'
      try clear c1
      try clear c2
      try clear p2
      try clear c4
      try clear c4b0
      try clear c4b1
      obtain ⟨x8_1, x9_1, x24_1, rfl, rfl, HA, HK1, HO_8, HB⟩ := hrel
      cases gk with
      | zero => exact absurd HA.out (by simp [edit_Back.l0])
      | succ k1 =>
        have H := HA.out
        clear HA
        simp only [edit_Back.l0] at H
        by_cases c6 : x24_1 < (l1.length : Int)
        · rw [if_pos c6] at H
          have c6b0 : decide (x24_1 < (l1.length : Int)) = true := decide_eq_true c6
          clear c6
          by_cases c7 : 0 ≤ x24_1
          · rw [if_pos c7] at H
            have c7b0 : decide (0 ≤ x24_1) = true := decide_eq_true c7
            clear c7
            by_cases c8 : x24_1 < (l1.length : Int)
            · rw [if_pos c8] at H
              have c8b0 : decide (x24_1 < (l1.length : Int)) = true := decide_eq_true c8
              clear c8
              by_cases c9 : 0 ≤ ((rd_T38 l1 x24_1).f0)
              · rw [if_pos c9] at H
                have c9b0 := eq_true c9
                have c9b1 : decide (0 ≤ ((rd_T38 l1 x24_1).f0)) = true := decide_eq_true c9
                clear c9
                by_cases c10 : ((rd_T38 l1 x24_1).f0) ≤ ((rd_T38 l1 x24_1).f1)
                · rw [if_pos c10] at H
                  have c10b0 := eq_true c10
                  have c10b1 : decide (((rd_T38 l1 x24_1).f0) ≤ ((rd_T38 l1 x24_1).f1)) = true := decide_eq_true c10
                  clear c10
                  by_cases c11 : ((rd_T38 l1 x24_1).f1) ≤ (l0.length : Int)
                  · rw [if_pos c11] at H
                    have c11b0 := eq_true c11
                    have c11b1 : decide (((rd_T38 l1 x24_1).f1) ≤ (l0.length : Int)) = true := decide_eq_true c11
                    clear c11
                    replace H := Option.bind_eq_some_iff.mp H
                    obtain ⟨t119, A120, H⟩ := H
                    replace H : (if x8_1.length < 3518437208883 then (edit_Back.l0 k1 l0 (x8_1 ++ [(⟨wrap64 (((rd_T38 l1 x24_1).f0) + x9_1), wrap64 ((wrap64 (((rd_T38 l1 x24_1).f0) + x9_1)) + (((rd_T38 l1 x24_1).f2).length : Int)), t119⟩ : S38)]) (wrap64 (x9_1 + (wrap64 ((((rd_T38 l1 x24_1).f2).length : Int) - (wrap64 (((rd_T38 l1 x24_1).f1) - ((rd_T38 l1 x24_1).f0))))))) l1 (l1.length : Int) (wrap64 (x24_1 + 1))) else (none)) = some (r1, r2) := H
                    have A12 := Aside0.mk A120
                    clear A120
                    by_cases c13 : x8_1.length < 3518437208883
                    · rw [if_pos c13] at H
                      have LMc13 := Aside0.mk c13
                      clear c13
                      obtain ⟨y122, hy122⟩ : ∃ y_ : List (S38), y_ = (x8_1 ++ [(⟨wrap64 (((rd_T38 l1 x24_1).f0) + x9_1), wrap64 ((wrap64 (((rd_T38 l1 x24_1).f0) + x9_1)) + (((rd_T38 l1 x24_1).f2).length : Int)), t119⟩ : S38)]) := ⟨_, rfl⟩
                      replace H : (edit_Back.l0 k1 l0 y122 (wrap64 (x9_1 + (wrap64 ((((rd_T38 l1 x24_1).f2).length : Int) - (wrap64 (((rd_T38 l1 x24_1).f1) - ((rd_T38 l1 x24_1).f0))))))) l1 (l1.length : Int) (wrap64 (x24_1 + 1))) = some (r1, r2) := by first | (rw [hy122]; with_reducible exact H) | (have H2_ := (Option.bind_some _ _).symm.trans H; rw [hy122]; with_reducible exact H2_) | (have H2_ := (Option.bind_some _ _).symm.trans H; with_reducible exact H2_) | with_reducible exact H | (rw [hy122]; exact H) | exact H
                      have Ny122 := Aside0.mk hy122
                      clear hy122
                      have H' := Aside0.mk H
                      clear H
                      have p116 : 0 ≤ (x24_1 : Int) := of_decide_eq_true (by first | (with_reducible assumption) | assumption)
                      have q116 : x24_1 < (l1.length : Int) := of_decide_eq_true (by first | (with_reducible assumption) | assumption)
                      obtain ⟨ad116, A116_2, c116_2, e116, hx116_0, hx116_1, hx116_2, hl116_2, hi116_2⟩ := at_T38 HR1.out x24_1 p116 q116
                      cases e116
                      replace hx116_0 := (HB.out.cell (World.block_lt_of_cell? w _ hx116_0)).trans hx116_0
                      replace hx116_1 := (HB.out.cell (World.block_lt_of_cell? w _ hx116_1)).trans hx116_1
                      replace hx116_2 := (HB.out.cell (World.block_lt_of_cell? w _ hx116_2)).trans hx116_2
                      have HR116_2 := Aside0.mk hi116_2
                      have HC116_2 := Aside0.mk hl116_2
                      clear hi116_2 hl116_2
                      replace p116 := eq_true p116
                      replace q116 := eq_true q116
                      try go_wp2_with (first | ((with_reducible refine gate_dst (N := 11) rfl ?_); refine box_event ?hg (N := 11) ?hd (cs := #[.int .i64 0, .int .i64 0, .slice none 0 0]) (t := 38) ?hr ?_; (case hd => rfl); (case hg => rfl); (case hr => first | (go_simp; done) | (go_simp; rfl)); intro gb117 hg w14 hbox hb; have n0_ := Aside0.mk (Kd.S_below (Kd.S_elderB (by (with_reducible repeat (first | apply Kd.S_alloc | apply Kd.S_drewN | apply Kd.S_drew)); exact HO_8.out) gb117 (Nat.le_of_eq hg.symm)) hb); have n1_ := Aside0.mk (below_step (by repeat (first | (with_reducible first | exact HB.out | apply below_alloc | apply pw_below_drewN | apply below_drew1) | exact HB.out)) hb); have n2_ := Aside0.mk (hbox); have n3_ := Aside0.mk ((by rw [hg]; exact (below_size (by repeat (first | (with_reducible first | exact HB.out | apply below_alloc | apply pw_below_drewN | apply below_drew1) | exact HB.out))) : w.heap.size ≤ gb117)); have n4_ := Aside0.mk ((by rw [hg]; exact (below_size (by repeat (first | (with_reducible first | exact HB.out | apply below_alloc | apply pw_below_drewN | apply below_drew1) | exact HB.out))) : w.heap.size ≤ gb117)); clear HO_8; clear HB; have HO_8 := n0_; have HB := n1_; have BK117 := n2_; have GW117 := n3_; have GE117 := n4_; clear n0_ n1_ n2_ n3_ n4_; clear hb hbox hg; have hcz15_0 : w14.cell? ⟨gb117, 0, none⟩ = some (.int .i64 0) := (blk_cell BK117.out 0).trans rfl; have hcz15_1 : w14.cell? ⟨gb117, 1, none⟩ = some (.int .i64 0) := (blk_cell BK117.out 1).trans rfl; have hcz15_2 : w14.cell? ⟨gb117, 2, none⟩ = some (.slice none 0 0) := (blk_cell BK117.out 2).trans rfl; have hfz15_0 := blk_frozen BK117.out 0; have hfz15_1 := blk_frozen BK117.out 1; have hfz15_2 := blk_frozen BK117.out 2))
                      have n0_ : Aside0 (Kd.S k38 38 (((w14.setCell ⟨gb117, 0, none⟩ (.int .i64 ((rd_T38 l1 x24_1).f0))).setCell ⟨gb117, 1, none⟩ (.int .i64 ((rd_T38 l1 x24_1).f1))).setCell ⟨gb117, 2, none⟩ (.slice A116_2 ((rd_T38 l1 x24_1).f2).length c116_2)) w.heap.size (fun k_ => k_ ≠ gb117) u8 x8_1) := ⟨by (with_reducible repeat (first | apply Kd.S_alloc | apply Kd.S_drewN | apply Kd.S_drew)); exact Kd.S_mono (Kd.S_far (p := ⟨gb117, 2, none⟩) (Kd.S_far (p := ⟨gb117, 1, none⟩) (Kd.S_far (p := ⟨gb117, 0, none⟩) (Kd.S_mono HO_8.out (fun k_ hk => (⟨hk, hk.2⟩ : _ ∧ k_ ≠ gb117))) (fun _ hk => hk.2) (.int .i64 ((rd_T38 l1 x24_1).f0))) (fun _ hk => hk.2) (.int .i64 ((rd_T38 l1 x24_1).f1))) (fun _ hk => hk.2) (.slice A116_2 ((rd_T38 l1 x24_1).f2).length c116_2)) (fun _ hk => hk.1.2)⟩
                      have n1_ : Aside0 ((((w14.setCell ⟨gb117, 0, none⟩ (.int .i64 ((rd_T38 l1 x24_1).f0))).setCell ⟨gb117, 1, none⟩ (.int .i64 ((rd_T38 l1 x24_1).f1))).setCell ⟨gb117, 2, none⟩ (.slice A116_2 ((rd_T38 l1 x24_1).f2).length c116_2)).heap[gb117]? = some (.cells #[.int .i64 ((rd_T38 l1 x24_1).f0), .int .i64 ((rd_T38 l1 x24_1).f1), .slice A116_2 ((rd_T38 l1 x24_1).f2).length c116_2] 38 (0, 0))) := ⟨by (with_reducible repeat (first | refine blk_drewN ?_ _ | refine blk_drew ?_ | refine blk_alloc ?_ _)); refine blk_put (cs := #[.int .i64 ((rd_T38 l1 x24_1).f0), .int .i64 ((rd_T38 l1 x24_1).f1), .slice none 0 0]) ?_ 2 _ rfl; (with_reducible repeat (first | refine blk_drewN ?_ _ | refine blk_drew ?_ | refine blk_alloc ?_ _)); refine blk_put (cs := #[.int .i64 ((rd_T38 l1 x24_1).f0), .int .i64 0, .slice none 0 0]) ?_ 1 _ rfl; (with_reducible repeat (first | refine blk_drewN ?_ _ | refine blk_drew ?_ | refine blk_alloc ?_ _)); refine blk_put (cs := #[.int .i64 0, .int .i64 0, .slice none 0 0]) ?_ 0 _ rfl; (with_reducible repeat (first | refine blk_drewN ?_ _ | refine blk_drew ?_ | refine blk_alloc ?_ _)); exact BK117.out⟩
                      have n2_ : Aside0 (Below w.heap.size w (((w14.setCell ⟨gb117, 0, none⟩ (.int .i64 ((rd_T38 l1 x24_1).f0))).setCell ⟨gb117, 1, none⟩ (.int .i64 ((rd_T38 l1 x24_1).f1))).setCell ⟨gb117, 2, none⟩ (.slice A116_2 ((rd_T38 l1 x24_1).f2).length c116_2))) := ⟨by repeat (first | (with_reducible first | exact HB.out | apply below_alloc | apply pw_below_drewN | apply below_drew1 | refine below_set ?_ GE117.out) | exact HB.out)⟩
                      (try clear HO_8)
                      (try clear BK117)
                      (try clear HB)
                      generalize (((w14.setCell ⟨gb117, 0, none⟩ (.int .i64 ((rd_T38 l1 x24_1).f0))).setCell ⟨gb117, 1, none⟩ (.int .i64 ((rd_T38 l1 x24_1).f1))).setCell ⟨gb117, 2, none⟩ (.slice A116_2 ((rd_T38 l1 x24_1).f2).length c116_2)) = w16 at n0_ n1_ n2_ ⊢
                      have HO_8 := n0_
                      have BK117 := n1_
                      have HB := n2_
                      clear n0_ n1_ n2_
                      have n0_ := Aside0.mk (Kd.S_drew HO_8.out)
                      have n1_ := Aside0.mk (blk_drew BK117.out)
                      have n2_ := Aside0.mk (below_drew1 HB.out)
                      clear HO_8
                      clear BK117
                      clear HB
                      have HO_8 := n0_
                      have BK117 := n1_
                      have HB := n2_
                      clear n0_ n1_ n2_
                      obtain ⟨i018, hi018, _, hsz18, _⟩ := info_parts info9
                      obtain ⟨A18, hcut18, hA18, hC18⟩ := print_mid_of (P := Tryd.prog) Value.string (⟨#[]⟩ : ByteArray) 22 9 .i64 .i64 Tryd.underlying22 hi018 hsz18 A0 c0 l0 ((rd_T38 l1 x24_1).f0) ((rd_T38 l1 x24_1).f1) (of_decide_eq_true (by first | (with_reducible assumption) | assumption)) (by first | omega | exact of_decide_eq_true (by first | (with_reducible assumption) | assumption)) (of_decide_eq_true (by first | (with_reducible assumption) | assumption)) HC0.out
                      have HR118 := Aside0.mk (Kd.C_of_reads (h1 := fun _ => rfl) (hA18 _ (Kd.reads_of_C HR0.out)))
                      have HC118 := Aside0.mk hC18
                      clear hA18 hC18 hi018 hsz18
                      refine start_ (n := 18) (S := fun w' => w'.cell? ⟨gb117, 0, none⟩ = some (.int .i64 ((rd_T38 l1 x24_1).f0)) ∧ w'.cell? ⟨gb117, 1, none⟩ = some (.int .i64 ((rd_T38 l1 x24_1).f1)) ∧ w'.cell? ⟨gb117, 2, none⟩ = some (.slice A116_2 ((rd_T38 l1 x24_1).f2).length c116_2)) (ds := []) #[false, false, false, false, false, false, false, false, false, false, false, false, false, false, false, false, false, false] (by kernel_rfl) rfl rfl ⟨(blk_cell BK117.out 0).trans rfl, (blk_cell BK117.out 1).trans rfl, (blk_cell BK117.out 2).trans rfl⟩ (fun hHeld => ?_); refine with_tabW edit_Back.tab11 edit_Back.bits11 (fun HT_ HW_ => ?_)
                      generalize w16.drew = w17 at HO_8 BK117 HB HR118 hHeld ⊢
                      refine pure_ (i := 0) (N := some 32) (v := ?_) (a' := ?_) #[true, false, false, false, false, false, false, false, false, false, false, false, false, false, false, false, false, false] rfl rfl (any_of HT_.out (by kernel_rfl)) (fun _ _ _ h => h) (Or.inl ⟨by rfl, ?_⟩) ?_ ?_
                      rotate_left
                      · intro w'
                        go_simp
                        with_reducible rfl
                      rotate_left
                      · simp only [Act.put, List.setIfInBounds_toArray, List.set_cons_zero, List.set_cons_succ, i64_w, i32_w]
                        rfl
                      refine pure_ (i := 1) (N := some 33) (v := ?_) (a' := ?_) #[true, true, false, false, false, false, false, false, false, false, false, false, false, false, false, false, false, false] rfl rfl (any_of HT_.out (by kernel_rfl)) (fun _ _ _ h => h) (Or.inl ⟨by rfl, ?_⟩) ?_ ?_
                      rotate_left
                      · intro w'
                        go_simp
                        with_reducible rfl
                      rotate_left
                      · simp only [Act.put, List.setIfInBounds_toArray, List.set_cons_zero, List.set_cons_succ, i64_w, i32_w]
                        rfl
                      refine pure_ (i := 2) (N := some 34) (v := ?_) (a' := ?_) #[true, true, true, false, false, false, false, false, false, false, false, false, false, false, false, false, false, false] rfl rfl (any_of HT_.out (by kernel_rfl)) (fun _ _ _ h => h) (Or.inl ⟨by rfl, ?_⟩) ?_ ?_
                      rotate_left
                      · intro w'
                        go_simp
                        with_reducible rfl
                      rotate_left
                      · simp only [Act.put, List.setIfInBounds_toArray, List.set_cons_zero, List.set_cons_succ, i64_w, i32_w]
                        rfl
                      refine pure_ (i := 3) (N := some 35) (v := ?_) (a' := ?_) #[true, true, true, true, false, false, false, false, false, false, false, false, false, false, false, false, false, false] rfl rfl (any_of HT_.out (by kernel_rfl)) (fun _ _ _ h => h) (Or.inl ⟨by rfl, ?_⟩) ?_ ?_
                      rotate_left
                      · intro w'
                        go_simp
                        with_reducible rfl
                      rotate_left
                      · simp only [Act.put, List.setIfInBounds_toArray, List.set_cons_zero, List.set_cons_succ, i64_w, i32_w]
                        rfl
                      refine pure_ (i := 7) (N := some 39) (v := ?_) (a' := ?_) #[true, true, true, true, false, false, false, true, false, false, false, false, false, false, false, false, false, false] rfl rfl (any_of HT_.out (by kernel_rfl)) (fun _ _ _ h => h) (Or.inl ⟨by rfl, ?_⟩) ?_ ?_
                      rotate_left
                      · intro w'
                        go_simp
                        with_reducible rfl
                      rotate_left
                      · simp only [Act.put, List.setIfInBounds_toArray, List.set_cons_zero, List.set_cons_succ, i64_w, i32_w]
                        rfl
                      refine pure_ (i := 8) (N := some 40) (v := ?_) (a' := ?_) #[true, true, true, true, false, false, false, true, true, false, false, false, false, false, false, false, false, false] rfl rfl (any_of HT_.out (by kernel_rfl)) (fun _ _ _ h => h) (Or.inl ⟨by rfl, ?_⟩) ?_ ?_
                      rotate_left
                      · intro w'
                        go_simp
                        with_reducible rfl
                      rotate_left
                      · simp only [Act.put, List.setIfInBounds_toArray, List.set_cons_zero, List.set_cons_succ, i64_w, i32_w]
                        rfl
                      refine pure_ (i := 10) (N := some 42) (v := ?_) (a' := ?_) #[true, true, true, true, false, false, false, true, true, false, true, false, false, false, false, false, false, false] rfl rfl (any_of HT_.out (by kernel_rfl)) (fun _ _ _ h => h) (Or.inl ⟨by rfl, ?_⟩) ?_ ?_
                      rotate_left
                      · intro w'
                        go_simp
                        with_reducible rfl
                      rotate_left
                      · simp only [Act.put, List.setIfInBounds_toArray, List.set_cons_zero, List.set_cons_succ, i64_w, i32_w]
                        rfl
                      refine take_ (i := 4) (N := some 36) (v := ?_) (a' := ?_) #[true, true, true, true, true, false, false, true, true, false, true, false, false, false, false, false, false, false] rfl rfl (take_ofW HT_.out HW_.out (by kernel_rfl)) (fun _ _ _ h => h) (Or.inl ⟨by rfl, ?_⟩) hHeld ?_ ?_
                      rotate_left
                      · rintro w' ⟨s0, s1, s2⟩
                        go_simp
                        with_reducible rfl
                      rotate_left
                      · simp only [Act.put, List.setIfInBounds_toArray, List.set_cons_zero, List.set_cons_succ, i64_w, i32_w]
                        rfl
                      refine pure_ (i := 5) (N := some 37) (v := ?_) (a' := ?_) #[true, true, true, true, true, true, false, true, true, false, true, false, false, false, false, false, false, false] rfl rfl (any_of HT_.out (by kernel_rfl)) (fun _ _ _ h => h) (Or.inl ⟨by rfl, ?_⟩) ?_ ?_
                      rotate_left
                      · intro w'
                        go_simp
                        with_reducible rfl
                      rotate_left
                      · simp only [Act.put, List.setIfInBounds_toArray, List.set_cons_zero, List.set_cons_succ, i64_w, i32_w]
                        rfl
                      refine pure_ (i := 6) (N := some 38) (v := ?_) (a' := ?_) #[true, true, true, true, true, true, true, true, true, false, true, false, false, false, false, false, false, false] rfl rfl (any_of HT_.out (by kernel_rfl)) (fun _ _ _ h => h) (Or.inl ⟨by rfl, ?_⟩) ?_ ?_
                      rotate_left
                      · intro w'
                        go_simp
                        with_reducible rfl
                      rotate_left
                      · simp only [Act.put, List.setIfInBounds_toArray, List.set_cons_zero, List.set_cons_succ, i64_w, i32_w]
                        rfl
                      refine take_ (i := 9) (N := some 41) (v := ?_) (a' := ?_) #[true, true, true, true, true, true, true, true, true, true, true, false, false, false, false, false, false, false] rfl rfl (take_ofW HT_.out HW_.out (by kernel_rfl)) (fun _ _ _ h => h) (Or.inl ⟨by rfl, ?_⟩) hHeld ?_ ?_
                      rotate_left
                      · rintro w' ⟨s0, s1, s2⟩
                        go_simp
                        with_reducible rfl
                      rotate_left
                      · simp only [Act.put, List.setIfInBounds_toArray, List.set_cons_zero, List.set_cons_succ, i64_w, i32_w]
                        rfl
                      refine take_ (i := 11) (N := some 43) (v := ?_) (a' := ?_) #[true, true, true, true, true, true, true, true, true, true, true, true, false, false, false, false, false, false] rfl rfl (take_ofW HT_.out HW_.out (by kernel_rfl)) (fun _ _ _ h => h) (Or.inl ⟨by rfl, ?_⟩) hHeld ?_ ?_
                      rotate_left
                      · rintro w' ⟨s0, s1, s2⟩
                        go_simp
                        with_reducible rfl
                      rotate_left
                      · simp only [Act.put, List.setIfInBounds_toArray, List.set_cons_zero, List.set_cons_succ, i64_w, i32_w]
                        rfl
                      refine pure_ (i := 12) (N := some 44) (v := ?_) (a' := ?_) #[true, true, true, true, true, true, true, true, true, true, true, true, true, false, false, false, false, false] rfl rfl (any_of HT_.out (by kernel_rfl)) (fun _ _ _ h => h) (Or.inl ⟨by rfl, ?_⟩) ?_ ?_
                      rotate_left
                      · intro w'
                        go_simp
                        with_reducible rfl
                      rotate_left
                      · simp only [Act.put, List.setIfInBounds_toArray, List.set_cons_zero, List.set_cons_succ, i64_w, i32_w]
                        rfl
                      refine one_ (i := 13) (N := some 45) #[true, true, true, true, true, true, true, true, true, true, true, true, true, true, false, false, false, false] rfl rfl (one_of HT_.out (by kernel_rfl)) (by decide) (fun K hK => ?_)
                      refine goes_ Tryd.func26 (by kernel_rfl) rfl #[.slice A18 ((l0.take (((rd_T38 l1 x24_1).f1) : Int).toNat).drop (((rd_T38 l1 x24_1).f0) : Int).toNat).length (c0 - ((rd_T38 l1 x24_1).f0).toNat)] (by rfl) rfl rfl (by (try simp only [List.map_toArray, List.map_cons, List.map_nil]); first | done | (rw [show ((l0.take (((rd_T38 l1 x24_1).f1) : Int).toNat).drop (((rd_T38 l1 x24_1).f0) : Int).toNat).length = (((rd_T38 l1 x24_1).f1).toNat - ((rd_T38 l1 x24_1).f0).toNat) from (by rw [List.length_drop, List.length_take]; have h_ : (((rd_T38 l1 x24_1).f1) : Int) ≤ (l0.length : Int) := of_decide_eq_true (by first | (with_reducible assumption) | assumption); omega)] <;> rfl) | rfl | (simp only [List.length_drop, List.length_take]; rfl)) ?_
                      with_reducible refine (slices_Clone_string_string.calls _ _ ((l0.take (((rd_T38 l1 x24_1).f1) : Int).toNat).drop (((rd_T38 l1 x24_1).f0) : Int).toNat) t119 _ ?side1 ?side2 A12.out).mono ?_
                      (case side1 => repeat (first | exact (Kd.C_below HR118.out HB.out) | (with_reducible refine Kd.C_alloc ?_ _) | (with_reducible refine Kd.C_drewN ?_ _) | (with_reducible refine Kd.C_drew ?_)))
                      (case side2 => exact HC118.out)
                      rintro e w19 ⟨v120, rfl, ho0, hb⟩
                      refine ⟨_, rfl, ?_⟩
                      have n0_ := Aside0.mk (Kd.S_elder' (by (with_reducible repeat (first | apply Kd.S_alloc | apply Kd.S_drewN | apply Kd.S_drew)); exact HO_8.out) (Kd.R_base ho0) hb)
                      have n1_ := Aside0.mk (Kd.R_lower ho0 (below_size (by repeat (first | (with_reducible first | exact HB.out | apply below_alloc | apply pw_below_drewN | apply below_drew1 | refine below_set ?_ GE117.out) | exact HB.out))))
                      have n2_ := Aside0.mk (blk_below (g := gb117) (o := .cells #[.int .i64 ((rd_T38 l1 x24_1).f0), .int .i64 ((rd_T38 l1 x24_1).f1), .slice A116_2 ((rd_T38 l1 x24_1).f2).length c116_2] 38 (0, 0)) (by (with_reducible repeat (first | refine blk_drewN ?_ _ | refine blk_drew ?_ | refine blk_alloc ?_ _)); exact BK117.out) hb)
                      have n3_ := Aside0.mk (below_step (by repeat (first | (with_reducible first | exact HB.out | apply below_alloc | apply pw_below_drewN | apply below_drew1 | refine below_set ?_ GE117.out) | exact HB.out)) hb)
                      clear HO_8
                      clear BK117
                      clear HB
                      have HO_8 := n0_
                      have HO121 := n1_
                      have BK117 := n2_
                      have HB := n3_
                      clear n0_ n1_ n2_ n3_
                      (try clear hb)
                      (try clear hb2)
                      (try clear hk)
                      (try clear hi)
                      (try clear ho0)
                      obtain ⟨Ao20, co20, eo20⟩ := Kd.R_slice HO121.out
                      (first | subst eo20 | (injection eo20 with f1_ f2_ f3_; have f4_ := f1_.symm; have f5_ := f3_.symm; clear f1_ f2_ f3_; subst f4_; subst f5_))
                      refine hK.out _ _ ⟨(blk_cell BK117.out 0).trans rfl, (blk_cell BK117.out 1).trans rfl, (blk_cell BK117.out 2).trans rfl⟩ (fun hHeld => ?_)
                      clear hK K
                      refine norm_ (a' := ?_) ?_ ?_
                      rotate_left
                      · show Act.put _ (some 45) _ = _
                        simp only [Act.put, List.setIfInBounds_toArray, List.set_cons_zero, List.set_cons_succ, i64_w, i32_w]
                        rfl
                      refine pure_ (i := 14) (N := some 46) (v := ?_) (a' := ?_) #[true, true, true, true, true, true, true, true, true, true, true, true, true, true, true, false, false, false] rfl rfl (any_of HT_.out (by kernel_rfl)) (fun _ _ _ h => h) (Or.inl ⟨by rfl, ?_⟩) ?_ ?_
                      rotate_left
                      · intro w'
                        go_simp
                        with_reducible rfl
                      rotate_left
                      · simp only [Act.put, List.setIfInBounds_toArray, List.set_cons_zero, List.set_cons_succ, i64_w, i32_w]
                        rfl
                      refine one_ (i := 15) (N := some 47) #[true, true, true, true, true, true, true, true, true, true, true, true, true, true, true, true, false, false] rfl rfl (one_of HT_.out (by kernel_rfl)) (by decide) (fun K hK => ?_)
                      refine value_ (w1 := ?_) (v := ?_) (by rfl) rfl ?_ ?_
                      rotate_left 2
                      · go_simp
                        constructor
                        · rfl
                        · rfl
                      refine hK.out _ _ ⟨(blk_cell (blk_alloc BK117.out _) 0).trans rfl, (blk_cell (blk_alloc BK117.out _) 1).trans rfl, (blk_cell (blk_alloc BK117.out _) 2).trans rfl⟩ (fun hHeld => ?_)
                      clear hK K
                      refine norm_ (a' := ?_) ?_ ?_
                      rotate_left
                      · show Act.put _ (some 47) _ = _
                        simp only [Act.put, List.setIfInBounds_toArray, List.set_cons_zero, List.set_cons_succ, i64_w, i32_w]
                        rfl
                      refine one_ (i := 16) (N := some 48) #[true, true, true, true, true, true, true, true, true, true, true, true, true, true, true, true, true, false] rfl rfl (one_of HT_.out (by kernel_rfl)) (by decide) (fun K hK => ?_)
                      refine Kd.S_append_step k38 (w0 := w) w.heap.size (by rfl) (.tmp 32) (.tmp 47) 23 38 (.agg #[(.int .i64 0), (.int .i64 0), (.slice none 0 0)]) 40 rfl Tryd.underlying23 info38 rfl (by decide) (by omega) u8 x8_1 (⟨wrap64 (((rd_T38 l1 x24_1).f0) + x9_1), wrap64 ((wrap64 (((rd_T38 l1 x24_1).f0) + x9_1)) + (((rd_T38 l1 x24_1).f2).length : Int)), t119⟩ : S38) [.int .i64 (wrap64 (((rd_T38 l1 x24_1).f0) + x9_1)), .int .i64 (wrap64 ((wrap64 (((rd_T38 l1 x24_1).f0) + x9_1)) + (((rd_T38 l1 x24_1).f2).length : Int))), .slice Ao20 t119.length co20] (fun k_ => k_ ≠ gb117) (fun k_ => some k_ = (.slice Ao20 t119.length co20 : Value).ownBlock) rfl rfl ?aP (fun k_ hk_ => ((Kd.R_mono (ok' := fun k_ => ((fun k_ => k_ ≠ gb117)) k_ ∧ some k_ ≠ (u8 : Value).ownBlock) (Kd.R_types (Kd.R_apart' (HO121.out) (Kd.S_typed HO_8.out) (by decide)) BK117.out (by decide)) (fun k_ hk => ⟨hk.2, hk.1.2⟩))).1 k_ hk_.symm) ?aF ?aO ?aB ?aS ?aL ?_
                      (case aP => exact k38_mkM _ _ _ (⟨wrap64 (((rd_T38 l1 x24_1).f0) + x9_1), wrap64 ((wrap64 (((rd_T38 l1 x24_1).f0) + x9_1)) + (((rd_T38 l1 x24_1).f2).length : Int)), t119⟩ : S38) (Kd.R_mono (Kd.R_tight rfl (Kd.R_mono (ok' := fun k_ => ((fun k_ => k_ ≠ gb117)) k_ ∧ some k_ ≠ (u8 : Value).ownBlock) (Kd.R_types (Kd.R_apart' (HO121.out) (Kd.S_typed HO_8.out) (by decide)) BK117.out (by decide)) (fun k_ hk => ⟨hk.2, hk.1.2⟩))) (fun _ h_ => h_)))
                      (case aB => exact (by repeat (first | (with_reducible first | exact HB.out | apply below_alloc | apply pw_below_drewN | apply below_drew1 | refine below_set ?_ GE117.out) | exact HB.out)))
                      (case aF => exact (fun k_ hk => Kd.freshB (g := gb117) (o := .cells #[.int .i64 ((rd_T38 l1 x24_1).f0), .int .i64 ((rd_T38 l1 x24_1).f1), .slice A116_2 ((rd_T38 l1 x24_1).f2).length c116_2] 38 (0, 0)) (by (with_reducible repeat (first | refine blk_drewN ?_ _ | refine blk_drew ?_ | refine blk_alloc ?_ _)); exact BK117.out) k_ hk))
                      (case aO => exact (by (with_reducible repeat (first | apply Kd.S_alloc | apply Kd.S_drewN | apply Kd.S_drew)); exact Kd.S_mono HO_8.out (fun k_ hk => ⟨hk.1, fun e_ => hk.2 e_⟩)))
                      (case aS => exact (below_size (by repeat (first | (with_reducible first | exact HB.out | apply below_alloc | apply pw_below_drewN | apply below_drew1 | refine below_set ?_ GE117.out) | exact HB.out))))
                      (case aL => have := LMc13.out; omega)
                      intro v123 w21 ho hb hg hat
                      rw [← Ny122.out] at ho
                      have n0_ := Aside0.mk (blk_grown (g := gb117) (o := .cells #[.int .i64 ((rd_T38 l1 x24_1).f0), .int .i64 ((rd_T38 l1 x24_1).f1), .slice A116_2 ((rd_T38 l1 x24_1).f2).length c116_2] 38 (0, 0)) (by (with_reducible repeat (first | refine blk_drewN ?_ _ | refine blk_drew ?_ | refine blk_alloc ?_ _)); exact BK117.out) hg (Kd.S_away HO_8.out (fun _ hk => hk.1)))
                      have n1_ := Aside0.mk (hb)
                      have n2_ := Aside0.mk (ho)
                      clear BK117
                      clear HB
                      clear HO_8
                      clear HO121
                      have BK117 := n0_
                      have HB := n1_
                      have HO124 := n2_
                      clear n0_ n1_ n2_
                      clear ho hb hg hat
                      refine hK.out _ _ ⟨(blk_cell BK117.out 0).trans rfl, (blk_cell BK117.out 1).trans rfl, (blk_cell BK117.out 2).trans rfl⟩ (fun hHeld => ?_)
                      clear hK K
                      refine norm_ (a' := ?_) ?_ ?_
                      rotate_left
                      · show Act.put _ (some 48) _ = _
                        simp only [Act.put, List.setIfInBounds_toArray, List.set_cons_zero, List.set_cons_succ, i64_w, i32_w]
                        rfl
                      refine pure_ (i := 17) (N := some 8) (v := ?_) (a' := ?_) #[true, true, true, true, true, true, true, true, true, true, true, true, true, true, true, true, true, true] rfl rfl (any_of HT_.out (by kernel_rfl)) (fun _ _ _ h => h) (Or.inl ⟨by rfl, ?_⟩) ?_ ?_
                      rotate_left
                      · intro w'
                        go_simp
                        with_reducible rfl
                      rotate_left
                      · simp only [Act.put, List.setIfInBounds_toArray, List.set_cons_zero, List.set_cons_succ, i64_w, i32_w]
                        rfl
                      refine done_ (done_of HT_.out (by kernel_rfl)) ?_
                      have hcz22_0 : w21.cell? ⟨gb117, 0, none⟩ = some (.int .i64 ((rd_T38 l1 x24_1).f0)) := (blk_cell BK117.out 0).trans rfl
                      have hcz22_1 : w21.cell? ⟨gb117, 1, none⟩ = some (.int .i64 ((rd_T38 l1 x24_1).f1)) := (blk_cell BK117.out 1).trans rfl
                      have hcz22_2 : w21.cell? ⟨gb117, 2, none⟩ = some (.slice A116_2 ((rd_T38 l1 x24_1).f2).length c116_2) := (blk_cell BK117.out 2).trans rfl
                      have hfz22_0 := blk_frozen BK117.out 0
                      have hfz22_1 := blk_frozen BK117.out 1
                      have hfz22_2 := blk_frozen BK117.out 2
                      try go_wp2
                      go_roundg k1
                      case measure => have := HK1.out; omega
                      case rel => exact ⟨(y122), (wrap64 (x9_1 + (wrap64 ((((rd_T38 l1 x24_1).f2).length : Int) - (wrap64 (((rd_T38 l1 x24_1).f1) - ((rd_T38 l1 x24_1).f0))))))), (wrap64 (x24_1 + 1)), (by first | rfl | (simp; done) | (simp [*]; done) | (simp [bne_nil_, beq_nil_]; done)), (by first | rfl | (simp; done) | (simp [*]; done) | (simp [bne_nil_, beq_nil_]; done)), H', ⟨by have := HK1.out; omega⟩, ⟨by (with_reducible repeat (first | apply Kd.S_alloc | apply Kd.S_drewN | apply Kd.S_drew)); exact Kd.S_mono HO124.out (fun _ hk => trivial)⟩, ⟨by repeat (first | (with_reducible first | exact HB.out | apply below_alloc | apply pw_below_drewN | apply below_drew1 | refine below_set ?_ GE117.out) | exact HB.out)⟩⟩
                    · rw [if_neg c13] at H
                      exact absurd H (by simp)
                  · rw [if_neg c11] at H
                    exact absurd H (by simp)
                · rw [if_neg c10] at H
                  exact absurd H (by simp)
              · rw [if_neg c9] at H
                exact absurd H (by simp)
            · rw [if_neg c8] at H
              exact absurd H (by simp)
          · rw [if_neg c7] at H
            exact absurd H (by simp)
        · rw [if_neg c6] at H
          have c6b0 : decide (x24_1 < (l1.length : Int)) = false := decide_eq_false c6
          clear c6
          simp only [Option.some.injEq, Prod.mk.injEq] at H
          obtain ⟨rfl, rfl⟩ := H
          go_wp2
          go_ret2
          exact ⟨_, (.slice none 0 0), by first | rfl | (simp [errW_none, errW_some] <;> rfl) | (simp [*, errW_none, errW_some] <;> rfl), by (with_reducible repeat (first | apply Kd.S_alloc | apply Kd.S_drewN | apply Kd.S_drew)); exact HO_8.out, by first | exact Kd.R_nil _ _ _ _ _ | exact Kd.N_nil _ _ _ _ _ | exact Kd.V_nil _ _ _ _ _ | exact Kd.Q_nil _ _ _ _ _ | exact Kd.S_nil _ _ _ _ _, by repeat (first | (with_reducible first | exact HB.out | apply below_alloc | apply pw_below_drewN | apply below_drew1) | exact HB.out)⟩
  · rw [if_neg c4] at H
    have e_ := Option.some.inj H
    simp only [Prod.mk.injEq] at e_
    obtain ⟨rfl, rfl⟩ := e_
    refine (back_err k A0 c0 l0 A1 c1 l1 t113 w HR1.out HC1.out hG A3.out (beq_eq_false_iff_ne.mpr c4)).mono ?_
    rintro e w' ⟨v_, rfl, hR, hB⟩
    exact ⟨_, v_, rfl, Kd.S_nil _ _ _ _ _, hR, hB⟩

end Go.Proofs.YteeeoblpfepepaaDoor.H
