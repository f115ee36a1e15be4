-- PRINTED by print.py (a twelfth state) out of the translation. Not trusted: Lean checks it.
import Derived.Test.YteeeoblpfepepaaDoorXx0
namespace Go.Proofs.YteeeoblpfepepaaDoor.X
open Go.Proofs.YteeeoblpfepepaaDoor.Flt Go.Proofs.YteeeoblpfepepaaDoor.H Go.RowKit Go.Proofs.YteeeoblpfepepaaDoorW.PrintWords Go.Proofs.YteeeoblpfepepaaDoorW.PrintLast Go.Proofs.YteeeoblpfepepaaDoorW.PrintMore
attribute [local go_sem] max2_int min2_int max_two min_two max_three min_three max_four min_four   -- for this text's walks alone
set_option linter.unusedVariables false
set_option linter.unusedSimpArgs false

-- NOT PRINTED: function 5 (furrowlaw3_EditPlain)

-- NOT PRINTED: function 6 (furrowlaw3_EditMany)

/-! ### furrowlaw3_Of: function 18 -/
def furrowlaw3_Of.l0 : Nat → List (S38) → List (S60) → Int → Option ((List (S60)))
 | 0, _, _, _ => none
 | k + 1, x0, x3, x4 => if x4 < (x0.length : Int) then (if 0 ≤ x4 then (if x3.length < 3518437208883 then (furrowlaw3_Of.l0 k x0 (x3 ++ [(⟨(rd_T38 x0 x4).f0, (rd_T38 x0 x4).f1, (rd_T38 x0 x4).f2⟩ : S60)]) (wrap64 (x4 + 1))) else (none)) else (none)) else (some x3)
def furrowlaw3_Of.f (k : Nat) (l0 : List (S38)) : Option ((List (S60))) := furrowlaw3_Of.l0 k l0 ([] : List (S60)) 0
theorem furrowlaw3_Of.mono_l : ∀ k, (∀ y0 y1 y2, LeO (furrowlaw3_Of.l0 k y0 y1 y2) (furrowlaw3_Of.l0 (k + 1) y0 y1 y2))
 | 0 => fun _ _ _ r h => by simp [furrowlaw3_Of.l0] at h
 | k + 1 => by
  have ih0 := furrowlaw3_Of.mono_l k
  ·intro y0 y1 y2
   unfold furrowlaw3_Of.l0
   repeat' first
   | (with_reducible exact ih0 _ _ _)
   | (with_reducible exact LeO.refl _)
   | (with_reducible exact LeO.none _)
   | (with_reducible refine LeO.ite ?_ ?_)
   | (with_reducible refine LeO.bind ?_ (fun _ => ?_))
   | exact ih0 _ _ _
   | exact LeO.none _
   | refine LeO.ite ?_ ?_
   | refine LeO.bind ?_ (fun _ => ?_)
theorem furrowlaw3_Of.mono : ∀ a0 k, LeO (furrowlaw3_Of.f k a0) (furrowlaw3_Of.f (k + 1) a0) := by
 intro a0 k
 have ih0 := furrowlaw3_Of.mono_l k
 unfold furrowlaw3_Of.f
 repeat' first
   | (with_reducible exact ih0 _ _ _)
   | (with_reducible exact LeO.refl _)
   | (with_reducible exact LeO.none _)
   | (with_reducible refine LeO.ite ?_ ?_)
   | (with_reducible refine LeO.bind ?_ (fun _ => ?_))
   | exact ih0 _ _ _
   | exact LeO.none _
   | refine LeO.ite ?_ ?_
   | refine LeO.bind ?_ (fun _ => ?_)
def furrowlaw3_Of.T5 : Bool × List (List Nat × List Nat) := (true, [([], []), ([], []), ([], []), ([1, 2], [1, 2]), ([3], [3]), ([4], [4]), ([], []), ([], []), ([6, 7], [6, 7]), ([8], [8]), ([9], [9]), ([], []), ([], []), ([11, 12], [11, 12]), ([13], [13]), ([14], [14]), ([5, 10, 15], [5, 10, 15]), ([16], [16]), ([0, 17], [0, 17]), ([18, 18, 0, 1, 2, 3, 4, 5, 6, 7, 8, 9, 10, 11, 12, 13, 14, 15, 16, 17, 18], [0, 18])])
def furrowlaw3_Of.B5 : List Nat := [0, 0, 0, 6, 14, 30, 0, 0, 192, 448, 960, 0, 0, 6144, 14336, 30720, 65534, 131070, 262143, 524287]
theorem furrowlaw3_Of.tab5 : rtab .any (opsOf Tryd.f18 5) = furrowlaw3_Of.T5 := by kernel_rfl
theorem furrowlaw3_Of.bits5 : waitsOk furrowlaw3_Of.T5.2 furrowlaw3_Of.B5 = true := by kernel_rfl
set_option maxHeartbeats 8000000 in
set_option maxRecDepth 100000 in
theorem furrowlaw3_Of.calls (k : Nat) (P0_ : Nat → Prop) (A0 : Option Addr) (c0 : Nat) (l0 : List (S38)) (r : List (S60)) (w : World) (hs0 : Kd.V k38 38 w w.heap.size (fun k_ => P0_ k_) (.slice A0 l0.length c0) l0) (h : furrowlaw3_Of.f k l0 = some r) :
  Calls Tryd.prog 18 #[.slice A0 l0.length c0] w fun e w' => ∃ v0_ : Value, e = .returned (v0_) ∧ Kd.N k60 60 w' w.heap.size (fun k_ => (P0_ k_ ∨ w.heap.size ≤ k_)) v0_ r ∧ Below w.heap.size w w' := by
 have hu60 := Tryd.underlying60
 have HO0 := mk0 (show Kd.V k38 38 w w.heap.size (fun k_ => (P0_ k_ ∨ w.heap.size ≤ k_)) (.slice A0 l0.length c0) l0 from Kd.V_mono hs0 (fun k_ hk => .inl hk))
 have HB := mk0 (Below.refl w.heap.size w)
 have H : (furrowlaw3_Of.l0 k l0 ([] : List (S60)) 0) = some r := h
 clear h
 have H' := mk0 H
 clear H
 go_enter Tryd.func18, Tryd.ntmps18
 go_wp2
 go_loopg [3, 4] k (fun kq v3 v4 w' => ∃ (x3_1 : List (S60)) (x4_1 : Int), v4 = .int .i64 x4_1 ∧ Aside0 (furrowlaw3_Of.l0 kq l0 x3_1 x4_1 = some r) ∧ Aside0 (kq ≤ k) ∧ Aside0 (Kd.V k38 38 w' w.heap.size (fun k_ => (P0_ k_ ∨ w.heap.size ≤ k_) ∧ some k_ ≠ (v3 : Value).ownBlock) (.slice A0 l0.length c0) l0) ∧ Aside0 (Kd.N k60 60 w' w.heap.size (fun k_ => (P0_ k_ ∨ w.heap.size ≤ k_)) v3 x3_1) ∧ Aside0 (Below w.heap.size w w'))
 case atStart => exact ⟨(([] : List (S60))), (0), (by first | rfl | (simp; done) | (simp [*]; done) | (simp [bne_nil_, beq_nil_]; done)), H', ⟨Nat.le_refl _⟩, ⟨uV (Kd.V_mono HO0.out (fun _ hk => ⟨hk, (by simp [Value.ownBlock])⟩))⟩, ⟨by first | exact Kd.S_nil _ _ _ _ _ | exact Kd.N_nil _ _ _ _ _ | exact Kd.V_nil _ _ _ _ _ | exact Kd.Q_nil _ _ _ _ _ | exact Kd.R_nil _ _ _ _ _⟩, ⟨uL HB.out⟩⟩
 case round =>
  clear H'
  try clear c1
  obtain ⟨x3_1, x4_1, rfl, HA, HK1, HO_0, HO_3, HB⟩ := hrel
  cases gk with
  | zero => exact absurd HA.out (by simp [furrowlaw3_Of.l0])
  | succ k1 =>
   have H := HA.out
   clear HA
   simp only [furrowlaw3_Of.l0] at H
   by_cases c2 : x4_1 < (l0.length : Int)
   ·rw [if_pos c2] at H
    have c2b0 : decide (x4_1 < (l0.length : Int)) = true := decide_eq_true c2
    clear c2
    by_cases c3 : 0 ≤ x4_1
    ·rw [if_pos c3] at H
     have c3b0 : decide (0 ≤ x4_1) = true := decide_eq_true c3
     clear c3
     by_cases c4 : x3_1.length < 3518437208883
     ·rw [if_pos c4] at H
      have LMc4 := mk0 c4
      clear c4
      obtain ⟨y305, hy305⟩ : ∃ y_ : List (S60), y_ = (x3_1 ++ [(⟨(rd_T38 l0 x4_1).f0, (rd_T38 l0 x4_1).f1, (rd_T38 l0 x4_1).f2⟩ : S60)]) := ⟨_, rfl⟩
      replace H : (furrowlaw3_Of.l0 k1 l0 y305 (wrap64 (x4_1 + 1))) = some r := by first | (rw [hy305]; with_reducible exact H) | (have H2_ := (Option.bind_some _ _).symm.trans H; rw [hy305]; with_reducible exact H2_) | (have H2_ := (Option.bind_some _ _).symm.trans H; with_reducible exact H2_) | with_reducible exact H | (rw [hy305]; exact H) | exact H
      have Ny305 := mk0 hy305
      clear hy305
      have H' := mk0 H
      clear H
      try go_wp2
      have n0_ := mk0 (Kd.V_drew HO_0.out)
      have n1_ := mk0 (Kd.N_drew HO_3.out)
      have n2_ := mk0 (below_drew1 HB.out)
      clear HO_0
      clear HO_3
      clear HB
      have HO_0 := n0_
      have HO_3 := n1_
      have HB := n2_
      clear n0_ n1_ n2_
      have p302 : 0 ≤ (x4_1 : Int) := of_decide_eq_true (by first | (with_reducible assumption) | assumption)
      have q302 : x4_1 < (l0.length : Int) := of_decide_eq_true (by first | (with_reducible assumption) | assumption)
      obtain ⟨ad302, A302_2, c302_2, e302, hx302_0, hx302_1, hx302_2, hl302_2, hi302_2⟩ := at_T38 (Kd.V_reads' HO_0.out).2.2 x4_1 p302 q302
      cases e302
      obtain ⟨ce302, hce302, hMe302, hcc302⟩ := Kd.V_get HO_0.out z38 x4_1 p302 (by first | exact q302 | exact of_decide_eq_true (by first | (with_reducible assumption) | assumption) | (have e_ := (Kd.V_reads' HO_0.out).1; omega))
      obtain ⟨ua302_2, uc302_2, rfl, ul302_2, ge302_2⟩ := k38_openF hMe302
      have hv302_2 := hcc302 2 _ rfl
      rw [add_field _ _ 2 (by omega)] at hv302_2
      replace hv302_2 := Option.some.inj (hv302_2.symm.trans hx302_2)
      injection hv302_2 with hva_ hvn_ hvc_
      rw [hva_] at ge302_2
      rw [hvc_] at ul302_2
      have HL302_2 := mk0 (show Kd.V Kd.string 9 _ w.heap.size _ _ ((rd_T38 l0 x4_1).f2) from Kd.V_mk ul302_2 ge302_2)
      clear hva_ hvn_ hvc_ ge302_2 ul302_2
      clear hcc302 hce302
      have HR302_2 := mk0 hi302_2
      have HC302_2 := mk0 hl302_2
      clear hi302_2 hl302_2
      replace p302 := eq_true p302
      replace q302 := eq_true q302
      have p303 : 0 ≤ (x4_1 : Int) := of_decide_eq_true (by first | (with_reducible assumption) | assumption)
      have q303 : x4_1 < (l0.length : Int) := of_decide_eq_true (by first | (with_reducible assumption) | assumption)
      obtain ⟨ad303, A303_2, c303_2, e303, hx303_0, hx303_1, hx303_2, hl303_2, hi303_2⟩ := at_T38 (Kd.V_reads' HO_0.out).2.2 x4_1 p303 q303
      obtain rfl : ad302 = ad303 := (by injection e303)
      obtain ⟨ce303, hce303, hMe303, hcc303⟩ := Kd.V_get HO_0.out z38 x4_1 p303 (by first | exact q303 | exact of_decide_eq_true (by first | (with_reducible assumption) | assumption) | (have e_ := (Kd.V_reads' HO_0.out).1; omega))
      obtain ⟨ua303_2, uc303_2, rfl, ul303_2, ge303_2⟩ := k38_openF hMe303
      have hv303_2 := hcc303 2 _ rfl
      rw [add_field _ _ 2 (by omega)] at hv303_2
      replace hv303_2 := Option.some.inj (hv303_2.symm.trans hx303_2)
      injection hv303_2 with hva_ hvn_ hvc_
      rw [hva_] at ge303_2
      rw [hvc_] at ul303_2
      have HL303_2 := mk0 (show Kd.V Kd.string 9 _ w.heap.size _ _ ((rd_T38 l0 x4_1).f2) from Kd.V_mk ul303_2 ge303_2)
      clear hva_ hvn_ hvc_ ge303_2 ul303_2
      clear hcc303 hce303
      have HR303_2 := mk0 hi303_2
      have HC303_2 := mk0 hl303_2
      clear hi303_2 hl303_2
      replace p303 := eq_true p303
      replace q303 := eq_true q303
      have ea_ := Option.some.inj (hx302_2.symm.trans hx303_2)
      injection ea_ with ea_ en_ ec_
      subst ea_
      subst ec_
      clear en_
      have p304 : 0 ≤ (x4_1 : Int) := of_decide_eq_true (by first | (with_reducible assumption) | assumption)
      have q304 : x4_1 < (l0.length : Int) := of_decide_eq_true (by first | (with_reducible assumption) | assumption)
      obtain ⟨ad304, A304_2, c304_2, e304, hx304_0, hx304_1, hx304_2, hl304_2, hi304_2⟩ := at_T38 (Kd.V_reads' HO_0.out).2.2 x4_1 p304 q304
      obtain rfl : ad302 = ad304 := (by injection e304)
      obtain ⟨ce304, hce304, hMe304, hcc304⟩ := Kd.V_get HO_0.out z38 x4_1 p304 (by first | exact q304 | exact of_decide_eq_true (by first | (with_reducible assumption) | assumption) | (have e_ := (Kd.V_reads' HO_0.out).1; omega))
      obtain ⟨ua304_2, uc304_2, rfl, ul304_2, ge304_2⟩ := k38_openF hMe304
      have hv304_2 := hcc304 2 _ rfl
      rw [add_field _ _ 2 (by omega)] at hv304_2
      replace hv304_2 := Option.some.inj (hv304_2.symm.trans hx304_2)
      injection hv304_2 with hva_ hvn_ hvc_
      rw [hva_] at ge304_2
      rw [hvc_] at ul304_2
      have HL304_2 := mk0 (show Kd.V Kd.string 9 _ w.heap.size _ _ ((rd_T38 l0 x4_1).f2) from Kd.V_mk ul304_2 ge304_2)
      clear hva_ hvn_ hvc_ ge304_2 ul304_2
      clear hcc304 hce304
      have HR304_2 := mk0 hi304_2
      have HC304_2 := mk0 hl304_2
      clear hi304_2 hl304_2
      replace p304 := eq_true p304
      replace q304 := eq_true q304
      have ea_ := Option.some.inj (hx302_2.symm.trans hx304_2)
      injection ea_ with ea_ en_ ec_
      subst ea_
      subst ec_
      clear en_
      refine start_ (n := 20) (S := fun w' => w'.cell? (ad302.add ((x4_1).toNat * 3)) = some (.int .i64 ((rd_T38 l0 x4_1).f0)) ∧ w'.cell? ⟨(ad302.add ((x4_1).toNat * 3)).block, (ad302.add ((x4_1).toNat * 3)).off + 1, none⟩ = some (.int .i64 ((rd_T38 l0 x4_1).f1)) ∧ w'.cell? ⟨(ad302.add ((x4_1).toNat * 3)).block, (ad302.add ((x4_1).toNat * 3)).off + 2, none⟩ = some (.slice A302_2 ((rd_T38 l0 x4_1).f2).length c302_2) ∧ w'.cell? (ad302.add ((x4_1).toNat * 3)) = some (.int .i64 ((rd_T38 l0 x4_1).f0)) ∧ w'.cell? ⟨(ad302.add ((x4_1).toNat * 3)).block, (ad302.add ((x4_1).toNat * 3)).off + 1, none⟩ = some (.int .i64 ((rd_T38 l0 x4_1).f1)) ∧ w'.cell? ⟨(ad302.add ((x4_1).toNat * 3)).block, (ad302.add ((x4_1).toNat * 3)).off + 2, none⟩ = some (.slice A302_2 ((rd_T38 l0 x4_1).f2).length c302_2) ∧ w'.cell? (ad302.add ((x4_1).toNat * 3)) = some (.int .i64 ((rd_T38 l0 x4_1).f0)) ∧ w'.cell? ⟨(ad302.add ((x4_1).toNat * 3)).block, (ad302.add ((x4_1).toNat * 3)).off + 1, none⟩ = some (.int .i64 ((rd_T38 l0 x4_1).f1)) ∧ w'.cell? ⟨(ad302.add ((x4_1).toNat * 3)).block, (ad302.add ((x4_1).toNat * 3)).off + 2, none⟩ = some (.slice A302_2 ((rd_T38 l0 x4_1).f2).length c302_2)) (ds := [17, 18]) #[false, false, false, false, false, false, false, false, false, false, false, false, false, false, false, false, false, false, false, false] (by kernel_rfl) rfl rfl ⟨hx302_0, hx302_1, hx302_2, hx303_0, hx303_1, hx303_2, hx304_0, hx304_1, hx304_2⟩ (fun hHeld => ?_); refine with_tabW furrowlaw3_Of.tab5 furrowlaw3_Of.bits5 (fun HT_ HW_ => ?_)
      generalize wr.drew = w5 at HO_0 HO_3 HB HL302_2 HL303_2 HL304_2 HR302_2 HR303_2 HR304_2 hx302_0 hx302_1 hx302_2 hx303_0 hx303_1 hx303_2 hx304_0 hx304_1 hx304_2 hHeld ⊢
      refine pure_ (i := 0) (N := some 11) (v := ?_) (a' := ?_) #[true, false, false, false, false, false, false, false, false, false, false, false, false, false, false, false, false, false, false, false] rfl rfl (any_of HT_.out (by kernel_rfl)) (fun _ _ _ h => h) (Or.inl ⟨by rfl, ?_⟩) ?_ ?_
      rotate_left
      ·intro w'
       go_simp
       with_reducible rfl
      rotate_left
      ·simp only [Act.put, List.setIfInBounds_toArray, List.set_cons_zero, List.set_cons_succ, i64_w, i32_w]
       rfl
      refine pure_ (i := 1) (N := some 12) (v := ?_) (a' := ?_) #[true, true, false, false, false, false, false, false, false, false, false, false, false, false, false, false, false, false, false, false] rfl rfl (any_of HT_.out (by kernel_rfl)) (fun _ _ _ h => h) (Or.inl ⟨by rfl, ?_⟩) ?_ ?_
      rotate_left
      ·intro w'
       go_simp
       with_reducible rfl
      rotate_left
      ·simp only [Act.put, List.setIfInBounds_toArray, List.set_cons_zero, List.set_cons_succ, i64_w, i32_w]
       rfl
      refine pure_ (i := 2) (N := some 13) (v := ?_) (a' := ?_) #[true, true, true, false, false, false, false, false, false, false, false, false, false, false, false, false, false, false, false, false] rfl rfl (any_of HT_.out (by kernel_rfl)) (fun _ _ _ h => h) (Or.inl ⟨by rfl, ?_⟩) ?_ ?_
      rotate_left
      ·intro w'
       go_simp
       with_reducible rfl
      rotate_left
      ·simp only [Act.put, List.setIfInBounds_toArray, List.set_cons_zero, List.set_cons_succ, i64_w, i32_w]
       rfl
      refine pure_ (i := 3) (N := some 14) (v := ?_) (a' := ?_) #[true, true, true, true, false, false, false, false, false, false, false, false, false, false, false, false, false, false, false, false] rfl rfl (any_of HT_.out (by kernel_rfl)) (fun _ _ _ h => h) (Or.inl ⟨by rfl, ?_⟩) ?_ ?_
      rotate_left
      ·intro w'
       go_simp
       with_reducible rfl
      rotate_left
      ·simp only [Act.put, List.setIfInBounds_toArray, List.set_cons_zero, List.set_cons_succ, i64_w, i32_w]
       rfl
      refine pure_ (i := 4) (N := some 15) (v := ?_) (a' := ?_) #[true, true, true, true, true, false, false, false, false, false, false, false, false, false, false, false, false, false, false, false] rfl rfl (any_of HT_.out (by kernel_rfl)) (fun _ _ _ h => h) (Or.inl ⟨by rfl, ?_⟩) ?_ ?_
      rotate_left
      ·intro w'
       go_simp
       with_reducible rfl
      rotate_left
      ·simp only [Act.put, List.setIfInBounds_toArray, List.set_cons_zero, List.set_cons_succ, i64_w, i32_w]
       rfl
      refine pure_ (i := 6) (N := some 17) (v := ?_) (a' := ?_) #[true, true, true, true, true, false, true, false, false, false, false, false, false, false, false, false, false, false, false, false] rfl rfl (any_of HT_.out (by kernel_rfl)) (fun _ _ _ h => h) (Or.inl ⟨by rfl, ?_⟩) ?_ ?_
      rotate_left
      ·intro w'
       go_simp
       with_reducible rfl
      rotate_left
      ·simp only [Act.put, List.setIfInBounds_toArray, List.set_cons_zero, List.set_cons_succ, i64_w, i32_w]
       rfl
      refine pure_ (i := 7) (N := some 18) (v := ?_) (a' := ?_) #[true, true, true, true, true, false, true, true, false, false, false, false, false, false, false, false, false, false, false, false] rfl rfl (any_of HT_.out (by kernel_rfl)) (fun _ _ _ h => h) (Or.inl ⟨by rfl, ?_⟩) ?_ ?_
      rotate_left
      ·intro w'
       go_simp
       with_reducible rfl
      rotate_left
      ·simp only [Act.put, List.setIfInBounds_toArray, List.set_cons_zero, List.set_cons_succ, i64_w, i32_w]
       rfl
      refine pure_ (i := 8) (N := some 19) (v := ?_) (a' := ?_) #[true, true, true, true, true, false, true, true, true, false, false, false, false, false, false, false, false, false, false, false] rfl rfl (any_of HT_.out (by kernel_rfl)) (fun _ _ _ h => h) (Or.inl ⟨by rfl, ?_⟩) ?_ ?_
      rotate_left
      ·intro w'
       go_simp
       with_reducible rfl
      rotate_left
      ·simp only [Act.put, List.setIfInBounds_toArray, List.set_cons_zero, List.set_cons_succ, i64_w, i32_w]
       rfl
      refine pure_ (i := 9) (N := some 20) (v := ?_) (a' := ?_) #[true, true, true, true, true, false, true, true, true, true, false, false, false, false, false, false, false, false, false, false] rfl rfl (any_of HT_.out (by kernel_rfl)) (fun _ _ _ h => h) (Or.inl ⟨by rfl, ?_⟩) ?_ ?_
      rotate_left
      ·intro w'
       go_simp
       with_reducible rfl
      rotate_left
      ·simp only [Act.put, List.setIfInBounds_toArray, List.set_cons_zero, List.set_cons_succ, i64_w, i32_w]
       rfl
      refine pure_ (i := 11) (N := some 22) (v := ?_) (a' := ?_) #[true, true, true, true, true, false, true, true, true, true, false, true, false, false, false, false, false, false, false, false] rfl rfl (any_of HT_.out (by kernel_rfl)) (fun _ _ _ h => h) (Or.inl ⟨by rfl, ?_⟩) ?_ ?_
      rotate_left
      ·intro w'
       go_simp
       with_reducible rfl
      rotate_left
      ·simp only [Act.put, List.setIfInBounds_toArray, List.set_cons_zero, List.set_cons_succ, i64_w, i32_w]
       rfl
      refine pure_ (i := 12) (N := some 23) (v := ?_) (a' := ?_) #[true, true, true, true, true, false, true, true, true, true, false, true, true, false, false, false, false, false, false, false] rfl rfl (any_of HT_.out (by kernel_rfl)) (fun _ _ _ h => h) (Or.inl ⟨by rfl, ?_⟩) ?_ ?_
      rotate_left
      ·intro w'
       go_simp
       with_reducible rfl
      rotate_left
      ·simp only [Act.put, List.setIfInBounds_toArray, List.set_cons_zero, List.set_cons_succ, i64_w, i32_w]
       rfl
      refine pure_ (i := 13) (N := some 24) (v := ?_) (a' := ?_) #[true, true, true, true, true, false, true, true, true, true, false, true, true, true, false, false, false, false, false, false] rfl rfl (any_of HT_.out (by kernel_rfl)) (fun _ _ _ h => h) (Or.inl ⟨by rfl, ?_⟩) ?_ ?_
      rotate_left
      ·intro w'
       go_simp
       with_reducible rfl
      rotate_left
      ·simp only [Act.put, List.setIfInBounds_toArray, List.set_cons_zero, List.set_cons_succ, i64_w, i32_w]
       rfl
      refine pure_ (i := 14) (N := some 25) (v := ?_) (a' := ?_) #[true, true, true, true, true, false, true, true, true, true, false, true, true, true, true, false, false, false, false, false] rfl rfl (any_of HT_.out (by kernel_rfl)) (fun _ _ _ h => h) (Or.inl ⟨by rfl, ?_⟩) ?_ ?_
      rotate_left
      ·intro w'
       go_simp
       with_reducible rfl
      rotate_left
      ·simp only [Act.put, List.setIfInBounds_toArray, List.set_cons_zero, List.set_cons_succ, i64_w, i32_w]
       rfl
      refine take_ (i := 5) (N := some 16) (v := ?_) (a' := ?_) #[true, true, true, true, true, true, true, true, true, true, false, true, true, true, true, false, false, false, false, false] rfl rfl (take_ofW HT_.out HW_.out (by kernel_rfl)) (fun _ _ _ h => h) (Or.inl ⟨by rfl, ?_⟩) hHeld ?_ ?_
      rotate_left
      ·rintro w' ⟨s0, s1, s2, s3, s4, s5, s6, s7, s8⟩
       go_simp
       with_reducible rfl
      rotate_left
      ·simp only [Act.put, List.setIfInBounds_toArray, List.set_cons_zero, List.set_cons_succ, i64_w, i32_w]
       rfl
      refine take_ (i := 10) (N := some 21) (v := ?_) (a' := ?_) #[true, true, true, true, true, true, true, true, true, true, true, true, true, true, true, false, false, false, false, false] rfl rfl (take_ofW HT_.out HW_.out (by kernel_rfl)) (fun _ _ _ h => h) (Or.inl ⟨by rfl, ?_⟩) hHeld ?_ ?_
      rotate_left
      ·rintro w' ⟨s0, s1, s2, s3, s4, s5, s6, s7, s8⟩
       go_simp
       with_reducible rfl
      rotate_left
      ·simp only [Act.put, List.setIfInBounds_toArray, List.set_cons_zero, List.set_cons_succ, i64_w, i32_w]
       rfl
      refine take_ (i := 15) (N := some 26) (v := ?_) (a' := ?_) #[true, true, true, true, true, true, true, true, true, true, true, true, true, true, true, true, false, false, false, false] rfl rfl (take_ofW HT_.out HW_.out (by kernel_rfl)) (fun _ _ _ h => h) (Or.inl ⟨by rfl, ?_⟩) hHeld ?_ ?_
      rotate_left
      ·rintro w' ⟨s0, s1, s2, s3, s4, s5, s6, s7, s8⟩
       go_simp
       with_reducible rfl
      rotate_left
      ·simp only [Act.put, List.setIfInBounds_toArray, List.set_cons_zero, List.set_cons_succ, i64_w, i32_w]
       rfl
      refine pure_ (i := 16) (N := some 27) (v := ?_) (a' := ?_) #[true, true, true, true, true, true, true, true, true, true, true, true, true, true, true, true, true, false, false, false] rfl rfl (any_of HT_.out (by kernel_rfl)) (fun _ _ _ h => h) (Or.inl ⟨by rfl, ?_⟩) ?_ ?_
      rotate_left
      ·intro w'
       go_simp
       with_reducible rfl
      rotate_left
      ·simp only [Act.put, List.setIfInBounds_toArray, List.set_cons_zero, List.set_cons_succ, i64_w, i32_w]
       rfl
      refine last_ (i := 17) (N := some 28) #[true, true, true, true, true, true, true, true, true, true, true, true, true, true, true, true, true, true, false, false] rfl rfl (one_of HT_.out (by kernel_rfl)) (by decide) (fun K hK => ?_)
      refine value_ (w1 := ?_) (v := ?_) (by rfl) rfl ?_ ?_
      rotate_left 2
      ·go_simp
       constructor
       ·rfl
       ·rfl
      refine hK.out _ _ ?_
      clear hK K
      refine norm_ (a' := ?_) ?_ ?_
      rotate_left
      ·show Act.put _ (some 28) _ = _
       simp only [Act.put, List.setIfInBounds_toArray, List.set_cons_zero, List.set_cons_succ, i64_w, i32_w]
       rfl
      refine last_ (i := 18) (N := some 29) #[true, true, true, true, true, true, true, true, true, true, true, true, true, true, true, true, true, true, true, false] rfl rfl (one_of HT_.out (by kernel_rfl)) (by decide) (fun K hK => ?_)
      refine Kd.N_append_step k60 (w0 := w) w.heap.size (by rfl) (.tmp 11) (.tmp 28) 35 60 (.agg #[(.int .i64 0), (.int .i64 0), (.slice none 0 0)]) 40 rfl Tryd.underlying35 info60 rfl (by decide) (by omega) u3 x3_1 (⟨(rd_T38 l0 x4_1).f0, (rd_T38 l0 x4_1).f1, (rd_T38 l0 x4_1).f2⟩ : S60) [.int .i64 ((rd_T38 l0 x4_1).f0), .int .i64 ((rd_T38 l0 x4_1).f1), .slice A302_2 ((rd_T38 l0 x4_1).f2).length c302_2] (fun k_ => (P0_ k_ ∨ w.heap.size ≤ k_)) (fun k_ => ((fun k_ => (P0_ k_ ∨ w.heap.size ≤ k_))) k_ ∧ some k_ ≠ (u3 : Value).ownBlock) rfl rfl ?aP (fun _ hk => hk) ?aF ?aO ?aB ?aS ?aL ?_
      (case aP => exact (k60_mkF _ _ (⟨(rd_T38 l0 x4_1).f0, (rd_T38 l0 x4_1).f1, (rd_T38 l0 x4_1).f2⟩ : S60) (Kd.V_reads' (Kd.V_mono (ok' := (fun k_ => ((fun k_ => (P0_ k_ ∨ w.heap.size ≤ k_))) k_ ∧ some k_ ≠ (u3 : Value).ownBlock)) (HL304_2.out) (fun k_ hk => ⟨hk.1, hk.2⟩))).2.1 (Kd.V_F (Kd.V_mono (ok' := (fun k_ => ((fun k_ => (P0_ k_ ∨ w.heap.size ≤ k_))) k_ ∧ some k_ ≠ (u3 : Value).ownBlock)) (HL304_2.out) (fun k_ hk => ⟨hk.1, hk.2⟩)))))
      (case aB => exact (uL HB.out))
      (case aF => exact (fun k_ hk => (.inr (Nat.le_trans (below_size (uL HB.out)) hk))))
      (case aO => exact (uN HO_3.out))
      (case aS => exact (below_size (uL HB.out)))
      (case aL => have := LMc4.out; omega)
      intro v306 w6 ho hb hg hat
      rw [← Ny305.out] at ho
      have n0_ := mk0 (Kd.V_afterv (ok := (fun k_ => (P0_ k_ ∨ w.heap.size ≤ k_))) (uV HO_0.out) hg hat)
      have n1_ := mk0 (Kd.V_afterv (ok := (fun k_ => (P0_ k_ ∨ w.heap.size ≤ k_))) (uV HL302_2.out) hg hat)
      have n2_ := mk0 (Kd.V_afterv (ok := (fun k_ => (P0_ k_ ∨ w.heap.size ≤ k_))) (uV HL303_2.out) hg hat)
      have n3_ := mk0 (Kd.V_afterv (ok := (fun k_ => (P0_ k_ ∨ w.heap.size ≤ k_))) (uV HL304_2.out) hg hat)
      have n4_ := mk0 (hb)
      have n5_ := mk0 (ho)
      clear HO_0
      clear HL302_2
      clear HL303_2
      clear HL304_2
      clear HB
      clear HO_3
      have HO_0 := n0_
      have HL302_2 := n1_
      have HL303_2 := n2_
      have HL304_2 := n3_
      have HB := n4_
      have HO307 := n5_
      clear n0_ n1_ n2_ n3_ n4_ n5_
      clear ho hb hg hat
      refine hK.out _ _ ?_
      clear hK K
      refine norm_ (a' := ?_) ?_ ?_
      rotate_left
      ·show Act.put _ (some 29) _ = _
       simp only [Act.put, List.setIfInBounds_toArray, List.set_cons_zero, List.set_cons_succ, i64_w, i32_w]
       rfl
      refine pure_ (i := 19) (N := some 3) (v := ?_) (a' := ?_) #[true, true, true, true, true, true, true, true, true, true, true, true, true, true, true, true, true, true, true, true] rfl rfl (any_of HT_.out (by kernel_rfl)) (fun _ _ _ h => h) (Or.inl ⟨by rfl, ?_⟩) ?_ ?_
      rotate_left
      ·intro w'
       go_simp
       with_reducible rfl
      rotate_left
      ·simp only [Act.put, List.setIfInBounds_toArray, List.set_cons_zero, List.set_cons_succ, i64_w, i32_w]
       rfl
      refine done_ (done_of HT_.out (by kernel_rfl)) ?_
      try go_wp2
      go_roundg k1
      case measure => have := HK1.out; omega
      case rel => exact ⟨(y305), (wrap64 (x4_1 + 1)), (by first | rfl | (simp; done) | (simp [*]; done) | (simp [bne_nil_, beq_nil_]; done)), H', ⟨by have := HK1.out; omega⟩, ⟨uV HO_0.out⟩, ⟨uN HO307.out⟩, ⟨uL HB.out⟩⟩
     ·rw [if_neg c4] at H
      exact absurd H (by simp)
    ·rw [if_neg c3] at H
     exact absurd H (by simp)
   ·rw [if_neg c2] at H
    have c2b0 : decide (x4_1 < (l0.length : Int)) = false := decide_eq_false c2
    clear c2
    obtain rfl := Option.some.inj H
    go_wp2
    go_ret
    exact ⟨_, by first | rfl | (simp [errW_none, errW_some] <;> rfl) | (simp [*, errW_none, errW_some] <;> rfl), uN HO_3.out, uL HB.out⟩

/-! ### furrowref4_At: function 30 -/
def furrowref4_At.f (a0 : ByteArray) (a1 : Int) (a2 : Int) : Option ((List (S67)) × Int) := some ((([(⟨a0, a1⟩ : S67)] : List (S67))), a2)
set_option maxHeartbeats 8000000 in
set_option maxRecDepth 100000 in
theorem furrowref4_At.calls (a0 : ByteArray) (a1 : Int) (a2 : Int) (r1 : List (S67)) (r2 : Int) (w : World) (h : furrowref4_At.f a0 a1 a2 = some (r1, r2)) :
  Calls Tryd.prog 30 #[.string a0, .int .i64 a1, .int .i64 a2] w fun e w' => ∃ v0_ : Value, e = .returned (.agg #[v0_, .int .i64 r2]) ∧ Kd.R k67 67 w' w.heap.size (fun _ => True) v0_ r1 ∧ Below w.heap.size w w' := by
 have hu43 := Tryd.underlying43
 have hu67 := Tryd.underlying67
 have HB := mk0 (Below.refl w.heap.size w)
 have H : (some ((([(⟨a0, a1⟩ : S67)] : List (S67))), a2)) = some (r1, r2) := h
 clear h
 obtain ⟨y309, hy309⟩ : ∃ y_ : List (S67), y_ = (([(⟨a0, a1⟩ : S67)] : List (S67))) := ⟨_, rfl⟩
 replace H : (some (y309, a2)) = some (r1, r2) := by first | (rw [hy309]; with_reducible exact H) | (have H2_ := (Option.bind_some _ _).symm.trans H; rw [hy309]; with_reducible exact H2_) | (have H2_ := (Option.bind_some _ _).symm.trans H; with_reducible exact H2_) | with_reducible exact H | (rw [hy309]; exact H) | exact H
 have Ny309 := mk0 hy309
 clear hy309
 simp only [Option.some.injEq, Prod.mk.injEq] at H
 obtain ⟨rfl, rfl⟩ := H
 go_enter Tryd.func30, Tryd.ntmps30
 go_wp2_with (first | ((with_reducible refine gate_dst (N := 6) rfl ?_); refine box_event ?hg (N := 6) ?hd (cs := #[.slice none 0 0, .int .i64 0]) (t := 43) ?hr ?_; (case hd => rfl); (case hg => rfl); (case hr => first | (go_simp; done) | (go_simp; rfl)); intro gb308 hg w4 hbox hb; have n0_ := mk0 (below_step (uL HB.out) hb); have n1_ := mk0 (hbox); have n2_ := mk0 ((by rw [hg]; exact (below_size (uL HB.out)) : w.heap.size ≤ gb308)); have n3_ := mk0 ((by rw [hg]; exact (below_size (uL HB.out)) : w.heap.size ≤ gb308)); clear HB; have HB := n0_; have BK308 := n1_; have GW308 := n2_; have GE308 := n3_; clear n0_ n1_ n2_ n3_; clear hb hbox hg) | ((with_reducible refine gate_dst (N := 10) rfl ?_); refine Kd.R_lit k67 _ 67 ?hg (N := 10) ?hd (xs := ([(⟨a0, a1⟩ : S67)] : List (S67))) (inner := [.string a0, .int .i64 a1]) (ok := fun _ => True) (okp := fun _ => True) ?hr ?hp (fun _ hk => hk) trivial (Below.refl _ _) (Nat.le_refl _) (by simp) ?_; (case hd => rfl); (case hg => rfl); (case hr => first | (go_simp; done) | (go_simp; rfl)); (case hp => exact (Reps.c2 (show Kd.M k67 _ _ _ (⟨a0, a1⟩ : S67) [.string a0, .int .i64 a1] from (k67_mkM _ _ _ (⟨a0, a1⟩ : S67) )) (Reps.none _ _))); intro v310 w5 ho6 hb hg_ hnew_; clear hg_ hnew_; (first | rw [← Ny309.out] at ho6 | (simp only [Int.reduceToNat] at ho6; rw [← Ny309.out] at ho6)); have n0_ := mk0 (Kd.R_lower ho6 (below_size (by repeat (first | (with_reducible first | exact HB.out | apply bA | apply bN | apply bD | refine bS ?_ (by assumption)) | exact HB.out)))); have n1_ := mk0 (blk_below (g := gb308) (o := .cells #[.slice none 0 0, .int .i64 0] 43 (0, 0)) (uB BK308.out) hb); have n2_ := mk0 (below_step (by repeat (first | (with_reducible first | exact HB.out | apply bA | apply bN | apply bD | refine bS ?_ (by assumption)) | exact HB.out)) hb); clear BK308; clear HB; have HO311 := n0_; have BK308 := n1_; have HB := n2_; clear n0_ n1_ n2_; clear hb ho6; obtain ⟨Ao7, co7, eo7⟩ := Kd.R_slice HO311.out; subst eo7; have hcz8_0 : w5.cell? ⟨gb308, 0, none⟩ = some (.slice none 0 0) := (blk_cell BK308.out 0).trans rfl; have hcz8_1 : w5.cell? ⟨gb308, 1, none⟩ = some (.int .i64 0) := (blk_cell BK308.out 1).trans rfl; have hfz8_0 := blk_frozen BK308.out 0; have hfz8_1 := blk_frozen BK308.out 1))
 refine bodyPost_ret (results_cell_row rfl _ _ gb308 43 #[.slice Ao7 y309.length co7, .int .i64 a2] (0, 0) _ rfl (by (with_reducible repeat (first | refine blk_drewN ?_ _ | refine blk_drew ?_ | refine blk_alloc ?_ _)); refine blk_put (cs := #[.slice Ao7 y309.length co7, .int .i64 0]) ?_ 1 _ rfl; (with_reducible repeat (first | refine blk_drewN ?_ _ | refine blk_drew ?_ | refine blk_alloc ?_ _)); refine blk_put (cs := #[.slice none 0 0, .int .i64 0]) ?_ 0 _ rfl; (with_reducible repeat (first | refine blk_drewN ?_ _ | refine blk_drew ?_ | refine blk_alloc ?_ _)); exact BK308.out) Tryd.underlying43 rfl (by kernel_rfl)) rfl ?_
 exact ⟨_, by first | rfl | (simp [errW_none, errW_some] <;> rfl) | (simp [*, errW_none, errW_some] <;> rfl), uR (Kd.R_mono (Kd.R_far (p := ⟨gb308, 1, none⟩) (Kd.R_far (p := ⟨gb308, 0, none⟩) (Kd.R_types HO311.out BK308.out (by decide)) (fun _ hk => hk.2) (.slice Ao7 y309.length co7)) (fun _ hk => hk.2) (.int .i64 a2)) (fun _ hk => trivial)), by repeat (first | (with_reducible first | exact HB.out | apply bA | apply bN | apply bD | refine bS ?_ (by assumption)) | exact HB.out)⟩

end Go.Proofs.YteeeoblpfepepaaDoor.X
