-- PRINTED by print.py (a twelfth state) out of the translation. Not trusted: Lean checks it.
import Derived.Test.YteeeoblpfepepaaDoorXx0
import Derived.Test.YteeeoblpfepepaaDoorXx1
namespace Go.Proofs.YteeeoblpfepepaaDoor.X
open Go.Proofs.YteeeoblpfepepaaDoor.Flt Go.Proofs.YteeeoblpfepepaaDoor.H Go.RowKit Go.Proofs.YteeeoblpfepepaaDoorW.PrintWords Go.Proofs.YteeeoblpfepepaaDoorW.PrintLast Go.Proofs.YteeeoblpfepepaaDoorW.PrintMore
attribute [local go_sem] max2_int min2_int max_two min_two max_three min_three max_four min_four   -- for this text's walks alone
set_option linter.unusedVariables false
set_option linter.unusedSimpArgs false

/-! ### furrowref4_Diff: function 17 -/
mutual
def furrowref4_Diff.j1 : Nat → List ByteArray → List ByteArray → Int → Option ((List (S60)))
 | 0, _, _, _ => none
 | k + 1, x0, x1, x5 => furrowref4_Diff.l1 k x0 x1 x5 0
def furrowref4_Diff.l1 : Nat → List ByteArray → List ByteArray → Int → Int → Option ((List (S60)))
 | 0, _, _, _, _ => none
 | k + 1, x0, x1, x5, x6 => if x6 < (wrap64 ((x0.length : Int) - x5)) then (if x6 < (wrap64 ((x1.length : Int) - x5)) then (if 0 ≤ (wrap64 ((wrap64 ((x0.length : Int) - 1)) - x6)) then (if (wrap64 ((wrap64 ((x0.length : Int) - 1)) - x6)) < (x0.length : Int) then (if 0 ≤ (wrap64 ((wrap64 ((x1.length : Int) - 1)) - x6)) then (if (wrap64 ((wrap64 ((x1.length : Int) - 1)) - x6)) < (x1.length : Int) then (if (rdOf ByteArray.empty x0 (wrap64 ((wrap64 ((x0.length : Int) - 1)) - x6))).toList = (rdOf ByteArray.empty x1 (wrap64 ((wrap64 ((x1.length : Int) - 1)) - x6))).toList then (furrowref4_Diff.l1 k x0 x1 x5 (wrap64 (x6 + 1))) else ((some (([] : List ByteArray) : List ByteArray)).bind fun y248 => (if 0 ≤ x5 then (if x5 ≤ (wrap64 ((x1.length : Int) - x6)) then (if (wrap64 ((x1.length : Int) - x6)) ≤ (x1.length : Int) then (if y248.length + ((x1.take ((wrap64 ((x1.length : Int) - x6)) : Int).toNat).drop (x5 : Int).toNat).length < 8796093022208 then (some (([(⟨x5, wrap64 ((x0.length : Int) - x6), (y248 ++ ((x1.take ((wrap64 ((x1.length : Int) - x6)) : Int).toNat).drop (x5 : Int).toNat))⟩ : S60)] : List (S60)))) else (none)) else (none)) else (none)) else (none)))) else (none)) else (none)) else (none)) else (none)) else ((some (([] : List ByteArray) : List ByteArray)).bind fun y258 => (if 0 ≤ x5 then (if x5 ≤ (wrap64 ((x1.length : Int) - x6)) then (if (wrap64 ((x1.length : Int) - x6)) ≤ (x1.length : Int) then (if y258.length + ((x1.take ((wrap64 ((x1.length : Int) - x6)) : Int).toNat).drop (x5 : Int).toNat).length < 8796093022208 then (some (([(⟨x5, wrap64 ((x0.length : Int) - x6), (y258 ++ ((x1.take ((wrap64 ((x1.length : Int) - x6)) : Int).toNat).drop (x5 : Int).toNat))⟩ : S60)] : List (S60)))) else (none)) else (none)) else (none)) else (none)))) else ((some (([] : List ByteArray) : List ByteArray)).bind fun y268 => (if 0 ≤ x5 then (if x5 ≤ (wrap64 ((x1.length : Int) - x6)) then (if (wrap64 ((x1.length : Int) - x6)) ≤ (x1.length : Int) then (if y268.length + ((x1.take ((wrap64 ((x1.length : Int) - x6)) : Int).toNat).drop (x5 : Int).toNat).length < 8796093022208 then (some (([(⟨x5, wrap64 ((x0.length : Int) - x6), (y268 ++ ((x1.take ((wrap64 ((x1.length : Int) - x6)) : Int).toNat).drop (x5 : Int).toNat))⟩ : S60)] : List (S60)))) else (none)) else (none)) else (none)) else (none)))
def furrowref4_Diff.l0 : Nat → List ByteArray → List ByteArray → Int → Option ((List (S60)))
 | 0, _, _, _ => none
 | k + 1, x0, x1, x5 => if x5 < (x0.length : Int) then (if x5 < (x1.length : Int) then (if 0 ≤ x5 then (if (rdOf ByteArray.empty x0 x5).toList = (rdOf ByteArray.empty x1 x5).toList then (furrowref4_Diff.l0 k x0 x1 (wrap64 (x5 + 1))) else (furrowref4_Diff.j1 k x0 x1 x5)) else (none)) else (furrowref4_Diff.j1 k x0 x1 x5)) else (furrowref4_Diff.j1 k x0 x1 x5)
end
def furrowref4_Diff.f (k : Nat) (l0 : List ByteArray) (l1 : List ByteArray) : Option ((List (S60))) := (furrowref4_SameLines.f k l0 l1).bind fun t243 => (if t243 = true then (some ([] : List (S60))) else (furrowref4_Diff.l0 k l0 l1 0))
theorem furrowref4_Diff.mono_l : ∀ k, (∀ y0 y1 y2, LeO (furrowref4_Diff.j1 k y0 y1 y2) (furrowref4_Diff.j1 (k + 1) y0 y1 y2)) ∧ (∀ y0 y1 y2 y3, LeO (furrowref4_Diff.l1 k y0 y1 y2 y3) (furrowref4_Diff.l1 (k + 1) y0 y1 y2 y3)) ∧ (∀ y0 y1 y2, LeO (furrowref4_Diff.l0 k y0 y1 y2) (furrowref4_Diff.l0 (k + 1) y0 y1 y2))
 | 0 => ⟨fun _ _ _ r h => by simp [furrowref4_Diff.j1] at h, fun _ _ _ _ r h => by simp [furrowref4_Diff.l1] at h, fun _ _ _ r h => by simp [furrowref4_Diff.l0] at h⟩
 | k + 1 => by
  obtain ⟨ih0, ih1, ih2⟩ := furrowref4_Diff.mono_l k
  refine ⟨?_, ?_, ?_⟩
  ·intro y0 y1 y2
   unfold furrowref4_Diff.j1
   repeat' first
   | (with_reducible exact ih0 _ _ _)
   | (with_reducible exact ih1 _ _ _ _)
   | (with_reducible exact ih2 _ _ _)
   | (with_reducible exact furrowref4_SameLines.mono _ _ _)
   | (with_reducible exact LeO.refl _)
   | (with_reducible exact LeO.none _)
   | (with_reducible refine LeO.ite ?_ ?_)
   | (with_reducible refine LeO.bind ?_ (fun _ => ?_))
   | exact ih0 _ _ _
   | exact ih1 _ _ _ _
   | exact ih2 _ _ _
   | exact furrowref4_SameLines.mono _ _ _
   | exact LeO.none _
   | refine LeO.ite ?_ ?_
   | refine LeO.bind ?_ (fun _ => ?_)
  ·intro y0 y1 y2 y3
   unfold furrowref4_Diff.l1
   repeat' first
   | (with_reducible exact ih0 _ _ _)
   | (with_reducible exact ih1 _ _ _ _)
   | (with_reducible exact ih2 _ _ _)
   | (with_reducible exact furrowref4_SameLines.mono _ _ _)
   | (with_reducible exact LeO.refl _)
   | (with_reducible exact LeO.none _)
   | (with_reducible refine LeO.ite ?_ ?_)
   | (with_reducible refine LeO.bind ?_ (fun _ => ?_))
   | exact ih0 _ _ _
   | exact ih1 _ _ _ _
   | exact ih2 _ _ _
   | exact furrowref4_SameLines.mono _ _ _
   | exact LeO.none _
   | refine LeO.ite ?_ ?_
   | refine LeO.bind ?_ (fun _ => ?_)
  ·intro y0 y1 y2
   unfold furrowref4_Diff.l0
   repeat' first
   | (with_reducible exact ih0 _ _ _)
   | (with_reducible exact ih1 _ _ _ _)
   | (with_reducible exact ih2 _ _ _)
   | (with_reducible exact furrowref4_SameLines.mono _ _ _)
   | (with_reducible exact LeO.refl _)
   | (with_reducible exact LeO.none _)
   | (with_reducible refine LeO.ite ?_ ?_)
   | (with_reducible refine LeO.bind ?_ (fun _ => ?_))
   | exact ih0 _ _ _
   | exact ih1 _ _ _ _
   | exact ih2 _ _ _
   | exact furrowref4_SameLines.mono _ _ _
   | exact LeO.none _
   | refine LeO.ite ?_ ?_
   | refine LeO.bind ?_ (fun _ => ?_)
theorem furrowref4_Diff.mono : ∀ a0 a1 k, LeO (furrowref4_Diff.f k a0 a1) (furrowref4_Diff.f (k + 1) a0 a1) := by
 intro a0 a1 k
 obtain ⟨ih0, ih1, ih2⟩ := furrowref4_Diff.mono_l k
 unfold furrowref4_Diff.f
 repeat' first
   | (with_reducible exact ih0 _ _ _)
   | (with_reducible exact ih1 _ _ _ _)
   | (with_reducible exact ih2 _ _ _)
   | (with_reducible exact furrowref4_SameLines.mono _ _ _)
   | (with_reducible exact LeO.refl _)
   | (with_reducible exact LeO.none _)
   | (with_reducible refine LeO.ite ?_ ?_)
   | (with_reducible refine LeO.bind ?_ (fun _ => ?_))
   | exact ih0 _ _ _
   | exact ih1 _ _ _ _
   | exact ih2 _ _ _
   | exact furrowref4_SameLines.mono _ _ _
   | exact LeO.none _
   | refine LeO.ite ?_ ?_
   | refine LeO.bind ?_ (fun _ => ?_)
set_option maxHeartbeats 8000000 in
set_option maxRecDepth 100000 in
theorem furrowref4_Diff.calls (k : Nat) (A0 : Option Addr) (c0 : Nat) (l0 : List ByteArray) (A1 : Option Addr) (c1 : Nat) (l1 : List ByteArray) (r : List (S60)) (w : World) (hr0 : Kd.C Kd.string w A0 l0.length l0) (hc0 : l0.length ≤ c0) (hr1 : Kd.C Kd.string w A1 l1.length l1) (hc1 : l1.length ≤ c1) (h : furrowref4_Diff.f k l0 l1 = some r) :
  Calls Tryd.prog 17 #[.slice A0 l0.length c0, .slice A1 l1.length c1] w fun e w' => ∃ v0_ : Value, e = .returned (v0_) ∧ Kd.N k60 60 w' w.heap.size (fun k_ => (w.heap.size ≤ k_)) v0_ r ∧ Below w.heap.size w w' := by
 have hu60 := Tryd.underlying60
 have HR0 := mk0 hr0
 have HC0 := mk0 hc0
 clear hr0 hc0
 have HR1 := mk0 hr1
 have HC1 := mk0 hc1
 clear hr1 hc1
 have HB := mk0 (Below.refl w.heap.size w)
 have H : ((furrowref4_SameLines.f k l0 l1).bind fun t243 => (if t243 = true then (some ([] : List (S60))) else (furrowref4_Diff.l0 k l0 l1 0))) = some r := h
 clear h
 replace H := Option.bind_eq_some_iff.mp H
 obtain ⟨t243, A30, H⟩ := H
 replace H : (if t243 = true then (some ([] : List (S60))) else (furrowref4_Diff.l0 k l0 l1 0)) = some r := H
 have A3 := mk0 A30
 clear A30
 by_cases c4 : t243 = true
 ·subst c4
  have H1 : (some ([] : List (S60))) = some r := by rw [if_pos rfl] at H; exact H
  clear H
  have H := H1
  clear H1
  obtain rfl := Option.some.inj H
  go_enter Tryd.func17, Tryd.ntmps17
  go_wp2_with (first | (go_at_call 14; (with_reducible refine (furrowref4_SameLines.calls k _ _ l0 _ _ l1 true _ ?side1 ?side2 ?side3 ?side4 A3.out).mono ?_); (case side1 => repeat (first | exact HR0.out | (with_reducible refine Kd.C_alloc ?_ _) | (with_reducible refine Kd.C_drewN ?_ _) | (with_reducible refine Kd.C_drew ?_))); (case side2 => exact HC0.out); (case side3 => repeat (first | exact HR1.out | (with_reducible refine Kd.C_alloc ?_ _) | (with_reducible refine Kd.C_drewN ?_ _) | (with_reducible refine Kd.C_drew ?_))); (case side4 => exact HC1.out); rintro e w' ⟨rfl, ⟨nd, rfl⟩⟩; (try first | exact ⟨rfl, _, World.drewN_drewN _ _ _⟩ | exact ⟨rfl, _, Eq.trans (World.drewN_drewN _ _ _) (congrArg (World.drewN _) (Nat.add_assoc _ _ _))⟩)))
  repeat (go_quiet (first | (go_at_call 14; (with_reducible refine (furrowref4_SameLines.calls k _ _ l0 _ _ l1 true _ ?side1 ?side2 ?side3 ?side4 A3.out).mono ?_); (case side1 => repeat (first | exact HR0.out | (with_reducible refine Kd.C_alloc ?_ _) | (with_reducible refine Kd.C_drewN ?_ _) | (with_reducible refine Kd.C_drew ?_))); (case side2 => exact HC0.out); (case side3 => repeat (first | exact HR1.out | (with_reducible refine Kd.C_alloc ?_ _) | (with_reducible refine Kd.C_drewN ?_ _) | (with_reducible refine Kd.C_drew ?_))); (case side4 => exact HC1.out); rintro e w' ⟨rfl, ⟨nd, rfl⟩⟩; (try first | exact ⟨rfl, _, World.drewN_drewN _ _ _⟩ | exact ⟨rfl, _, Eq.trans (World.drewN_drewN _ _ _) (congrArg (World.drewN _) (Nat.add_assoc _ _ _))⟩))); try go_wp2_with (first | (go_at_call 14; (with_reducible refine (furrowref4_SameLines.calls k _ _ l0 _ _ l1 true _ ?side1 ?side2 ?side3 ?side4 A3.out).mono ?_); (case side1 => repeat (first | exact HR0.out | (with_reducible refine Kd.C_alloc ?_ _) | (with_reducible refine Kd.C_drewN ?_ _) | (with_reducible refine Kd.C_drew ?_))); (case side2 => exact HC0.out); (case side3 => repeat (first | exact HR1.out | (with_reducible refine Kd.C_alloc ?_ _) | (with_reducible refine Kd.C_drewN ?_ _) | (with_reducible refine Kd.C_drew ?_))); (case side4 => exact HC1.out); rintro e w' ⟨rfl, ⟨nd, rfl⟩⟩; (try first | exact ⟨rfl, _, World.drewN_drewN _ _ _⟩ | exact ⟨rfl, _, Eq.trans (World.drewN_drewN _ _ _) (congrArg (World.drewN _) (Nat.add_assoc _ _ _))⟩))))
  go_ret
  exact ⟨_, by first | rfl | (simp [errW_none, errW_some] <;> rfl) | (simp [*, errW_none, errW_some] <;> rfl), by first | exact Kd.S_nil _ _ _ _ _ | exact Kd.N_nil _ _ _ _ _ | exact Kd.V_nil _ _ _ _ _ | exact Kd.Q_nil _ _ _ _ _ | exact Kd.R_nil _ _ _ _ _, uL HB.out⟩
 ·replace c4 := Bool.eq_false_iff.mpr c4
  subst c4
  have H1 : (furrowref4_Diff.l0 k l0 l1 0) = some r := by rw [if_neg (show ¬ (false = true) by decide)] at H; exact H
  clear H
  have H := H1
  clear H1
  have HC5 := mk0 H
  clear H
  go_enter Tryd.func17, Tryd.ntmps17
  go_upto_block 0 with (first | (go_at_call 14; (with_reducible refine (furrowref4_SameLines.calls k _ _ l0 _ _ l1 false _ ?side1 ?side2 ?side3 ?side4 A3.out).mono ?_); (case side1 => repeat (first | exact HR0.out | (with_reducible refine Kd.C_alloc ?_ _) | (with_reducible refine Kd.C_drewN ?_ _) | (with_reducible refine Kd.C_drew ?_))); (case side2 => exact HC0.out); (case side3 => repeat (first | exact HR1.out | (with_reducible refine Kd.C_alloc ?_ _) | (with_reducible refine Kd.C_drewN ?_ _) | (with_reducible refine Kd.C_drew ?_))); (case side4 => exact HC1.out); rintro e w' ⟨rfl, ⟨nd, rfl⟩⟩; (try first | exact ⟨rfl, _, World.drewN_drewN _ _ _⟩ | exact ⟨rfl, _, Eq.trans (World.drewN_drewN _ _ _) (congrArg (World.drewN _) (Nat.add_assoc _ _ _))⟩)))
  repeat (go_quiet (first | (go_at_call 14; (with_reducible refine (furrowref4_SameLines.calls k _ _ l0 _ _ l1 false _ ?side1 ?side2 ?side3 ?side4 A3.out).mono ?_); (case side1 => repeat (first | exact HR0.out | (with_reducible refine Kd.C_alloc ?_ _) | (with_reducible refine Kd.C_drewN ?_ _) | (with_reducible refine Kd.C_drew ?_))); (case side2 => exact HC0.out); (case side3 => repeat (first | exact HR1.out | (with_reducible refine Kd.C_alloc ?_ _) | (with_reducible refine Kd.C_drewN ?_ _) | (with_reducible refine Kd.C_drew ?_))); (case side4 => exact HC1.out); rintro e w' ⟨rfl, ⟨nd, rfl⟩⟩; (try first | exact ⟨rfl, _, World.drewN_drewN _ _ _⟩ | exact ⟨rfl, _, Eq.trans (World.drewN_drewN _ _ _) (congrArg (World.drewN _) (Nat.add_assoc _ _ _))⟩))); go_upto_block 0 with (first | (go_at_call 14; (with_reducible refine (furrowref4_SameLines.calls k _ _ l0 _ _ l1 false _ ?side1 ?side2 ?side3 ?side4 A3.out).mono ?_); (case side1 => repeat (first | exact HR0.out | (with_reducible refine Kd.C_alloc ?_ _) | (with_reducible refine Kd.C_drewN ?_ _) | (with_reducible refine Kd.C_drew ?_))); (case side2 => exact HC0.out); (case side3 => repeat (first | exact HR1.out | (with_reducible refine Kd.C_alloc ?_ _) | (with_reducible refine Kd.C_drewN ?_ _) | (with_reducible refine Kd.C_drew ?_))); (case side4 => exact HC1.out); rintro e w' ⟨rfl, ⟨nd, rfl⟩⟩; (try first | exact ⟨rfl, _, World.drewN_drewN _ _ _⟩ | exact ⟨rfl, _, Eq.trans (World.drewN_drewN _ _ _) (congrArg (World.drewN _) (Nat.add_assoc _ _ _))⟩))))
  (try simp only [Act.put, List.setIfInBounds_toArray, List.set_cons_zero, List.set_cons_succ])
  go_cut [5] (fun v5 wc => ∃ (kq : Nat) (x5_4 : Int), v5 = .int .i64 x5_4 ∧ Aside0 (furrowref4_Diff.j1 kq l0 l1 x5_4 = some r) ∧ Aside0 (kq ≤ k) ∧ Aside0 (Below w.heap.size w wc))
  case first =>
   have H := HC5.out
   clear HC5
   have H' := mk0 H
   clear H
   go_wp2
   repeat (go_quiet (fail); try go_wp2)
   go_loopg [5] k (fun kq v5 w' => ∃ (x5_1 : Int), v5 = .int .i64 x5_1 ∧ Aside0 (furrowref4_Diff.l0 kq l0 l1 x5_1 = some r) ∧ Aside0 (kq ≤ k) ∧ Aside0 (Below w.heap.size w w'))
   case atStart => exact ⟨(0), (by first | rfl | (simp; done) | (simp [*]; done) | (simp [bne_nil_, beq_nil_]; done)), H', ⟨Nat.le_refl _⟩, ⟨uL HB.out⟩⟩
   case round =>
    clear H'
    try clear c1
    try clear p2
    try clear c4
    obtain ⟨x5_1, rfl, HA, HK1, HB⟩ := hrel
    cases gk with
    | zero => exact absurd HA.out (by simp [furrowref4_Diff.l0])
    | succ k1 =>
     have H := HA.out
     clear HA
     simp only [furrowref4_Diff.l0] at H
     by_cases c6 : x5_1 < (l0.length : Int)
     ·rw [if_pos c6] at H
      have c6b0 : decide (x5_1 < (l0.length : Int)) = true := decide_eq_true c6
      clear c6
      (first | rw [c6b0] | (simp only [i64_w, i32_w]; rw [c6b0]) | skip)
      by_cases c7 : x5_1 < (l1.length : Int)
      ·rw [if_pos c7] at H
       have c7b0 : decide (x5_1 < (l1.length : Int)) = true := decide_eq_true c7
       clear c7
       by_cases c8 : 0 ≤ x5_1
       ·rw [if_pos c8] at H
        have c8b0 : decide (0 ≤ x5_1) = true := decide_eq_true c8
        clear c8
        by_cases c9 : (rdOf ByteArray.empty l0 x5_1).toList = (rdOf ByteArray.empty l1 x5_1).toList
        ·rw [if_pos c9] at H
         have c9b0 : ((rdOf ByteArray.empty l0 x5_1).toList == (rdOf ByteArray.empty l1 x5_1).toList) = true := beq_iff_eq.mpr c9
         have c9b1 : ((rdOf ByteArray.empty l0 x5_1).toList != (rdOf ByteArray.empty l1 x5_1).toList) = false := bne_eq_false_iff_eq.mpr c9
         clear c9
         have H' := mk0 H
         clear H
         have p244 : 0 ≤ (x5_1 : Int) := of_decide_eq_true (by first | (with_reducible assumption) | assumption)
         have q244 : x5_1 < (l0.length : Int) := of_decide_eq_true (by first | (with_reducible assumption) | assumption)
         obtain ⟨ad244, e244, hx244_0⟩ := Kd.at_string HR0.out x5_1 p244 q244
         cases e244
         replace hx244_0 := (HB.out.cell (World.block_lt_of_cell? w _ hx244_0)).trans hx244_0
         replace p244 := eq_true p244
         replace q244 := eq_true q244
         have p245 : 0 ≤ (x5_1 : Int) := of_decide_eq_true (by first | (with_reducible assumption) | assumption)
         have q245 : x5_1 < (l1.length : Int) := of_decide_eq_true (by first | (with_reducible assumption) | assumption)
         obtain ⟨ad245, e245, hx245_0⟩ := Kd.at_string HR1.out x5_1 p245 q245
         cases e245
         replace hx245_0 := (HB.out.cell (World.block_lt_of_cell? w _ hx245_0)).trans hx245_0
         replace p245 := eq_true p245
         replace q245 := eq_true q245
         go_wp2
         repeat (go_quiet (fail); try go_wp2)
         go_roundg k1
         case measure => have := HK1.out; omega
         case rel => exact ⟨(wrap64 (x5_1 + 1)), (by first | rfl | (simp; done) | (simp [*]; done) | (simp [bne_nil_, beq_nil_]; done)), H', ⟨by have := HK1.out; omega⟩, ⟨uL HB.out⟩⟩
        ·rw [if_neg c9] at H
         have c9b0 : ((rdOf ByteArray.empty l0 x5_1).toList == (rdOf ByteArray.empty l1 x5_1).toList) = false := beq_eq_false_iff_ne.mpr c9
         have c9b1 : ((rdOf ByteArray.empty l0 x5_1).toList != (rdOf ByteArray.empty l1 x5_1).toList) = true := bne_iff_ne.mpr c9
         have H' := mk0 H
         clear H
         have p244 : 0 ≤ (x5_1 : Int) := of_decide_eq_true (by first | (with_reducible assumption) | assumption)
         have q244 : x5_1 < (l0.length : Int) := of_decide_eq_true (by first | (with_reducible assumption) | assumption)
         obtain ⟨ad244, e244, hx244_0⟩ := Kd.at_string HR0.out x5_1 p244 q244
         cases e244
         replace hx244_0 := (HB.out.cell (World.block_lt_of_cell? w _ hx244_0)).trans hx244_0
         replace p244 := eq_true p244
         replace q244 := eq_true q244
         have p245 : 0 ≤ (x5_1 : Int) := of_decide_eq_true (by first | (with_reducible assumption) | assumption)
         have q245 : x5_1 < (l1.length : Int) := of_decide_eq_true (by first | (with_reducible assumption) | assumption)
         obtain ⟨ad245, e245, hx245_0⟩ := Kd.at_string HR1.out x5_1 p245 q245
         cases e245
         replace hx245_0 := (HB.out.cell (World.block_lt_of_cell? w _ hx245_0)).trans hx245_0
         replace p245 := eq_true p245
         replace q245 := eq_true q245
         go_wp2
         repeat (go_quiet (fail); try go_wp2)
         go_meet
         case rel => exact ⟨_, (x5_1), (by first | rfl | (simp; done) | (simp [*]; done) | (simp [bne_nil_, beq_nil_]; done)), H', ⟨by have := HK1.out; first | omega | exact Nat.le_refl _⟩, ⟨uL HB.out⟩⟩
       ·rw [if_neg c8] at H
        exact absurd H (by simp)
      ·rw [if_neg c7] at H
       have c7b0 : decide (x5_1 < (l1.length : Int)) = false := decide_eq_false c7
       clear c7
       have H' := mk0 H
       clear H
       go_wp2
       repeat (go_quiet (fail); try go_wp2)
       go_meet
       case rel => exact ⟨_, (x5_1), (by first | rfl | (simp; done) | (simp [*]; done) | (simp [bne_nil_, beq_nil_]; done)), H', ⟨by have := HK1.out; first | omega | exact Nat.le_refl _⟩, ⟨uL HB.out⟩⟩
     ·rw [if_neg c6] at H
      have c6b0 : decide (x5_1 < (l0.length : Int)) = false := decide_eq_false c6
      clear c6
      (first | rw [c6b0] | (simp only [i64_w, i32_w]; rw [c6b0]) | skip)
      have H' := mk0 H
      clear H
      go_wp2
      repeat (go_quiet (fail); try go_wp2)
      go_meet
      case rel => exact ⟨_, (x5_1), (by first | rfl | (simp; done) | (simp [*]; done) | (simp [bne_nil_, beq_nil_]; done)), H', ⟨by have := HK1.out; first | omega | exact Nat.le_refl _⟩, ⟨uL HB.out⟩⟩
  case rest =>
   clear HC5
   try clear c1
   try clear p2
   try clear q2
   try clear hx2
   try clear c4
   try clear c6
   try clear c6b0
   try clear p6
   try clear c7
   try clear c7b0
   try clear c8
   try clear c8b0
   try clear c9
   try clear c9b0
   try clear c9b1
   try clear hx244_0
   try clear hx245_0
   try clear p2
   try clear p244
   try clear p245
   try clear q244
   try clear q245
   obtain ⟨kq, x5_4, rfl, HA, HJ4, HB⟩ := hcut
   cases kq with
   | zero => exact absurd HA.out (by simp [furrowref4_Diff.j1])
   | succ kj4 =>
    have H := HA.out
    clear HA
    simp only [furrowref4_Diff.j1] at H
    have H' := mk0 H
    clear H
    go_wp2
    repeat (go_quiet (fail); try go_wp2)
    go_loopg [6] kj4 (fun kq v6 w' => ∃ (x6_2 : Int), v6 = .int .i64 x6_2 ∧ Aside0 (furrowref4_Diff.l1 kq l0 l1 x5_4 x6_2 = some r) ∧ Aside0 (kq ≤ kj4) ∧ Aside0 (Below w.heap.size w w'))
    case atStart => exact ⟨(0), (by first | rfl | (simp; done) | (simp [*]; done) | (simp [bne_nil_, beq_nil_]; done)), H', ⟨Nat.le_refl _⟩, ⟨uL HB.out⟩⟩
    case round =>
     clear H'
     try clear c1
     try clear p2
     try clear q2
     try clear hx2
     try clear c4
     try clear c6
     try clear c6b0
     try clear p6
     try clear c7
     try clear c7b0
     try clear c8
     try clear c8b0
     try clear c9
     try clear c9b0
     try clear c9b1
     try clear hx244_0
     try clear hx245_0
     try clear p2
     try clear p244
     try clear p245
     try clear p6
     try clear q2
     try clear q244
     try clear q245
     obtain ⟨x6_2, rfl, HA, HK2, HB⟩ := hrel
     cases gk with
     | zero => exact absurd HA.out (by simp [furrowref4_Diff.l1])
     | succ k2 =>
      have H := HA.out
      clear HA
      simp only [furrowref4_Diff.l1] at H
      by_cases c10 : x6_2 < (wrap64 ((l0.length : Int) - x5_4))
      ·rw [if_pos c10] at H
       have c10b0 : decide (x6_2 < (wrap64 ((l0.length : Int) - x5_4))) = true := decide_eq_true c10
       clear c10
       by_cases c11 : x6_2 < (wrap64 ((l1.length : Int) - x5_4))
       ·rw [if_pos c11] at H
        have c11b0 : decide (x6_2 < (wrap64 ((l1.length : Int) - x5_4))) = true := decide_eq_true c11
        clear c11
        obtain ⟨ji12, hji12⟩ : ∃ j_ : Int, (wrap64 ((wrap64 ((l0.length : Int) - 1)) - x6_2)) = j_ := ⟨_, rfl⟩
        replace H : (if 0 ≤ (ji12) then (if (ji12) < (l0.length : Int) then (if 0 ≤ (wrap64 ((wrap64 ((l1.length : Int) - 1)) - x6_2)) then (if (wrap64 ((wrap64 ((l1.length : Int) - 1)) - x6_2)) < (l1.length : Int) then (if (rdOf ByteArray.empty l0 (ji12)).toList = (rdOf ByteArray.empty l1 (wrap64 ((wrap64 ((l1.length : Int) - 1)) - x6_2))).toList then (furrowref4_Diff.l1 k2 l0 l1 x5_4 (wrap64 (x6_2 + 1))) else ((some (([] : List ByteArray) : List ByteArray)).bind fun y248 => (if 0 ≤ x5_4 then (if x5_4 ≤ (wrap64 ((l1.length : Int) - x6_2)) then (if (wrap64 ((l1.length : Int) - x6_2)) ≤ (l1.length : Int) then (if y248.length + ((l1.take ((wrap64 ((l1.length : Int) - x6_2)) : Int).toNat).drop (x5_4 : Int).toNat).length < 8796093022208 then (some (([(⟨x5_4, wrap64 ((l0.length : Int) - x6_2), (y248 ++ ((l1.take ((wrap64 ((l1.length : Int) - x6_2)) : Int).toNat).drop (x5_4 : Int).toNat))⟩ : S60)] : List (S60)))) else (none)) else (none)) else (none)) else (none)))) else (none)) else (none)) else (none)) else (none)) = some r := by first | (rw [hji12] at H; exact H) | (simp only [hji12] at H ⊢; exact H)
        have hji12w : (IntKind.i64.wrap ((wrap64 ((l0.length : Int) - 1)) - x6_2)) = ji12 := (i64_w _).trans hji12
        by_cases c13 : 0 ≤ (ji12)
        ·rw [if_pos c13] at H
         have c13b0 : decide (0 ≤ (ji12)) = true := decide_eq_true c13
         clear c13
         by_cases c14 : (ji12) < (l0.length : Int)
         ·rw [if_pos c14] at H
          have c14b0 : decide ((ji12) < (l0.length : Int)) = true := decide_eq_true c14
          clear c14
          obtain ⟨ji15, hji15⟩ : ∃ j_ : Int, (wrap64 ((wrap64 ((l1.length : Int) - 1)) - x6_2)) = j_ := ⟨_, rfl⟩
          replace H : (if 0 ≤ (ji15) then (if (ji15) < (l1.length : Int) then (if (rdOf ByteArray.empty l0 (ji12)).toList = (rdOf ByteArray.empty l1 (ji15)).toList then (furrowref4_Diff.l1 k2 l0 l1 x5_4 (wrap64 (x6_2 + 1))) else ((some (([] : List ByteArray) : List ByteArray)).bind fun y248 => (if 0 ≤ x5_4 then (if x5_4 ≤ (wrap64 ((l1.length : Int) - x6_2)) then (if (wrap64 ((l1.length : Int) - x6_2)) ≤ (l1.length : Int) then (if y248.length + ((l1.take ((wrap64 ((l1.length : Int) - x6_2)) : Int).toNat).drop (x5_4 : Int).toNat).length < 8796093022208 then (some (([(⟨x5_4, wrap64 ((l0.length : Int) - x6_2), (y248 ++ ((l1.take ((wrap64 ((l1.length : Int) - x6_2)) : Int).toNat).drop (x5_4 : Int).toNat))⟩ : S60)] : List (S60)))) else (none)) else (none)) else (none)) else (none)))) else (none)) else (none)) = some r := by first | (rw [hji15] at H; exact H) | (simp only [hji15] at H ⊢; exact H)
          have hji15w : (IntKind.i64.wrap ((wrap64 ((l1.length : Int) - 1)) - x6_2)) = ji15 := (i64_w _).trans hji15
          by_cases c16 : 0 ≤ (ji15)
          ·rw [if_pos c16] at H
           have c16b0 : decide (0 ≤ (ji15)) = true := decide_eq_true c16
           clear c16
           by_cases c17 : (ji15) < (l1.length : Int)
           ·rw [if_pos c17] at H
            have c17b0 : decide ((ji15) < (l1.length : Int)) = true := decide_eq_true c17
            clear c17
            by_cases c18 : (rdOf ByteArray.empty l0 (ji12)).toList = (rdOf ByteArray.empty l1 (ji15)).toList
            ·rw [if_pos c18] at H
             have c18b0 : ((rdOf ByteArray.empty l0 (ji12)).toList == (rdOf ByteArray.empty l1 (ji15)).toList) = true := beq_iff_eq.mpr c18
             have c18b1 : ((rdOf ByteArray.empty l0 (ji12)).toList != (rdOf ByteArray.empty l1 (ji15)).toList) = false := bne_eq_false_iff_eq.mpr c18
             clear c18
             have H' := mk0 H
             clear H
             have p246 : 0 ≤ ((ji12) : Int) := of_decide_eq_true (by first | (with_reducible assumption) | assumption)
             have q246 : (ji12) < (l0.length : Int) := of_decide_eq_true (by first | (with_reducible assumption) | assumption)
             obtain ⟨ad246, e246, hx246_0⟩ := Kd.at_string HR0.out (ji12) p246 q246
             cases e246
             replace hx246_0 := (HB.out.cell (World.block_lt_of_cell? w _ hx246_0)).trans hx246_0
             replace p246 := eq_true p246
             replace q246 := eq_true q246
             have p247 : 0 ≤ ((ji15) : Int) := of_decide_eq_true (by first | (with_reducible assumption) | assumption)
             have q247 : (ji15) < (l1.length : Int) := of_decide_eq_true (by first | (with_reducible assumption) | assumption)
             obtain ⟨ad247, e247, hx247_0⟩ := Kd.at_string HR1.out (ji15) p247 q247
             cases e247
             replace hx247_0 := (HB.out.cell (World.block_lt_of_cell? w _ hx247_0)).trans hx247_0
             replace p247 := eq_true p247
             replace q247 := eq_true q247
             go_wp2
             repeat (go_quiet (fail); try go_wp2)
             go_roundg k2
             case measure => have := HJ4.out; have := HK2.out; omega
             case rel => exact ⟨(wrap64 (x6_2 + 1)), (by first | rfl | (simp; done) | (simp [*]; done) | (simp [bne_nil_, beq_nil_]; done)), H', ⟨by have := HJ4.out; have := HK2.out; omega⟩, ⟨uL HB.out⟩⟩
            ·rw [if_neg c18] at H
             have c18b0 : ((rdOf ByteArray.empty l0 (ji12)).toList == (rdOf ByteArray.empty l1 (ji15)).toList) = false := beq_eq_false_iff_ne.mpr c18
             have c18b1 : ((rdOf ByteArray.empty l0 (ji12)).toList != (rdOf ByteArray.empty l1 (ji15)).toList) = true := bne_iff_ne.mpr c18
             obtain ⟨y248, hy248⟩ : ∃ y_ : List ByteArray, y_ = (([] : List ByteArray)) := ⟨_, rfl⟩
             replace H : (if 0 ≤ x5_4 then (if x5_4 ≤ (wrap64 ((l1.length : Int) - x6_2)) then (if (wrap64 ((l1.length : Int) - x6_2)) ≤ (l1.length : Int) then (if y248.length + ((l1.take ((wrap64 ((l1.length : Int) - x6_2)) : Int).toNat).drop (x5_4 : Int).toNat).length < 8796093022208 then (some (([(⟨x5_4, wrap64 ((l0.length : Int) - x6_2), (y248 ++ ((l1.take ((wrap64 ((l1.length : Int) - x6_2)) : Int).toNat).drop (x5_4 : Int).toNat))⟩ : S60)] : List (S60)))) else (none)) else (none)) else (none)) else (none)) = some r := by first | (rw [hy248]; with_reducible exact H) | (have H2_ := (Option.bind_some _ _).symm.trans H; rw [hy248]; with_reducible exact H2_) | (have H2_ := (Option.bind_some _ _).symm.trans H; with_reducible exact H2_) | with_reducible exact H | (rw [hy248]; exact H) | exact H
             have Ny248 := mk0 hy248
             clear hy248
             by_cases c19 : 0 ≤ x5_4
             ·rw [if_pos c19] at H
              have c19b0 := eq_true c19
              have c19b1 : decide (0 ≤ x5_4) = true := decide_eq_true c19
              clear c19
              by_cases c20 : x5_4 ≤ (wrap64 ((l1.length : Int) - x6_2))
              ·rw [if_pos c20] at H
               have c20b0 := eq_true c20
               have c20b1 : decide (x5_4 ≤ (wrap64 ((l1.length : Int) - x6_2))) = true := decide_eq_true c20
               clear c20
               by_cases c21 : (wrap64 ((l1.length : Int) - x6_2)) ≤ (l1.length : Int)
               ·rw [if_pos c21] at H
                have c21b0 := eq_true c21
                have c21b1 : decide ((wrap64 ((l1.length : Int) - x6_2)) ≤ (l1.length : Int)) = true := decide_eq_true c21
                clear c21
                by_cases c22 : y248.length + ((l1.take ((wrap64 ((l1.length : Int) - x6_2)) : Int).toNat).drop (x5_4 : Int).toNat).length < 8796093022208
                ·rw [if_pos c22] at H
                 have LMc22 := mk0 c22
                 clear c22
                 obtain ⟨y252, hy252⟩ : ∃ y_ : List ByteArray, y_ = (y248 ++ ((l1.take ((wrap64 ((l1.length : Int) - x6_2)) : Int).toNat).drop (x5_4 : Int).toNat)) := ⟨_, rfl⟩
                 replace H : (some (([(⟨x5_4, wrap64 ((l0.length : Int) - x6_2), y252⟩ : S60)] : List (S60)))) = some r := by first | (rw [hy252]; with_reducible exact H) | (have H2_ := (Option.bind_some _ _).symm.trans H; rw [hy252]; with_reducible exact H2_) | (have H2_ := (Option.bind_some _ _).symm.trans H; with_reducible exact H2_) | with_reducible exact H | (rw [hy252]; exact H) | exact H
                 have Ny252 := mk0 hy252
                 clear hy252
                 obtain ⟨y255, hy255⟩ : ∃ y_ : List (S60), y_ = (([(⟨x5_4, wrap64 ((l0.length : Int) - x6_2), y252⟩ : S60)] : List (S60))) := ⟨_, rfl⟩
                 replace H : (some y255) = some r := by first | (rw [hy255]; with_reducible exact H) | (have H2_ := (Option.bind_some _ _).symm.trans H; rw [hy255]; with_reducible exact H2_) | (have H2_ := (Option.bind_some _ _).symm.trans H; with_reducible exact H2_) | with_reducible exact H | (rw [hy255]; exact H) | exact H
                 have Ny255 := mk0 hy255
                 clear hy255
                 obtain rfl := Option.some.inj H
                 have p246 : 0 ≤ ((ji12) : Int) := of_decide_eq_true (by first | (with_reducible assumption) | assumption)
                 have q246 : (ji12) < (l0.length : Int) := of_decide_eq_true (by first | (with_reducible assumption) | assumption)
                 obtain ⟨ad246, e246, hx246_0⟩ := Kd.at_string HR0.out (ji12) p246 q246
                 cases e246
                 replace hx246_0 := (HB.out.cell (World.block_lt_of_cell? w _ hx246_0)).trans hx246_0
                 replace p246 := eq_true p246
                 replace q246 := eq_true q246
                 have p247 : 0 ≤ ((ji15) : Int) := of_decide_eq_true (by first | (with_reducible assumption) | assumption)
                 have q247 : (ji15) < (l1.length : Int) := of_decide_eq_true (by first | (with_reducible assumption) | assumption)
                 obtain ⟨ad247, e247, hx247_0⟩ := Kd.at_string HR1.out (ji15) p247 q247
                 cases e247
                 replace hx247_0 := (HB.out.cell (World.block_lt_of_cell? w _ hx247_0)).trans hx247_0
                 replace p247 := eq_true p247
                 replace q247 := eq_true q247
                 go_wp2_with (first | ((with_reducible refine gate_dst (N := 73) rfl ?_); (try (refine gate_guard (by rfl) ?_; dsimp only)); refine Kd.R_lit Kd.string _ 9 ?hg (N := 73) ?hd (xs := ([] : List ByteArray)) (inner := []) (ok := fun _ => True) (okp := fun _ => True) ?hr ?hp (fun _ hk => hk) trivial (Below.refl _ _) (Nat.le_refl _) (by simp) ?_; (case hd => rfl); (case hg => rfl); (case hr => first | (go_simp; done) | (go_simp; rfl)); (case hp => exact (Reps.none _ _)); intro v249 w23 ho24 hb hg_ hnew_; clear hg_ hnew_; (first | rw [← Ny248.out] at ho24 | (simp only [Int.reduceToNat] at ho24; rw [← Ny248.out] at ho24)); have n0_ := mk0 (Kd.R_lower (Kd.R_newM (M := fun k_ => (w.heap.size ≤ k_)) ho24 (below_size (uL HB.out)) (fun k_ h_ => h_)) (below_size (uL HB.out))); have n1_ := mk0 (below_step (uL HB.out) hb); clear HB; have HO250 := n0_; have HB := n1_; clear n0_ n1_; clear hb ho24; obtain ⟨i025, hi025, _, hsz25, _⟩ := info_parts info9; obtain ⟨A25, hcut25, hA25, hC25⟩ := print_mid_of (P := Tryd.prog) Value.string (⟨#[]⟩ : ByteArray) 22 9 .i64 .i64 Tryd.underlying22 hi025 hsz25 (some ad247) c1 l1 x5_4 (wrap64 ((l1.length : Int) - x6_2)) (of_decide_eq_true (by first | (with_reducible assumption) | assumption)) (by first | omega | exact of_decide_eq_true (by first | (with_reducible assumption) | assumption)) (of_decide_eq_true (by first | (with_reducible assumption) | assumption)) HC1.out; have HR251 := mk0 (Kd.C_of_reads (h1 := fun _ => rfl) (hA25 _ (Kd.reads_of_C HR1.out))); have HC251 := mk0 hC25; clear hA25 hC25 hi025 hsz25) | ((with_reducible refine gate_builtin (b := .append) (xs := #[.tmp 73, .tmp 80]) rfl ?_); (try (refine gate_guard (by rfl) ?_; dsimp only)); at_builtin; refine Kd.R_append_rows Kd.string (w0 := w) w.heap.size rfl (.tmp 73) (.tmp 80) 22 9 (.string ⟨#[]⟩) 16 rfl Tryd.underlying22 info9 rfl (by decide) (by omega) v249 y248 ((l1.take ((wrap64 ((l1.length : Int) - x6_2)) : Int).toNat).drop (x5_4 : Int).toNat) _ _ _ (fun k_ => (w.heap.size ≤ k_)) (fun _ => False) rfl rfl ?aO ?aR (fun _ _ h => h) (fun _ h => h.elim) ?aF ?aB ?aS ?aL ?_; (case aR => first | (rw [← show ((l1.take ((wrap64 ((l1.length : Int) - x6_2)) : Int).toNat).drop (x5_4 : Int).toNat).length = ((wrap64 ((l1.length : Int) - x6_2)).toNat - x5_4.toNat) from (by rw [List.length_drop, List.length_take]; have h_ : ((wrap64 ((l1.length : Int) - x6_2)) : Int) ≤ (l1.length : Int) := of_decide_eq_true (by first | (with_reducible assumption) | assumption); omega)]; repeat (first | exact (Kd.C_below HR251.out HB.out) | (with_reducible refine Kd.C_alloc ?_ _) | (with_reducible refine Kd.C_drewN ?_ _) | (with_reducible refine Kd.C_drew ?_))) | (repeat (first | exact (Kd.C_below HR251.out HB.out) | (with_reducible refine Kd.C_alloc ?_ _) | (with_reducible refine Kd.C_drewN ?_ _) | (with_reducible refine Kd.C_drew ?_)))); (case aB => exact (uL HB.out)); (case aF => exact (fun k_ hk => (Nat.le_trans (below_size (uL HB.out)) hk))); (case aO => exact (uR (Kd.R_mono HO250.out (fun _ hk => hk.1)))); (case aS => exact (below_size (uL HB.out))); (case aL => have := LMc22.out; have hlx_ := (show ((l1.take ((wrap64 ((l1.length : Int) - x6_2)) : Int).toNat).drop (x5_4 : Int).toNat).length = ((wrap64 ((l1.length : Int) - x6_2)).toNat - x5_4.toNat) from (by rw [List.length_drop, List.length_take]; have h_ : ((wrap64 ((l1.length : Int) - x6_2)) : Int) ≤ (l1.length : Int) := of_decide_eq_true (by first | (with_reducible assumption) | assumption); omega)); omega); intro v253 w26 ho hb hg hat; rw [← Ny252.out] at ho; have n0_ := mk0 (hb); have n1_ := mk0 (ho); clear HB; clear HO250; have HB := n0_; have HO254 := n1_; clear n0_ n1_; clear ho hb hg hat; obtain ⟨Ao27, co27, eo27⟩ := Kd.R_slice HO254.out; subst eo27) | ((with_reducible refine gate_dst (N := 83) rfl ?_); (try (refine gate_guard (by rfl) ?_; dsimp only)); refine Kd.N_lit k60 _ 60 ?hg (N' := 83) ?hd (xs := ([(⟨x5_4, wrap64 ((l0.length : Int) - x6_2), y252⟩ : S60)] : List (S60))) (inner := [.int .i64 x5_4, .int .i64 (wrap64 ((l0.length : Int) - x6_2)), .slice Ao27 y252.length co27]) (ok := (fun k_ => (w.heap.size ≤ k_))) (okp := (fun k_ => (w.heap.size ≤ k_))) ?hr ?hp (fun _ hk => hk) ((show ∀ k_, w26.heap.size ≤ k_ → (fun k_ => (w.heap.size ≤ k_)) k_ from fun k_ hk => (Nat.le_trans (below_size (uL HB.out)) hk)) _ (Nat.le_refl _)) (Below.refl _ _) (Nat.le_refl _) (by simp) ?_; (case hd => rfl); (case hg => rfl); (case hr => first | (go_simp; done) | (go_simp; rfl)); (case hp => exact (Reps.c3 (show Kd.FK k60 _ _ (⟨x5_4, wrap64 ((l0.length : Int) - x6_2), y252⟩ : S60) [.int .i64 x5_4, .int .i64 (wrap64 ((l0.length : Int) - x6_2)), .slice Ao27 y252.length co27] from (k60_mkF _ _ (⟨x5_4, wrap64 ((l0.length : Int) - x6_2), y252⟩ : S60) (Kd.R_reads' (Kd.R_mono (ok' := (fun k_ => (w.heap.size ≤ k_))) (HO254.out) (fun k_ hk => hk))).2.1 (Kd.R_F (Kd.R_mono (ok' := (fun k_ => (w.heap.size ≤ k_))) (HO254.out) (fun k_ hk => hk))))) (Reps.none _ _))); intro v256 w28 ho29 hb hg_ hnew_; clear hg_ hnew_; (first | rw [← Ny255.out] at ho29 | (simp only [Int.reduceToNat] at ho29; rw [← Ny255.out] at ho29)); have n0_ := mk0 (Kd.N_lower ho29 (below_size (uL HB.out))); have n1_ := mk0 (below_step (uL HB.out) hb); clear HB; clear HO254; have HO257 := n0_; have HB := n1_; clear n0_ n1_; clear hb ho29))
                 repeat (go_quiet (first | ((with_reducible refine gate_dst (N := 73) rfl ?_); (try (refine gate_guard (by rfl) ?_; dsimp only)); refine Kd.R_lit Kd.string _ 9 ?hg (N := 73) ?hd (xs := ([] : List ByteArray)) (inner := []) (ok := fun _ => True) (okp := fun _ => True) ?hr ?hp (fun _ hk => hk) trivial (Below.refl _ _) (Nat.le_refl _) (by simp) ?_; (case hd => rfl); (case hg => rfl); (case hr => first | (go_simp; done) | (go_simp; rfl)); (case hp => exact (Reps.none _ _)); intro v249 w23 ho24 hb hg_ hnew_; clear hg_ hnew_; (first | rw [← Ny248.out] at ho24 | (simp only [Int.reduceToNat] at ho24; rw [← Ny248.out] at ho24)); have n0_ := mk0 (Kd.R_lower (Kd.R_newM (M := fun k_ => (w.heap.size ≤ k_)) ho24 (below_size (uL HB.out)) (fun k_ h_ => h_)) (below_size (uL HB.out))); have n1_ := mk0 (below_step (uL HB.out) hb); clear HB; have HO250 := n0_; have HB := n1_; clear n0_ n1_; clear hb ho24; obtain ⟨i025, hi025, _, hsz25, _⟩ := info_parts info9; obtain ⟨A25, hcut25, hA25, hC25⟩ := print_mid_of (P := Tryd.prog) Value.string (⟨#[]⟩ : ByteArray) 22 9 .i64 .i64 Tryd.underlying22 hi025 hsz25 (some ad247) c1 l1 x5_4 (wrap64 ((l1.length : Int) - x6_2)) (of_decide_eq_true (by first | (with_reducible assumption) | assumption)) (by first | omega | exact of_decide_eq_true (by first | (with_reducible assumption) | assumption)) (of_decide_eq_true (by first | (with_reducible assumption) | assumption)) HC1.out; have HR251 := mk0 (Kd.C_of_reads (h1 := fun _ => rfl) (hA25 _ (Kd.reads_of_C HR1.out))); have HC251 := mk0 hC25; clear hA25 hC25 hi025 hsz25) | ((with_reducible refine gate_builtin (b := .append) (xs := #[.tmp 73, .tmp 80]) rfl ?_); (try (refine gate_guard (by rfl) ?_; dsimp only)); at_builtin; refine Kd.R_append_rows Kd.string (w0 := w) w.heap.size rfl (.tmp 73) (.tmp 80) 22 9 (.string ⟨#[]⟩) 16 rfl Tryd.underlying22 info9 rfl (by decide) (by omega) v249 y248 ((l1.take ((wrap64 ((l1.length : Int) - x6_2)) : Int).toNat).drop (x5_4 : Int).toNat) _ _ _ (fun k_ => (w.heap.size ≤ k_)) (fun _ => False) rfl rfl ?aO ?aR (fun _ _ h => h) (fun _ h => h.elim) ?aF ?aB ?aS ?aL ?_; (case aR => first | (rw [← show ((l1.take ((wrap64 ((l1.length : Int) - x6_2)) : Int).toNat).drop (x5_4 : Int).toNat).length = ((wrap64 ((l1.length : Int) - x6_2)).toNat - x5_4.toNat) from (by rw [List.length_drop, List.length_take]; have h_ : ((wrap64 ((l1.length : Int) - x6_2)) : Int) ≤ (l1.length : Int) := of_decide_eq_true (by first | (with_reducible assumption) | assumption); omega)]; repeat (first | exact (Kd.C_below HR251.out HB.out) | (with_reducible refine Kd.C_alloc ?_ _) | (with_reducible refine Kd.C_drewN ?_ _) | (with_reducible refine Kd.C_drew ?_))) | (repeat (first | exact (Kd.C_below HR251.out HB.out) | (with_reducible refine Kd.C_alloc ?_ _) | (with_reducible refine Kd.C_drewN ?_ _) | (with_reducible refine Kd.C_drew ?_)))); (case aB => exact (uL HB.out)); (case aF => exact (fun k_ hk => (Nat.le_trans (below_size (uL HB.out)) hk))); (case aO => exact (uR (Kd.R_mono HO250.out (fun _ hk => hk.1)))); (case aS => exact (below_size (uL HB.out))); (case aL => have := LMc22.out; have hlx_ := (show ((l1.take ((wrap64 ((l1.length : Int) - x6_2)) : Int).toNat).drop (x5_4 : Int).toNat).length = ((wrap64 ((l1.length : Int) - x6_2)).toNat - x5_4.toNat) from (by rw [List.length_drop, List.length_take]; have h_ : ((wrap64 ((l1.length : Int) - x6_2)) : Int) ≤ (l1.length : Int) := of_decide_eq_true (by first | (with_reducible assumption) | assumption); omega)); omega); intro v253 w26 ho hb hg hat; rw [← Ny252.out] at ho; have n0_ := mk0 (hb); have n1_ := mk0 (ho); clear HB; clear HO250; have HB := n0_; have HO254 := n1_; clear n0_ n1_; clear ho hb hg hat; obtain ⟨Ao27, co27, eo27⟩ := Kd.R_slice HO254.out; subst eo27) | ((with_reducible refine gate_dst (N := 83) rfl ?_); (try (refine gate_guard (by rfl) ?_; dsimp only)); refine Kd.N_lit k60 _ 60 ?hg (N' := 83) ?hd (xs := ([(⟨x5_4, wrap64 ((l0.length : Int) - x6_2), y252⟩ : S60)] : List (S60))) (inner := [.int .i64 x5_4, .int .i64 (wrap64 ((l0.length : Int) - x6_2)), .slice Ao27 y252.length co27]) (ok := (fun k_ => (w.heap.size ≤ k_))) (okp := (fun k_ => (w.heap.size ≤ k_))) ?hr ?hp (fun _ hk => hk) ((show ∀ k_, w26.heap.size ≤ k_ → (fun k_ => (w.heap.size ≤ k_)) k_ from fun k_ hk => (Nat.le_trans (below_size (uL HB.out)) hk)) _ (Nat.le_refl _)) (Below.refl _ _) (Nat.le_refl _) (by simp) ?_; (case hd => rfl); (case hg => rfl); (case hr => first | (go_simp; done) | (go_simp; rfl)); (case hp => exact (Reps.c3 (show Kd.FK k60 _ _ (⟨x5_4, wrap64 ((l0.length : Int) - x6_2), y252⟩ : S60) [.int .i64 x5_4, .int .i64 (wrap64 ((l0.length : Int) - x6_2)), .slice Ao27 y252.length co27] from (k60_mkF _ _ (⟨x5_4, wrap64 ((l0.length : Int) - x6_2), y252⟩ : S60) (Kd.R_reads' (Kd.R_mono (ok' := (fun k_ => (w.heap.size ≤ k_))) (HO254.out) (fun k_ hk => hk))).2.1 (Kd.R_F (Kd.R_mono (ok' := (fun k_ => (w.heap.size ≤ k_))) (HO254.out) (fun k_ hk => hk))))) (Reps.none _ _))); intro v256 w28 ho29 hb hg_ hnew_; clear hg_ hnew_; (first | rw [← Ny255.out] at ho29 | (simp only [Int.reduceToNat] at ho29; rw [← Ny255.out] at ho29)); have n0_ := mk0 (Kd.N_lower ho29 (below_size (uL HB.out))); have n1_ := mk0 (below_step (uL HB.out) hb); clear HB; clear HO254; have HO257 := n0_; have HB := n1_; clear n0_ n1_; clear hb ho29)); try go_wp2_with (first | ((with_reducible refine gate_dst (N := 73) rfl ?_); (try (refine gate_guard (by rfl) ?_; dsimp only)); refine Kd.R_lit Kd.string _ 9 ?hg (N := 73) ?hd (xs := ([] : List ByteArray)) (inner := []) (ok := fun _ => True) (okp := fun _ => True) ?hr ?hp (fun _ hk => hk) trivial (Below.refl _ _) (Nat.le_refl _) (by simp) ?_; (case hd => rfl); (case hg => rfl); (case hr => first | (go_simp; done) | (go_simp; rfl)); (case hp => exact (Reps.none _ _)); intro v249 w23 ho24 hb hg_ hnew_; clear hg_ hnew_; (first | rw [← Ny248.out] at ho24 | (simp only [Int.reduceToNat] at ho24; rw [← Ny248.out] at ho24)); have n0_ := mk0 (Kd.R_lower (Kd.R_newM (M := fun k_ => (w.heap.size ≤ k_)) ho24 (below_size (uL HB.out)) (fun k_ h_ => h_)) (below_size (uL HB.out))); have n1_ := mk0 (below_step (uL HB.out) hb); clear HB; have HO250 := n0_; have HB := n1_; clear n0_ n1_; clear hb ho24; obtain ⟨i025, hi025, _, hsz25, _⟩ := info_parts info9; obtain ⟨A25, hcut25, hA25, hC25⟩ := print_mid_of (P := Tryd.prog) Value.string (⟨#[]⟩ : ByteArray) 22 9 .i64 .i64 Tryd.underlying22 hi025 hsz25 (some ad247) c1 l1 x5_4 (wrap64 ((l1.length : Int) - x6_2)) (of_decide_eq_true (by first | (with_reducible assumption) | assumption)) (by first | omega | exact of_decide_eq_true (by first | (with_reducible assumption) | assumption)) (of_decide_eq_true (by first | (with_reducible assumption) | assumption)) HC1.out; have HR251 := mk0 (Kd.C_of_reads (h1 := fun _ => rfl) (hA25 _ (Kd.reads_of_C HR1.out))); have HC251 := mk0 hC25; clear hA25 hC25 hi025 hsz25) | ((with_reducible refine gate_builtin (b := .append) (xs := #[.tmp 73, .tmp 80]) rfl ?_); (try (refine gate_guard (by rfl) ?_; dsimp only)); at_builtin; refine Kd.R_append_rows Kd.string (w0 := w) w.heap.size rfl (.tmp 73) (.tmp 80) 22 9 (.string ⟨#[]⟩) 16 rfl Tryd.underlying22 info9 rfl (by decide) (by omega) v249 y248 ((l1.take ((wrap64 ((l1.length : Int) - x6_2)) : Int).toNat).drop (x5_4 : Int).toNat) _ _ _ (fun k_ => (w.heap.size ≤ k_)) (fun _ => False) rfl rfl ?aO ?aR (fun _ _ h => h) (fun _ h => h.elim) ?aF ?aB ?aS ?aL ?_; (case aR => first | (rw [← show ((l1.take ((wrap64 ((l1.length : Int) - x6_2)) : Int).toNat).drop (x5_4 : Int).toNat).length = ((wrap64 ((l1.length : Int) - x6_2)).toNat - x5_4.toNat) from (by rw [List.length_drop, List.length_take]; have h_ : ((wrap64 ((l1.length : Int) - x6_2)) : Int) ≤ (l1.length : Int) := of_decide_eq_true (by first | (with_reducible assumption) | assumption); omega)]; repeat (first | exact (Kd.C_below HR251.out HB.out) | (with_reducible refine Kd.C_alloc ?_ _) | (with_reducible refine Kd.C_drewN ?_ _) | (with_reducible refine Kd.C_drew ?_))) | (repeat (first | exact (Kd.C_below HR251.out HB.out) | (with_reducible refine Kd.C_alloc ?_ _) | (with_reducible refine Kd.C_drewN ?_ _) | (with_reducible refine Kd.C_drew ?_)))); (case aB => exact (uL HB.out)); (case aF => exact (fun k_ hk => (Nat.le_trans (below_size (uL HB.out)) hk))); (case aO => exact (uR (Kd.R_mono HO250.out (fun _ hk => hk.1)))); (case aS => exact (below_size (uL HB.out))); (case aL => have := LMc22.out; have hlx_ := (show ((l1.take ((wrap64 ((l1.length : Int) - x6_2)) : Int).toNat).drop (x5_4 : Int).toNat).length = ((wrap64 ((l1.length : Int) - x6_2)).toNat - x5_4.toNat) from (by rw [List.length_drop, List.length_take]; have h_ : ((wrap64 ((l1.length : Int) - x6_2)) : Int) ≤ (l1.length : Int) := of_decide_eq_true (by first | (with_reducible assumption) | assumption); omega)); omega); intro v253 w26 ho hb hg hat; rw [← Ny252.out] at ho; have n0_ := mk0 (hb); have n1_ := mk0 (ho); clear HB; clear HO250; have HB := n0_; have HO254 := n1_; clear n0_ n1_; clear ho hb hg hat; obtain ⟨Ao27, co27, eo27⟩ := Kd.R_slice HO254.out; subst eo27) | ((with_reducible refine gate_dst (N := 83) rfl ?_); (try (refine gate_guard (by rfl) ?_; dsimp only)); refine Kd.N_lit k60 _ 60 ?hg (N' := 83) ?hd (xs := ([(⟨x5_4, wrap64 ((l0.length : Int) - x6_2), y252⟩ : S60)] : List (S60))) (inner := [.int .i64 x5_4, .int .i64 (wrap64 ((l0.length : Int) - x6_2)), .slice Ao27 y252.length co27]) (ok := (fun k_ => (w.heap.size ≤ k_))) (okp := (fun k_ => (w.heap.size ≤ k_))) ?hr ?hp (fun _ hk => hk) ((show ∀ k_, w26.heap.size ≤ k_ → (fun k_ => (w.heap.size ≤ k_)) k_ from fun k_ hk => (Nat.le_trans (below_size (uL HB.out)) hk)) _ (Nat.le_refl _)) (Below.refl _ _) (Nat.le_refl _) (by simp) ?_; (case hd => rfl); (case hg => rfl); (case hr => first | (go_simp; done) | (go_simp; rfl)); (case hp => exact (Reps.c3 (show Kd.FK k60 _ _ (⟨x5_4, wrap64 ((l0.length : Int) - x6_2), y252⟩ : S60) [.int .i64 x5_4, .int .i64 (wrap64 ((l0.length : Int) - x6_2)), .slice Ao27 y252.length co27] from (k60_mkF _ _ (⟨x5_4, wrap64 ((l0.length : Int) - x6_2), y252⟩ : S60) (Kd.R_reads' (Kd.R_mono (ok' := (fun k_ => (w.heap.size ≤ k_))) (HO254.out) (fun k_ hk => hk))).2.1 (Kd.R_F (Kd.R_mono (ok' := (fun k_ => (w.heap.size ≤ k_))) (HO254.out) (fun k_ hk => hk))))) (Reps.none _ _))); intro v256 w28 ho29 hb hg_ hnew_; clear hg_ hnew_; (first | rw [← Ny255.out] at ho29 | (simp only [Int.reduceToNat] at ho29; rw [← Ny255.out] at ho29)); have n0_ := mk0 (Kd.N_lower ho29 (below_size (uL HB.out))); have n1_ := mk0 (below_step (uL HB.out) hb); clear HB; clear HO254; have HO257 := n0_; have HB := n1_; clear n0_ n1_; clear hb ho29)))
                 go_ret
                 exact ⟨_, by first | rfl | (simp [errW_none, errW_some] <;> rfl) | (simp only [← hji12, ← hji15]; first | rfl | (simp [errW_none, errW_some] <;> rfl)) | (simp [*, errW_none, errW_some] <;> rfl), uN HO257.out, uL HB.out⟩
                ·rw [if_neg c22] at H
                 exact absurd H (by simp)
               ·rw [if_neg c21] at H
                exact absurd H (by simp)
              ·rw [if_neg c20] at H
               exact absurd H (by simp)
             ·rw [if_neg c19] at H
              exact absurd H (by simp)
           ·rw [if_neg c17] at H
            exact absurd H (by simp)
          ·rw [if_neg c16] at H
           exact absurd H (by simp)
         ·rw [if_neg c14] at H
          exact absurd H (by simp)
        ·rw [if_neg c13] at H
         exact absurd H (by simp)
       ·rw [if_neg c11] at H
        have c11b0 : decide (x6_2 < (wrap64 ((l1.length : Int) - x5_4))) = false := decide_eq_false c11
        clear c11
        obtain ⟨y258, hy258⟩ : ∃ y_ : List ByteArray, y_ = (([] : List ByteArray)) := ⟨_, rfl⟩
        replace H : (if 0 ≤ x5_4 then (if x5_4 ≤ (wrap64 ((l1.length : Int) - x6_2)) then (if (wrap64 ((l1.length : Int) - x6_2)) ≤ (l1.length : Int) then (if y258.length + ((l1.take ((wrap64 ((l1.length : Int) - x6_2)) : Int).toNat).drop (x5_4 : Int).toNat).length < 8796093022208 then (some (([(⟨x5_4, wrap64 ((l0.length : Int) - x6_2), (y258 ++ ((l1.take ((wrap64 ((l1.length : Int) - x6_2)) : Int).toNat).drop (x5_4 : Int).toNat))⟩ : S60)] : List (S60)))) else (none)) else (none)) else (none)) else (none)) = some r := by first | (rw [hy258]; with_reducible exact H) | (have H2_ := (Option.bind_some _ _).symm.trans H; rw [hy258]; with_reducible exact H2_) | (have H2_ := (Option.bind_some _ _).symm.trans H; with_reducible exact H2_) | with_reducible exact H | (rw [hy258]; exact H) | exact H
        have Ny258 := mk0 hy258
        clear hy258
        by_cases c30 : 0 ≤ x5_4
        ·rw [if_pos c30] at H
         have c30b0 := eq_true c30
         have c30b1 : decide (0 ≤ x5_4) = true := decide_eq_true c30
         clear c30
         by_cases c31 : x5_4 ≤ (wrap64 ((l1.length : Int) - x6_2))
         ·rw [if_pos c31] at H
          have c31b0 := eq_true c31
          have c31b1 : decide (x5_4 ≤ (wrap64 ((l1.length : Int) - x6_2))) = true := decide_eq_true c31
          clear c31
          by_cases c32 : (wrap64 ((l1.length : Int) - x6_2)) ≤ (l1.length : Int)
          ·rw [if_pos c32] at H
           have c32b0 := eq_true c32
           have c32b1 : decide ((wrap64 ((l1.length : Int) - x6_2)) ≤ (l1.length : Int)) = true := decide_eq_true c32
           clear c32
           by_cases c33 : y258.length + ((l1.take ((wrap64 ((l1.length : Int) - x6_2)) : Int).toNat).drop (x5_4 : Int).toNat).length < 8796093022208
           ·rw [if_pos c33] at H
            have LMc33 := mk0 c33
            clear c33
            obtain ⟨y262, hy262⟩ : ∃ y_ : List ByteArray, y_ = (y258 ++ ((l1.take ((wrap64 ((l1.length : Int) - x6_2)) : Int).toNat).drop (x5_4 : Int).toNat)) := ⟨_, rfl⟩
            replace H : (some (([(⟨x5_4, wrap64 ((l0.length : Int) - x6_2), y262⟩ : S60)] : List (S60)))) = some r := by first | (rw [hy262]; with_reducible exact H) | (have H2_ := (Option.bind_some _ _).symm.trans H; rw [hy262]; with_reducible exact H2_) | (have H2_ := (Option.bind_some _ _).symm.trans H; with_reducible exact H2_) | with_reducible exact H | (rw [hy262]; exact H) | exact H
            have Ny262 := mk0 hy262
            clear hy262
            obtain ⟨y265, hy265⟩ : ∃ y_ : List (S60), y_ = (([(⟨x5_4, wrap64 ((l0.length : Int) - x6_2), y262⟩ : S60)] : List (S60))) := ⟨_, rfl⟩
            replace H : (some y265) = some r := by first | (rw [hy265]; with_reducible exact H) | (have H2_ := (Option.bind_some _ _).symm.trans H; rw [hy265]; with_reducible exact H2_) | (have H2_ := (Option.bind_some _ _).symm.trans H; with_reducible exact H2_) | with_reducible exact H | (rw [hy265]; exact H) | exact H
            have Ny265 := mk0 hy265
            clear hy265
            obtain rfl := Option.some.inj H
            go_wp2_with (first | ((with_reducible refine gate_dst (N := 73) rfl ?_); (try (refine gate_guard (by rfl) ?_; dsimp only)); refine Kd.R_lit Kd.string _ 9 ?hg (N := 73) ?hd (xs := ([] : List ByteArray)) (inner := []) (ok := fun _ => True) (okp := fun _ => True) ?hr ?hp (fun _ hk => hk) trivial (Below.refl _ _) (Nat.le_refl _) (by simp) ?_; (case hd => rfl); (case hg => rfl); (case hr => first | (go_simp; done) | (go_simp; rfl)); (case hp => exact (Reps.none _ _)); intro v259 w34 ho35 hb hg_ hnew_; clear hg_ hnew_; (first | rw [← Ny258.out] at ho35 | (simp only [Int.reduceToNat] at ho35; rw [← Ny258.out] at ho35)); have n0_ := mk0 (Kd.R_lower (Kd.R_newM (M := fun k_ => (w.heap.size ≤ k_)) ho35 (below_size (uL HB.out)) (fun k_ h_ => h_)) (below_size (uL HB.out))); have n1_ := mk0 (below_step (uL HB.out) hb); clear HB; have HO260 := n0_; have HB := n1_; clear n0_ n1_; clear hb ho35; obtain ⟨i036, hi036, _, hsz36, _⟩ := info_parts info9; obtain ⟨A36, hcut36, hA36, hC36⟩ := print_mid_of (P := Tryd.prog) Value.string (⟨#[]⟩ : ByteArray) 22 9 .i64 .i64 Tryd.underlying22 hi036 hsz36 A1 c1 l1 x5_4 (wrap64 ((l1.length : Int) - x6_2)) (of_decide_eq_true (by first | (with_reducible assumption) | assumption)) (by first | omega | exact of_decide_eq_true (by first | (with_reducible assumption) | assumption)) (of_decide_eq_true (by first | (with_reducible assumption) | assumption)) HC1.out; have HR261 := mk0 (Kd.C_of_reads (h1 := fun _ => rfl) (hA36 _ (Kd.reads_of_C HR1.out))); have HC261 := mk0 hC36; clear hA36 hC36 hi036 hsz36) | ((with_reducible refine gate_builtin (b := .append) (xs := #[.tmp 73, .tmp 80]) rfl ?_); (try (refine gate_guard (by rfl) ?_; dsimp only)); at_builtin; refine Kd.R_append_rows Kd.string (w0 := w) w.heap.size rfl (.tmp 73) (.tmp 80) 22 9 (.string ⟨#[]⟩) 16 rfl Tryd.underlying22 info9 rfl (by decide) (by omega) v259 y258 ((l1.take ((wrap64 ((l1.length : Int) - x6_2)) : Int).toNat).drop (x5_4 : Int).toNat) _ _ _ (fun k_ => (w.heap.size ≤ k_)) (fun _ => False) rfl rfl ?aO ?aR (fun _ _ h => h) (fun _ h => h.elim) ?aF ?aB ?aS ?aL ?_; (case aR => first | (rw [← show ((l1.take ((wrap64 ((l1.length : Int) - x6_2)) : Int).toNat).drop (x5_4 : Int).toNat).length = ((wrap64 ((l1.length : Int) - x6_2)).toNat - x5_4.toNat) from (by rw [List.length_drop, List.length_take]; have h_ : ((wrap64 ((l1.length : Int) - x6_2)) : Int) ≤ (l1.length : Int) := of_decide_eq_true (by first | (with_reducible assumption) | assumption); omega)]; repeat (first | exact (Kd.C_below HR261.out HB.out) | (with_reducible refine Kd.C_alloc ?_ _) | (with_reducible refine Kd.C_drewN ?_ _) | (with_reducible refine Kd.C_drew ?_))) | (repeat (first | exact (Kd.C_below HR261.out HB.out) | (with_reducible refine Kd.C_alloc ?_ _) | (with_reducible refine Kd.C_drewN ?_ _) | (with_reducible refine Kd.C_drew ?_)))); (case aB => exact (uL HB.out)); (case aF => exact (fun k_ hk => (Nat.le_trans (below_size (uL HB.out)) hk))); (case aO => exact (uR (Kd.R_mono HO260.out (fun _ hk => hk.1)))); (case aS => exact (below_size (uL HB.out))); (case aL => have := LMc33.out; have hlx_ := (show ((l1.take ((wrap64 ((l1.length : Int) - x6_2)) : Int).toNat).drop (x5_4 : Int).toNat).length = ((wrap64 ((l1.length : Int) - x6_2)).toNat - x5_4.toNat) from (by rw [List.length_drop, List.length_take]; have h_ : ((wrap64 ((l1.length : Int) - x6_2)) : Int) ≤ (l1.length : Int) := of_decide_eq_true (by first | (with_reducible assumption) | assumption); omega)); omega); intro v263 w37 ho hb hg hat; rw [← Ny262.out] at ho; have n0_ := mk0 (hb); have n1_ := mk0 (ho); clear HB; clear HO260; have HB := n0_; have HO264 := n1_; clear n0_ n1_; clear ho hb hg hat; obtain ⟨Ao38, co38, eo38⟩ := Kd.R_slice HO264.out; subst eo38) | ((with_reducible refine gate_dst (N := 83) rfl ?_); (try (refine gate_guard (by rfl) ?_; dsimp only)); refine Kd.N_lit k60 _ 60 ?hg (N' := 83) ?hd (xs := ([(⟨x5_4, wrap64 ((l0.length : Int) - x6_2), y262⟩ : S60)] : List (S60))) (inner := [.int .i64 x5_4, .int .i64 (wrap64 ((l0.length : Int) - x6_2)), .slice Ao38 y262.length co38]) (ok := (fun k_ => (w.heap.size ≤ k_))) (okp := (fun k_ => (w.heap.size ≤ k_))) ?hr ?hp (fun _ hk => hk) ((show ∀ k_, w37.heap.size ≤ k_ → (fun k_ => (w.heap.size ≤ k_)) k_ from fun k_ hk => (Nat.le_trans (below_size (uL HB.out)) hk)) _ (Nat.le_refl _)) (Below.refl _ _) (Nat.le_refl _) (by simp) ?_; (case hd => rfl); (case hg => rfl); (case hr => first | (go_simp; done) | (go_simp; rfl)); (case hp => exact (Reps.c3 (show Kd.FK k60 _ _ (⟨x5_4, wrap64 ((l0.length : Int) - x6_2), y262⟩ : S60) [.int .i64 x5_4, .int .i64 (wrap64 ((l0.length : Int) - x6_2)), .slice Ao38 y262.length co38] from (k60_mkF _ _ (⟨x5_4, wrap64 ((l0.length : Int) - x6_2), y262⟩ : S60) (Kd.R_reads' (Kd.R_mono (ok' := (fun k_ => (w.heap.size ≤ k_))) (HO264.out) (fun k_ hk => hk))).2.1 (Kd.R_F (Kd.R_mono (ok' := (fun k_ => (w.heap.size ≤ k_))) (HO264.out) (fun k_ hk => hk))))) (Reps.none _ _))); intro v266 w39 ho40 hb hg_ hnew_; clear hg_ hnew_; (first | rw [← Ny265.out] at ho40 | (simp only [Int.reduceToNat] at ho40; rw [← Ny265.out] at ho40)); have n0_ := mk0 (Kd.N_lower ho40 (below_size (uL HB.out))); have n1_ := mk0 (below_step (uL HB.out) hb); clear HB; clear HO264; have HO267 := n0_; have HB := n1_; clear n0_ n1_; clear hb ho40))
            repeat (go_quiet (first | ((with_reducible refine gate_dst (N := 73) rfl ?_); (try (refine gate_guard (by rfl) ?_; dsimp only)); refine Kd.R_lit Kd.string _ 9 ?hg (N := 73) ?hd (xs := ([] : List ByteArray)) (inner := []) (ok := fun _ => True) (okp := fun _ => True) ?hr ?hp (fun _ hk => hk) trivial (Below.refl _ _) (Nat.le_refl _) (by simp) ?_; (case hd => rfl); (case hg => rfl); (case hr => first | (go_simp; done) | (go_simp; rfl)); (case hp => exact (Reps.none _ _)); intro v259 w34 ho35 hb hg_ hnew_; clear hg_ hnew_; (first | rw [← Ny258.out] at ho35 | (simp only [Int.reduceToNat] at ho35; rw [← Ny258.out] at ho35)); have n0_ := mk0 (Kd.R_lower (Kd.R_newM (M := fun k_ => (w.heap.size ≤ k_)) ho35 (below_size (uL HB.out)) (fun k_ h_ => h_)) (below_size (uL HB.out))); have n1_ := mk0 (below_step (uL HB.out) hb); clear HB; have HO260 := n0_; have HB := n1_; clear n0_ n1_; clear hb ho35; obtain ⟨i036, hi036, _, hsz36, _⟩ := info_parts info9; obtain ⟨A36, hcut36, hA36, hC36⟩ := print_mid_of (P := Tryd.prog) Value.string (⟨#[]⟩ : ByteArray) 22 9 .i64 .i64 Tryd.underlying22 hi036 hsz36 A1 c1 l1 x5_4 (wrap64 ((l1.length : Int) - x6_2)) (of_decide_eq_true (by first | (with_reducible assumption) | assumption)) (by first | omega | exact of_decide_eq_true (by first | (with_reducible assumption) | assumption)) (of_decide_eq_true (by first | (with_reducible assumption) | assumption)) HC1.out; have HR261 := mk0 (Kd.C_of_reads (h1 := fun _ => rfl) (hA36 _ (Kd.reads_of_C HR1.out))); have HC261 := mk0 hC36; clear hA36 hC36 hi036 hsz36) | ((with_reducible refine gate_builtin (b := .append) (xs := #[.tmp 73, .tmp 80]) rfl ?_); (try (refine gate_guard (by rfl) ?_; dsimp only)); at_builtin; refine Kd.R_append_rows Kd.string (w0 := w) w.heap.size rfl (.tmp 73) (.tmp 80) 22 9 (.string ⟨#[]⟩) 16 rfl Tryd.underlying22 info9 rfl (by decide) (by omega) v259 y258 ((l1.take ((wrap64 ((l1.length : Int) - x6_2)) : Int).toNat).drop (x5_4 : Int).toNat) _ _ _ (fun k_ => (w.heap.size ≤ k_)) (fun _ => False) rfl rfl ?aO ?aR (fun _ _ h => h) (fun _ h => h.elim) ?aF ?aB ?aS ?aL ?_; (case aR => first | (rw [← show ((l1.take ((wrap64 ((l1.length : Int) - x6_2)) : Int).toNat).drop (x5_4 : Int).toNat).length = ((wrap64 ((l1.length : Int) - x6_2)).toNat - x5_4.toNat) from (by rw [List.length_drop, List.length_take]; have h_ : ((wrap64 ((l1.length : Int) - x6_2)) : Int) ≤ (l1.length : Int) := of_decide_eq_true (by first | (with_reducible assumption) | assumption); omega)]; repeat (first | exact (Kd.C_below HR261.out HB.out) | (with_reducible refine Kd.C_alloc ?_ _) | (with_reducible refine Kd.C_drewN ?_ _) | (with_reducible refine Kd.C_drew ?_))) | (repeat (first | exact (Kd.C_below HR261.out HB.out) | (with_reducible refine Kd.C_alloc ?_ _) | (with_reducible refine Kd.C_drewN ?_ _) | (with_reducible refine Kd.C_drew ?_)))); (case aB => exact (uL HB.out)); (case aF => exact (fun k_ hk => (Nat.le_trans (below_size (uL HB.out)) hk))); (case aO => exact (uR (Kd.R_mono HO260.out (fun _ hk => hk.1)))); (case aS => exact (below_size (uL HB.out))); (case aL => have := LMc33.out; have hlx_ := (show ((l1.take ((wrap64 ((l1.length : Int) - x6_2)) : Int).toNat).drop (x5_4 : Int).toNat).length = ((wrap64 ((l1.length : Int) - x6_2)).toNat - x5_4.toNat) from (by rw [List.length_drop, List.length_take]; have h_ : ((wrap64 ((l1.length : Int) - x6_2)) : Int) ≤ (l1.length : Int) := of_decide_eq_true (by first | (with_reducible assumption) | assumption); omega)); omega); intro v263 w37 ho hb hg hat; rw [← Ny262.out] at ho; have n0_ := mk0 (hb); have n1_ := mk0 (ho); clear HB; clear HO260; have HB := n0_; have HO264 := n1_; clear n0_ n1_; clear ho hb hg hat; obtain ⟨Ao38, co38, eo38⟩ := Kd.R_slice HO264.out; subst eo38) | ((with_reducible refine gate_dst (N := 83) rfl ?_); (try (refine gate_guard (by rfl) ?_; dsimp only)); refine Kd.N_lit k60 _ 60 ?hg (N' := 83) ?hd (xs := ([(⟨x5_4, wrap64 ((l0.length : Int) - x6_2), y262⟩ : S60)] : List (S60))) (inner := [.int .i64 x5_4, .int .i64 (wrap64 ((l0.length : Int) - x6_2)), .slice Ao38 y262.length co38]) (ok := (fun k_ => (w.heap.size ≤ k_))) (okp := (fun k_ => (w.heap.size ≤ k_))) ?hr ?hp (fun _ hk => hk) ((show ∀ k_, w37.heap.size ≤ k_ → (fun k_ => (w.heap.size ≤ k_)) k_ from fun k_ hk => (Nat.le_trans (below_size (uL HB.out)) hk)) _ (Nat.le_refl _)) (Below.refl _ _) (Nat.le_refl _) (by simp) ?_; (case hd => rfl); (case hg => rfl); (case hr => first | (go_simp; done) | (go_simp; rfl)); (case hp => exact (Reps.c3 (show Kd.FK k60 _ _ (⟨x5_4, wrap64 ((l0.length : Int) - x6_2), y262⟩ : S60) [.int .i64 x5_4, .int .i64 (wrap64 ((l0.length : Int) - x6_2)), .slice Ao38 y262.length co38] from (k60_mkF _ _ (⟨x5_4, wrap64 ((l0.length : Int) - x6_2), y262⟩ : S60) (Kd.R_reads' (Kd.R_mono (ok' := (fun k_ => (w.heap.size ≤ k_))) (HO264.out) (fun k_ hk => hk))).2.1 (Kd.R_F (Kd.R_mono (ok' := (fun k_ => (w.heap.size ≤ k_))) (HO264.out) (fun k_ hk => hk))))) (Reps.none _ _))); intro v266 w39 ho40 hb hg_ hnew_; clear hg_ hnew_; (first | rw [← Ny265.out] at ho40 | (simp only [Int.reduceToNat] at ho40; rw [← Ny265.out] at ho40)); have n0_ := mk0 (Kd.N_lower ho40 (below_size (uL HB.out))); have n1_ := mk0 (below_step (uL HB.out) hb); clear HB; clear HO264; have HO267 := n0_; have HB := n1_; clear n0_ n1_; clear hb ho40)); try go_wp2_with (first | ((with_reducible refine gate_dst (N := 73) rfl ?_); (try (refine gate_guard (by rfl) ?_; dsimp only)); refine Kd.R_lit Kd.string _ 9 ?hg (N := 73) ?hd (xs := ([] : List ByteArray)) (inner := []) (ok := fun _ => True) (okp := fun _ => True) ?hr ?hp (fun _ hk => hk) trivial (Below.refl _ _) (Nat.le_refl _) (by simp) ?_; (case hd => rfl); (case hg => rfl); (case hr => first | (go_simp; done) | (go_simp; rfl)); (case hp => exact (Reps.none _ _)); intro v259 w34 ho35 hb hg_ hnew_; clear hg_ hnew_; (first | rw [← Ny258.out] at ho35 | (simp only [Int.reduceToNat] at ho35; rw [← Ny258.out] at ho35)); have n0_ := mk0 (Kd.R_lower (Kd.R_newM (M := fun k_ => (w.heap.size ≤ k_)) ho35 (below_size (uL HB.out)) (fun k_ h_ => h_)) (below_size (uL HB.out))); have n1_ := mk0 (below_step (uL HB.out) hb); clear HB; have HO260 := n0_; have HB := n1_; clear n0_ n1_; clear hb ho35; obtain ⟨i036, hi036, _, hsz36, _⟩ := info_parts info9; obtain ⟨A36, hcut36, hA36, hC36⟩ := print_mid_of (P := Tryd.prog) Value.string (⟨#[]⟩ : ByteArray) 22 9 .i64 .i64 Tryd.underlying22 hi036 hsz36 A1 c1 l1 x5_4 (wrap64 ((l1.length : Int) - x6_2)) (of_decide_eq_true (by first | (with_reducible assumption) | assumption)) (by first | omega | exact of_decide_eq_true (by first | (with_reducible assumption) | assumption)) (of_decide_eq_true (by first | (with_reducible assumption) | assumption)) HC1.out; have HR261 := mk0 (Kd.C_of_reads (h1 := fun _ => rfl) (hA36 _ (Kd.reads_of_C HR1.out))); have HC261 := mk0 hC36; clear hA36 hC36 hi036 hsz36) | ((with_reducible refine gate_builtin (b := .append) (xs := #[.tmp 73, .tmp 80]) rfl ?_); (try (refine gate_guard (by rfl) ?_; dsimp only)); at_builtin; refine Kd.R_append_rows Kd.string (w0 := w) w.heap.size rfl (.tmp 73) (.tmp 80) 22 9 (.string ⟨#[]⟩) 16 rfl Tryd.underlying22 info9 rfl (by decide) (by omega) v259 y258 ((l1.take ((wrap64 ((l1.length : Int) - x6_2)) : Int).toNat).drop (x5_4 : Int).toNat) _ _ _ (fun k_ => (w.heap.size ≤ k_)) (fun _ => False) rfl rfl ?aO ?aR (fun _ _ h => h) (fun _ h => h.elim) ?aF ?aB ?aS ?aL ?_; (case aR => first | (rw [← show ((l1.take ((wrap64 ((l1.length : Int) - x6_2)) : Int).toNat).drop (x5_4 : Int).toNat).length = ((wrap64 ((l1.length : Int) - x6_2)).toNat - x5_4.toNat) from (by rw [List.length_drop, List.length_take]; have h_ : ((wrap64 ((l1.length : Int) - x6_2)) : Int) ≤ (l1.length : Int) := of_decide_eq_true (by first | (with_reducible assumption) | assumption); omega)]; repeat (first | exact (Kd.C_below HR261.out HB.out) | (with_reducible refine Kd.C_alloc ?_ _) | (with_reducible refine Kd.C_drewN ?_ _) | (with_reducible refine Kd.C_drew ?_))) | (repeat (first | exact (Kd.C_below HR261.out HB.out) | (with_reducible refine Kd.C_alloc ?_ _) | (with_reducible refine Kd.C_drewN ?_ _) | (with_reducible refine Kd.C_drew ?_)))); (case aB => exact (uL HB.out)); (case aF => exact (fun k_ hk => (Nat.le_trans (below_size (uL HB.out)) hk))); (case aO => exact (uR (Kd.R_mono HO260.out (fun _ hk => hk.1)))); (case aS => exact (below_size (uL HB.out))); (case aL => have := LMc33.out; have hlx_ := (show ((l1.take ((wrap64 ((l1.length : Int) - x6_2)) : Int).toNat).drop (x5_4 : Int).toNat).length = ((wrap64 ((l1.length : Int) - x6_2)).toNat - x5_4.toNat) from (by rw [List.length_drop, List.length_take]; have h_ : ((wrap64 ((l1.length : Int) - x6_2)) : Int) ≤ (l1.length : Int) := of_decide_eq_true (by first | (with_reducible assumption) | assumption); omega)); omega); intro v263 w37 ho hb hg hat; rw [← Ny262.out] at ho; have n0_ := mk0 (hb); have n1_ := mk0 (ho); clear HB; clear HO260; have HB := n0_; have HO264 := n1_; clear n0_ n1_; clear ho hb hg hat; obtain ⟨Ao38, co38, eo38⟩ := Kd.R_slice HO264.out; subst eo38) | ((with_reducible refine gate_dst (N := 83) rfl ?_); (try (refine gate_guard (by rfl) ?_; dsimp only)); refine Kd.N_lit k60 _ 60 ?hg (N' := 83) ?hd (xs := ([(⟨x5_4, wrap64 ((l0.length : Int) - x6_2), y262⟩ : S60)] : List (S60))) (inner := [.int .i64 x5_4, .int .i64 (wrap64 ((l0.length : Int) - x6_2)), .slice Ao38 y262.length co38]) (ok := (fun k_ => (w.heap.size ≤ k_))) (okp := (fun k_ => (w.heap.size ≤ k_))) ?hr ?hp (fun _ hk => hk) ((show ∀ k_, w37.heap.size ≤ k_ → (fun k_ => (w.heap.size ≤ k_)) k_ from fun k_ hk => (Nat.le_trans (below_size (uL HB.out)) hk)) _ (Nat.le_refl _)) (Below.refl _ _) (Nat.le_refl _) (by simp) ?_; (case hd => rfl); (case hg => rfl); (case hr => first | (go_simp; done) | (go_simp; rfl)); (case hp => exact (Reps.c3 (show Kd.FK k60 _ _ (⟨x5_4, wrap64 ((l0.length : Int) - x6_2), y262⟩ : S60) [.int .i64 x5_4, .int .i64 (wrap64 ((l0.length : Int) - x6_2)), .slice Ao38 y262.length co38] from (k60_mkF _ _ (⟨x5_4, wrap64 ((l0.length : Int) - x6_2), y262⟩ : S60) (Kd.R_reads' (Kd.R_mono (ok' := (fun k_ => (w.heap.size ≤ k_))) (HO264.out) (fun k_ hk => hk))).2.1 (Kd.R_F (Kd.R_mono (ok' := (fun k_ => (w.heap.size ≤ k_))) (HO264.out) (fun k_ hk => hk))))) (Reps.none _ _))); intro v266 w39 ho40 hb hg_ hnew_; clear hg_ hnew_; (first | rw [← Ny265.out] at ho40 | (simp only [Int.reduceToNat] at ho40; rw [← Ny265.out] at ho40)); have n0_ := mk0 (Kd.N_lower ho40 (below_size (uL HB.out))); have n1_ := mk0 (below_step (uL HB.out) hb); clear HB; clear HO264; have HO267 := n0_; have HB := n1_; clear n0_ n1_; clear hb ho40)))
            go_ret
            exact ⟨_, by first | rfl | (simp [errW_none, errW_some] <;> rfl) | (simp [*, errW_none, errW_some] <;> rfl), uN HO267.out, uL HB.out⟩
           ·rw [if_neg c33] at H
            exact absurd H (by simp)
          ·rw [if_neg c32] at H
           exact absurd H (by simp)
         ·rw [if_neg c31] at H
          exact absurd H (by simp)
        ·rw [if_neg c30] at H
         exact absurd H (by simp)
      ·rw [if_neg c10] at H
       have c10b0 : decide (x6_2 < (wrap64 ((l0.length : Int) - x5_4))) = false := decide_eq_false c10
       clear c10
       obtain ⟨y268, hy268⟩ : ∃ y_ : List ByteArray, y_ = (([] : List ByteArray)) := ⟨_, rfl⟩
       replace H : (if 0 ≤ x5_4 then (if x5_4 ≤ (wrap64 ((l1.length : Int) - x6_2)) then (if (wrap64 ((l1.length : Int) - x6_2)) ≤ (l1.length : Int) then (if y268.length + ((l1.take ((wrap64 ((l1.length : Int) - x6_2)) : Int).toNat).drop (x5_4 : Int).toNat).length < 8796093022208 then (some (([(⟨x5_4, wrap64 ((l0.length : Int) - x6_2), (y268 ++ ((l1.take ((wrap64 ((l1.length : Int) - x6_2)) : Int).toNat).drop (x5_4 : Int).toNat))⟩ : S60)] : List (S60)))) else (none)) else (none)) else (none)) else (none)) = some r := by first | (rw [hy268]; with_reducible exact H) | (have H2_ := (Option.bind_some _ _).symm.trans H; rw [hy268]; with_reducible exact H2_) | (have H2_ := (Option.bind_some _ _).symm.trans H; with_reducible exact H2_) | with_reducible exact H | (rw [hy268]; exact H) | exact H
       have Ny268 := mk0 hy268
       clear hy268
       by_cases c41 : 0 ≤ x5_4
       ·rw [if_pos c41] at H
        have c41b0 := eq_true c41
        have c41b1 : decide (0 ≤ x5_4) = true := decide_eq_true c41
        clear c41
        by_cases c42 : x5_4 ≤ (wrap64 ((l1.length : Int) - x6_2))
        ·rw [if_pos c42] at H
         have c42b0 := eq_true c42
         have c42b1 : decide (x5_4 ≤ (wrap64 ((l1.length : Int) - x6_2))) = true := decide_eq_true c42
         clear c42
         by_cases c43 : (wrap64 ((l1.length : Int) - x6_2)) ≤ (l1.length : Int)
         ·rw [if_pos c43] at H
          have c43b0 := eq_true c43
          have c43b1 : decide ((wrap64 ((l1.length : Int) - x6_2)) ≤ (l1.length : Int)) = true := decide_eq_true c43
          clear c43
          by_cases c44 : y268.length + ((l1.take ((wrap64 ((l1.length : Int) - x6_2)) : Int).toNat).drop (x5_4 : Int).toNat).length < 8796093022208
          ·rw [if_pos c44] at H
           have LMc44 := mk0 c44
           clear c44
           obtain ⟨y272, hy272⟩ : ∃ y_ : List ByteArray, y_ = (y268 ++ ((l1.take ((wrap64 ((l1.length : Int) - x6_2)) : Int).toNat).drop (x5_4 : Int).toNat)) := ⟨_, rfl⟩
           replace H : (some (([(⟨x5_4, wrap64 ((l0.length : Int) - x6_2), y272⟩ : S60)] : List (S60)))) = some r := by first | (rw [hy272]; with_reducible exact H) | (have H2_ := (Option.bind_some _ _).symm.trans H; rw [hy272]; with_reducible exact H2_) | (have H2_ := (Option.bind_some _ _).symm.trans H; with_reducible exact H2_) | with_reducible exact H | (rw [hy272]; exact H) | exact H
           have Ny272 := mk0 hy272
           clear hy272
           obtain ⟨y275, hy275⟩ : ∃ y_ : List (S60), y_ = (([(⟨x5_4, wrap64 ((l0.length : Int) - x6_2), y272⟩ : S60)] : List (S60))) := ⟨_, rfl⟩
           replace H : (some y275) = some r := by first | (rw [hy275]; with_reducible exact H) | (have H2_ := (Option.bind_some _ _).symm.trans H; rw [hy275]; with_reducible exact H2_) | (have H2_ := (Option.bind_some _ _).symm.trans H; with_reducible exact H2_) | with_reducible exact H | (rw [hy275]; exact H) | exact H
           have Ny275 := mk0 hy275
           clear hy275
           obtain rfl := Option.some.inj H
           go_wp2_with (first | ((with_reducible refine gate_dst (N := 73) rfl ?_); (try (refine gate_guard (by rfl) ?_; dsimp only)); refine Kd.R_lit Kd.string _ 9 ?hg (N := 73) ?hd (xs := ([] : List ByteArray)) (inner := []) (ok := fun _ => True) (okp := fun _ => True) ?hr ?hp (fun _ hk => hk) trivial (Below.refl _ _) (Nat.le_refl _) (by simp) ?_; (case hd => rfl); (case hg => rfl); (case hr => first | (go_simp; done) | (go_simp; rfl)); (case hp => exact (Reps.none _ _)); intro v269 w45 ho46 hb hg_ hnew_; clear hg_ hnew_; (first | rw [← Ny268.out] at ho46 | (simp only [Int.reduceToNat] at ho46; rw [← Ny268.out] at ho46)); have n0_ := mk0 (Kd.R_lower (Kd.R_newM (M := fun k_ => (w.heap.size ≤ k_)) ho46 (below_size (uL HB.out)) (fun k_ h_ => h_)) (below_size (uL HB.out))); have n1_ := mk0 (below_step (uL HB.out) hb); clear HB; have HO270 := n0_; have HB := n1_; clear n0_ n1_; clear hb ho46; obtain ⟨i047, hi047, _, hsz47, _⟩ := info_parts info9; obtain ⟨A47, hcut47, hA47, hC47⟩ := print_mid_of (P := Tryd.prog) Value.string (⟨#[]⟩ : ByteArray) 22 9 .i64 .i64 Tryd.underlying22 hi047 hsz47 A1 c1 l1 x5_4 (wrap64 ((l1.length : Int) - x6_2)) (of_decide_eq_true (by first | (with_reducible assumption) | assumption)) (by first | omega | exact of_decide_eq_true (by first | (with_reducible assumption) | assumption)) (of_decide_eq_true (by first | (with_reducible assumption) | assumption)) HC1.out; have HR271 := mk0 (Kd.C_of_reads (h1 := fun _ => rfl) (hA47 _ (Kd.reads_of_C HR1.out))); have HC271 := mk0 hC47; clear hA47 hC47 hi047 hsz47) | ((with_reducible refine gate_builtin (b := .append) (xs := #[.tmp 73, .tmp 80]) rfl ?_); (try (refine gate_guard (by rfl) ?_; dsimp only)); at_builtin; refine Kd.R_append_rows Kd.string (w0 := w) w.heap.size rfl (.tmp 73) (.tmp 80) 22 9 (.string ⟨#[]⟩) 16 rfl Tryd.underlying22 info9 rfl (by decide) (by omega) v269 y268 ((l1.take ((wrap64 ((l1.length : Int) - x6_2)) : Int).toNat).drop (x5_4 : Int).toNat) _ _ _ (fun k_ => (w.heap.size ≤ k_)) (fun _ => False) rfl rfl ?aO ?aR (fun _ _ h => h) (fun _ h => h.elim) ?aF ?aB ?aS ?aL ?_; (case aR => first | (rw [← show ((l1.take ((wrap64 ((l1.length : Int) - x6_2)) : Int).toNat).drop (x5_4 : Int).toNat).length = ((wrap64 ((l1.length : Int) - x6_2)).toNat - x5_4.toNat) from (by rw [List.length_drop, List.length_take]; have h_ : ((wrap64 ((l1.length : Int) - x6_2)) : Int) ≤ (l1.length : Int) := of_decide_eq_true (by first | (with_reducible assumption) | assumption); omega)]; repeat (first | exact (Kd.C_below HR271.out HB.out) | (with_reducible refine Kd.C_alloc ?_ _) | (with_reducible refine Kd.C_drewN ?_ _) | (with_reducible refine Kd.C_drew ?_))) | (repeat (first | exact (Kd.C_below HR271.out HB.out) | (with_reducible refine Kd.C_alloc ?_ _) | (with_reducible refine Kd.C_drewN ?_ _) | (with_reducible refine Kd.C_drew ?_)))); (case aB => exact (uL HB.out)); (case aF => exact (fun k_ hk => (Nat.le_trans (below_size (uL HB.out)) hk))); (case aO => exact (uR (Kd.R_mono HO270.out (fun _ hk => hk.1)))); (case aS => exact (below_size (uL HB.out))); (case aL => have := LMc44.out; have hlx_ := (show ((l1.take ((wrap64 ((l1.length : Int) - x6_2)) : Int).toNat).drop (x5_4 : Int).toNat).length = ((wrap64 ((l1.length : Int) - x6_2)).toNat - x5_4.toNat) from (by rw [List.length_drop, List.length_take]; have h_ : ((wrap64 ((l1.length : Int) - x6_2)) : Int) ≤ (l1.length : Int) := of_decide_eq_true (by first | (with_reducible assumption) | assumption); omega)); omega); intro v273 w48 ho hb hg hat; rw [← Ny272.out] at ho; have n0_ := mk0 (hb); have n1_ := mk0 (ho); clear HB; clear HO270; have HB := n0_; have HO274 := n1_; clear n0_ n1_; clear ho hb hg hat; obtain ⟨Ao49, co49, eo49⟩ := Kd.R_slice HO274.out; subst eo49) | ((with_reducible refine gate_dst (N := 83) rfl ?_); (try (refine gate_guard (by rfl) ?_; dsimp only)); refine Kd.N_lit k60 _ 60 ?hg (N' := 83) ?hd (xs := ([(⟨x5_4, wrap64 ((l0.length : Int) - x6_2), y272⟩ : S60)] : List (S60))) (inner := [.int .i64 x5_4, .int .i64 (wrap64 ((l0.length : Int) - x6_2)), .slice Ao49 y272.length co49]) (ok := (fun k_ => (w.heap.size ≤ k_))) (okp := (fun k_ => (w.heap.size ≤ k_))) ?hr ?hp (fun _ hk => hk) ((show ∀ k_, w48.heap.size ≤ k_ → (fun k_ => (w.heap.size ≤ k_)) k_ from fun k_ hk => (Nat.le_trans (below_size (uL HB.out)) hk)) _ (Nat.le_refl _)) (Below.refl _ _) (Nat.le_refl _) (by simp) ?_; (case hd => rfl); (case hg => rfl); (case hr => first | (go_simp; done) | (go_simp; rfl)); (case hp => exact (Reps.c3 (show Kd.FK k60 _ _ (⟨x5_4, wrap64 ((l0.length : Int) - x6_2), y272⟩ : S60) [.int .i64 x5_4, .int .i64 (wrap64 ((l0.length : Int) - x6_2)), .slice Ao49 y272.length co49] from (k60_mkF _ _ (⟨x5_4, wrap64 ((l0.length : Int) - x6_2), y272⟩ : S60) (Kd.R_reads' (Kd.R_mono (ok' := (fun k_ => (w.heap.size ≤ k_))) (HO274.out) (fun k_ hk => hk))).2.1 (Kd.R_F (Kd.R_mono (ok' := (fun k_ => (w.heap.size ≤ k_))) (HO274.out) (fun k_ hk => hk))))) (Reps.none _ _))); intro v276 w50 ho51 hb hg_ hnew_; clear hg_ hnew_; (first | rw [← Ny275.out] at ho51 | (simp only [Int.reduceToNat] at ho51; rw [← Ny275.out] at ho51)); have n0_ := mk0 (Kd.N_lower ho51 (below_size (uL HB.out))); have n1_ := mk0 (below_step (uL HB.out) hb); clear HB; clear HO274; have HO277 := n0_; have HB := n1_; clear n0_ n1_; clear hb ho51))
           repeat (go_quiet (first | ((with_reducible refine gate_dst (N := 73) rfl ?_); (try (refine gate_guard (by rfl) ?_; dsimp only)); refine Kd.R_lit Kd.string _ 9 ?hg (N := 73) ?hd (xs := ([] : List ByteArray)) (inner := []) (ok := fun _ => True) (okp := fun _ => True) ?hr ?hp (fun _ hk => hk) trivial (Below.refl _ _) (Nat.le_refl _) (by simp) ?_; (case hd => rfl); (case hg => rfl); (case hr => first | (go_simp; done) | (go_simp; rfl)); (case hp => exact (Reps.none _ _)); intro v269 w45 ho46 hb hg_ hnew_; clear hg_ hnew_; (first | rw [← Ny268.out] at ho46 | (simp only [Int.reduceToNat] at ho46; rw [← Ny268.out] at ho46)); have n0_ := mk0 (Kd.R_lower (Kd.R_newM (M := fun k_ => (w.heap.size ≤ k_)) ho46 (below_size (uL HB.out)) (fun k_ h_ => h_)) (below_size (uL HB.out))); have n1_ := mk0 (below_step (uL HB.out) hb); clear HB; have HO270 := n0_; have HB := n1_; clear n0_ n1_; clear hb ho46; obtain ⟨i047, hi047, _, hsz47, _⟩ := info_parts info9; obtain ⟨A47, hcut47, hA47, hC47⟩ := print_mid_of (P := Tryd.prog) Value.string (⟨#[]⟩ : ByteArray) 22 9 .i64 .i64 Tryd.underlying22 hi047 hsz47 A1 c1 l1 x5_4 (wrap64 ((l1.length : Int) - x6_2)) (of_decide_eq_true (by first | (with_reducible assumption) | assumption)) (by first | omega | exact of_decide_eq_true (by first | (with_reducible assumption) | assumption)) (of_decide_eq_true (by first | (with_reducible assumption) | assumption)) HC1.out; have HR271 := mk0 (Kd.C_of_reads (h1 := fun _ => rfl) (hA47 _ (Kd.reads_of_C HR1.out))); have HC271 := mk0 hC47; clear hA47 hC47 hi047 hsz47) | ((with_reducible refine gate_builtin (b := .append) (xs := #[.tmp 73, .tmp 80]) rfl ?_); (try (refine gate_guard (by rfl) ?_; dsimp only)); at_builtin; refine Kd.R_append_rows Kd.string (w0 := w) w.heap.size rfl (.tmp 73) (.tmp 80) 22 9 (.string ⟨#[]⟩) 16 rfl Tryd.underlying22 info9 rfl (by decide) (by omega) v269 y268 ((l1.take ((wrap64 ((l1.length : Int) - x6_2)) : Int).toNat).drop (x5_4 : Int).toNat) _ _ _ (fun k_ => (w.heap.size ≤ k_)) (fun _ => False) rfl rfl ?aO ?aR (fun _ _ h => h) (fun _ h => h.elim) ?aF ?aB ?aS ?aL ?_; (case aR => first | (rw [← show ((l1.take ((wrap64 ((l1.length : Int) - x6_2)) : Int).toNat).drop (x5_4 : Int).toNat).length = ((wrap64 ((l1.length : Int) - x6_2)).toNat - x5_4.toNat) from (by rw [List.length_drop, List.length_take]; have h_ : ((wrap64 ((l1.length : Int) - x6_2)) : Int) ≤ (l1.length : Int) := of_decide_eq_true (by first | (with_reducible assumption) | assumption); omega)]; repeat (first | exact (Kd.C_below HR271.out HB.out) | (with_reducible refine Kd.C_alloc ?_ _) | (with_reducible refine Kd.C_drewN ?_ _) | (with_reducible refine Kd.C_drew ?_))) | (repeat (first | exact (Kd.C_below HR271.out HB.out) | (with_reducible refine Kd.C_alloc ?_ _) | (with_reducible refine Kd.C_drewN ?_ _) | (with_reducible refine Kd.C_drew ?_)))); (case aB => exact (uL HB.out)); (case aF => exact (fun k_ hk => (Nat.le_trans (below_size (uL HB.out)) hk))); (case aO => exact (uR (Kd.R_mono HO270.out (fun _ hk => hk.1)))); (case aS => exact (below_size (uL HB.out))); (case aL => have := LMc44.out; have hlx_ := (show ((l1.take ((wrap64 ((l1.length : Int) - x6_2)) : Int).toNat).drop (x5_4 : Int).toNat).length = ((wrap64 ((l1.length : Int) - x6_2)).toNat - x5_4.toNat) from (by rw [List.length_drop, List.length_take]; have h_ : ((wrap64 ((l1.length : Int) - x6_2)) : Int) ≤ (l1.length : Int) := of_decide_eq_true (by first | (with_reducible assumption) | assumption); omega)); omega); intro v273 w48 ho hb hg hat; rw [← Ny272.out] at ho; have n0_ := mk0 (hb); have n1_ := mk0 (ho); clear HB; clear HO270; have HB := n0_; have HO274 := n1_; clear n0_ n1_; clear ho hb hg hat; obtain ⟨Ao49, co49, eo49⟩ := Kd.R_slice HO274.out; subst eo49) | ((with_reducible refine gate_dst (N := 83) rfl ?_); (try (refine gate_guard (by rfl) ?_; dsimp only)); refine Kd.N_lit k60 _ 60 ?hg (N' := 83) ?hd (xs := ([(⟨x5_4, wrap64 ((l0.length : Int) - x6_2), y272⟩ : S60)] : List (S60))) (inner := [.int .i64 x5_4, .int .i64 (wrap64 ((l0.length : Int) - x6_2)), .slice Ao49 y272.length co49]) (ok := (fun k_ => (w.heap.size ≤ k_))) (okp := (fun k_ => (w.heap.size ≤ k_))) ?hr ?hp (fun _ hk => hk) ((show ∀ k_, w48.heap.size ≤ k_ → (fun k_ => (w.heap.size ≤ k_)) k_ from fun k_ hk => (Nat.le_trans (below_size (uL HB.out)) hk)) _ (Nat.le_refl _)) (Below.refl _ _) (Nat.le_refl _) (by simp) ?_; (case hd => rfl); (case hg => rfl); (case hr => first | (go_simp; done) | (go_simp; rfl)); (case hp => exact (Reps.c3 (show Kd.FK k60 _ _ (⟨x5_4, wrap64 ((l0.length : Int) - x6_2), y272⟩ : S60) [.int .i64 x5_4, .int .i64 (wrap64 ((l0.length : Int) - x6_2)), .slice Ao49 y272.length co49] from (k60_mkF _ _ (⟨x5_4, wrap64 ((l0.length : Int) - x6_2), y272⟩ : S60) (Kd.R_reads' (Kd.R_mono (ok' := (fun k_ => (w.heap.size ≤ k_))) (HO274.out) (fun k_ hk => hk))).2.1 (Kd.R_F (Kd.R_mono (ok' := (fun k_ => (w.heap.size ≤ k_))) (HO274.out) (fun k_ hk => hk))))) (Reps.none _ _))); intro v276 w50 ho51 hb hg_ hnew_; clear hg_ hnew_; (first | rw [← Ny275.out] at ho51 | (simp only [Int.reduceToNat] at ho51; rw [← Ny275.out] at ho51)); have n0_ := mk0 (Kd.N_lower ho51 (below_size (uL HB.out))); have n1_ := mk0 (below_step (uL HB.out) hb); clear HB; clear HO274; have HO277 := n0_; have HB := n1_; clear n0_ n1_; clear hb ho51)); try go_wp2_with (first | ((with_reducible refine gate_dst (N := 73) rfl ?_); (try (refine gate_guard (by rfl) ?_; dsimp only)); refine Kd.R_lit Kd.string _ 9 ?hg (N := 73) ?hd (xs := ([] : List ByteArray)) (inner := []) (ok := fun _ => True) (okp := fun _ => True) ?hr ?hp (fun _ hk => hk) trivial (Below.refl _ _) (Nat.le_refl _) (by simp) ?_; (case hd => rfl); (case hg => rfl); (case hr => first | (go_simp; done) | (go_simp; rfl)); (case hp => exact (Reps.none _ _)); intro v269 w45 ho46 hb hg_ hnew_; clear hg_ hnew_; (first | rw [← Ny268.out] at ho46 | (simp only [Int.reduceToNat] at ho46; rw [← Ny268.out] at ho46)); have n0_ := mk0 (Kd.R_lower (Kd.R_newM (M := fun k_ => (w.heap.size ≤ k_)) ho46 (below_size (uL HB.out)) (fun k_ h_ => h_)) (below_size (uL HB.out))); have n1_ := mk0 (below_step (uL HB.out) hb); clear HB; have HO270 := n0_; have HB := n1_; clear n0_ n1_; clear hb ho46; obtain ⟨i047, hi047, _, hsz47, _⟩ := info_parts info9; obtain ⟨A47, hcut47, hA47, hC47⟩ := print_mid_of (P := Tryd.prog) Value.string (⟨#[]⟩ : ByteArray) 22 9 .i64 .i64 Tryd.underlying22 hi047 hsz47 A1 c1 l1 x5_4 (wrap64 ((l1.length : Int) - x6_2)) (of_decide_eq_true (by first | (with_reducible assumption) | assumption)) (by first | omega | exact of_decide_eq_true (by first | (with_reducible assumption) | assumption)) (of_decide_eq_true (by first | (with_reducible assumption) | assumption)) HC1.out; have HR271 := mk0 (Kd.C_of_reads (h1 := fun _ => rfl) (hA47 _ (Kd.reads_of_C HR1.out))); have HC271 := mk0 hC47; clear hA47 hC47 hi047 hsz47) | ((with_reducible refine gate_builtin (b := .append) (xs := #[.tmp 73, .tmp 80]) rfl ?_); (try (refine gate_guard (by rfl) ?_; dsimp only)); at_builtin; refine Kd.R_append_rows Kd.string (w0 := w) w.heap.size rfl (.tmp 73) (.tmp 80) 22 9 (.string ⟨#[]⟩) 16 rfl Tryd.underlying22 info9 rfl (by decide) (by omega) v269 y268 ((l1.take ((wrap64 ((l1.length : Int) - x6_2)) : Int).toNat).drop (x5_4 : Int).toNat) _ _ _ (fun k_ => (w.heap.size ≤ k_)) (fun _ => False) rfl rfl ?aO ?aR (fun _ _ h => h) (fun _ h => h.elim) ?aF ?aB ?aS ?aL ?_; (case aR => first | (rw [← show ((l1.take ((wrap64 ((l1.length : Int) - x6_2)) : Int).toNat).drop (x5_4 : Int).toNat).length = ((wrap64 ((l1.length : Int) - x6_2)).toNat - x5_4.toNat) from (by rw [List.length_drop, List.length_take]; have h_ : ((wrap64 ((l1.length : Int) - x6_2)) : Int) ≤ (l1.length : Int) := of_decide_eq_true (by first | (with_reducible assumption) | assumption); omega)]; repeat (first | exact (Kd.C_below HR271.out HB.out) | (with_reducible refine Kd.C_alloc ?_ _) | (with_reducible refine Kd.C_drewN ?_ _) | (with_reducible refine Kd.C_drew ?_))) | (repeat (first | exact (Kd.C_below HR271.out HB.out) | (with_reducible refine Kd.C_alloc ?_ _) | (with_reducible refine Kd.C_drewN ?_ _) | (with_reducible refine Kd.C_drew ?_)))); (case aB => exact (uL HB.out)); (case aF => exact (fun k_ hk => (Nat.le_trans (below_size (uL HB.out)) hk))); (case aO => exact (uR (Kd.R_mono HO270.out (fun _ hk => hk.1)))); (case aS => exact (below_size (uL HB.out))); (case aL => have := LMc44.out; have hlx_ := (show ((l1.take ((wrap64 ((l1.length : Int) - x6_2)) : Int).toNat).drop (x5_4 : Int).toNat).length = ((wrap64 ((l1.length : Int) - x6_2)).toNat - x5_4.toNat) from (by rw [List.length_drop, List.length_take]; have h_ : ((wrap64 ((l1.length : Int) - x6_2)) : Int) ≤ (l1.length : Int) := of_decide_eq_true (by first | (with_reducible assumption) | assumption); omega)); omega); intro v273 w48 ho hb hg hat; rw [← Ny272.out] at ho; have n0_ := mk0 (hb); have n1_ := mk0 (ho); clear HB; clear HO270; have HB := n0_; have HO274 := n1_; clear n0_ n1_; clear ho hb hg hat; obtain ⟨Ao49, co49, eo49⟩ := Kd.R_slice HO274.out; subst eo49) | ((with_reducible refine gate_dst (N := 83) rfl ?_); (try (refine gate_guard (by rfl) ?_; dsimp only)); refine Kd.N_lit k60 _ 60 ?hg (N' := 83) ?hd (xs := ([(⟨x5_4, wrap64 ((l0.length : Int) - x6_2), y272⟩ : S60)] : List (S60))) (inner := [.int .i64 x5_4, .int .i64 (wrap64 ((l0.length : Int) - x6_2)), .slice Ao49 y272.length co49]) (ok := (fun k_ => (w.heap.size ≤ k_))) (okp := (fun k_ => (w.heap.size ≤ k_))) ?hr ?hp (fun _ hk => hk) ((show ∀ k_, w48.heap.size ≤ k_ → (fun k_ => (w.heap.size ≤ k_)) k_ from fun k_ hk => (Nat.le_trans (below_size (uL HB.out)) hk)) _ (Nat.le_refl _)) (Below.refl _ _) (Nat.le_refl _) (by simp) ?_; (case hd => rfl); (case hg => rfl); (case hr => first | (go_simp; done) | (go_simp; rfl)); (case hp => exact (Reps.c3 (show Kd.FK k60 _ _ (⟨x5_4, wrap64 ((l0.length : Int) - x6_2), y272⟩ : S60) [.int .i64 x5_4, .int .i64 (wrap64 ((l0.length : Int) - x6_2)), .slice Ao49 y272.length co49] from (k60_mkF _ _ (⟨x5_4, wrap64 ((l0.length : Int) - x6_2), y272⟩ : S60) (Kd.R_reads' (Kd.R_mono (ok' := (fun k_ => (w.heap.size ≤ k_))) (HO274.out) (fun k_ hk => hk))).2.1 (Kd.R_F (Kd.R_mono (ok' := (fun k_ => (w.heap.size ≤ k_))) (HO274.out) (fun k_ hk => hk))))) (Reps.none _ _))); intro v276 w50 ho51 hb hg_ hnew_; clear hg_ hnew_; (first | rw [← Ny275.out] at ho51 | (simp only [Int.reduceToNat] at ho51; rw [← Ny275.out] at ho51)); have n0_ := mk0 (Kd.N_lower ho51 (below_size (uL HB.out))); have n1_ := mk0 (below_step (uL HB.out) hb); clear HB; clear HO274; have HO277 := n0_; have HB := n1_; clear n0_ n1_; clear hb ho51)))
           go_ret
           exact ⟨_, by first | rfl | (simp [errW_none, errW_some] <;> rfl) | (simp [*, errW_none, errW_some] <;> rfl), uN HO277.out, uL HB.out⟩
          ·rw [if_neg c44] at H
           exact absurd H (by simp)
         ·rw [if_neg c43] at H
          exact absurd H (by simp)
        ·rw [if_neg c42] at H
         exact absurd H (by simp)
       ·rw [if_neg c41] at H
        exact absurd H (by simp)

end Go.Proofs.YteeeoblpfepepaaDoor.X
