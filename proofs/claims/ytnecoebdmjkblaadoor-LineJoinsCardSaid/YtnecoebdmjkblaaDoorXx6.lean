-- PRINTED by print.py (a twelfth state) out of the translation. Not trusted: Lean checks it.
import Derived.Test.YtnecoebdmjkblaaDoorXx0
import Derived.Test.YtnecoebdmjkblaaDoorXx2
import Derived.Test.YtnecoebdmjkblaaDoorXx5
import Derived.Test.YtnecoebdmjkblaaDoorHandU
import Derived.Test.YtnecoebdmjkblaaDoorHandX
namespace Go.Proofs.YtnecoebdmjkblaaDoor.X
open Go.Proofs.YtnecoebdmjkblaaDoor.Flt Go.Proofs.YtnecoebdmjkblaaDoor.H Go.RowKit Go.Proofs.YtnecoebdmjkblaaDoorW.PrintWords Go.Proofs.YtnecoebdmjkblaaDoorW.PrintLast Go.Proofs.YtnecoebdmjkblaaDoorW.PrintMore
attribute [local go_sem] max2_int min2_int max_two min_two max_three min_three max_four min_four   -- for this text's walks alone
set_option linter.unusedVariables false
set_option linter.unusedSimpArgs false

/-! ### furrowlaw2_LineJoins: function 4 -/
mutual
def furrowlaw2_LineJoins.j0 : Nat → List ByteArray → List ByteArray → Bool → Option (Bool)
 | 0, _, _, _ => none
 | k + 1, x0, x1, x24 => if x24 = true then (some true) else (furrowlaw2_LineJoins.l0 k x0 x1 (⟨#[]⟩ : ByteArray) (⟨#[]⟩ : ByteArray) 0)
def furrowlaw2_LineJoins.l0 : Nat → List ByteArray → List ByteArray → ByteArray → ByteArray → Int → Option (Bool)
 | 0, _, _, _, _, _ => none
 | k + 1, x0, x1, x5, x6, x7 => if x7 < (x0.length : Int) then (if 0 ≤ x7 then (if ((rdOf ByteArray.empty x0 x7).size : Int) > 100 then (some true) else (if x5.size + (rdOf ByteArray.empty x0 x7).size ≤ 9223372036854775807 then (if (x5 ++ (rdOf ByteArray.empty x0 x7)).size + 1 ≤ 9223372036854775807 then (furrowlaw2_LineJoins.l0 k x0 x1 ((x5 ++ (rdOf ByteArray.empty x0 x7)) ++ (⟨#[10]⟩ : ByteArray)) x6 (wrap64 (x7 + 1))) else (none)) else (none))) else (none)) else (furrowlaw2_LineJoins.l1 k x1 x5 x6 0)
def furrowlaw2_LineJoins.l1 : Nat → List ByteArray → ByteArray → ByteArray → Int → Option (Bool)
 | 0, _, _, _, _ => none
 | k + 1, x1, x5, x6, x8 => if x8 < (x1.length : Int) then (if 0 ≤ x8 then (if ((rdOf ByteArray.empty x1 x8).size : Int) > 100 then (some true) else (if x6.size + (rdOf ByteArray.empty x1 x8).size ≤ 9223372036854775807 then (furrowlaw2_LineJoins.l1 k x1 x5 (x6 ++ (rdOf ByteArray.empty x1 x8)) (wrap64 (x8 + 1))) else (none))) else (none)) else ((line_Split.f x5).bind fun bt135 => ((line_Split.f x6).bind fun bt141 => (if x5.size + x6.size ≤ 9223372036854775807 then ((line_Split.f (x5 ++ x6)).bind fun bt147 => (if (bt135.2.length : Int) = 0 then (if (bt141.2.length : Int) = 0 then (furrowlaw2_LineJoins.j3 k x5 bt135.1 bt141.1 bt147.1 bt147.2 false) else (furrowlaw2_LineJoins.j3 k x5 bt135.1 bt141.1 bt147.1 bt147.2 true)) else (furrowlaw2_LineJoins.j3 k x5 bt135.1 bt141.1 bt147.1 bt147.2 true))) else (none))))
def furrowlaw2_LineJoins.j3 : Nat → ByteArray → List ByteArray → List ByteArray → List ByteArray → List (Flt) → Bool → Option (Bool)
 | 0, _, _, _, _, _, _ => none
 | k + 1, x5, x9, x11, x13, x14, x84 => if x84 = true then (if (x14.length : Int) = 0 then (some false) else (some true)) else (if (x14.length : Int) = 0 then ((some (([] : List ByteArray) : List ByteArray)).bind fun y153 => (if y153.length + x9.length < 8796093022208 then ((some (y153 ++ x9 : List ByteArray)).bind fun y156 => (if y156.length + x11.length < 8796093022208 then ((furrowref4_SameLines.f k x13 (y156 ++ x11)).bind fun t162 => (if t162 = true then ((line_Join.f x9).bind fun t163 => (some (t163.toList == x5.toList))) else (some false))) else (none))) else (none))) else (some false))
end
def furrowlaw2_LineJoins.f (k : Nat) (l0 : List ByteArray) (l1 : List ByteArray) : Option (Bool) := (furrowlaw2_known.f).bind fun t130 => (if t130 = true then (if (l0.length : Int) > 20 then (furrowlaw2_LineJoins.j0 k l0 l1 true) else (furrowlaw2_LineJoins.j0 k l0 l1 (decide ((l1.length : Int) > 20)))) else (some false))
theorem furrowlaw2_LineJoins.mono_l : ∀ k, (∀ y0 y1 y2, LeO (furrowlaw2_LineJoins.j0 k y0 y1 y2) (furrowlaw2_LineJoins.j0 (k + 1) y0 y1 y2)) ∧ (∀ y0 y1 y2 y3 y4, LeO (furrowlaw2_LineJoins.l0 k y0 y1 y2 y3 y4) (furrowlaw2_LineJoins.l0 (k + 1) y0 y1 y2 y3 y4)) ∧ (∀ y0 y1 y2 y3, LeO (furrowlaw2_LineJoins.l1 k y0 y1 y2 y3) (furrowlaw2_LineJoins.l1 (k + 1) y0 y1 y2 y3)) ∧ (∀ y0 y1 y2 y3 y4 y5, LeO (furrowlaw2_LineJoins.j3 k y0 y1 y2 y3 y4 y5) (furrowlaw2_LineJoins.j3 (k + 1) y0 y1 y2 y3 y4 y5))
 | 0 => ⟨fun _ _ _ r h => by simp [furrowlaw2_LineJoins.j0] at h, fun _ _ _ _ _ r h => by simp [furrowlaw2_LineJoins.l0] at h, fun _ _ _ _ r h => by simp [furrowlaw2_LineJoins.l1] at h, fun _ _ _ _ _ _ r h => by simp [furrowlaw2_LineJoins.j3] at h⟩
 | k + 1 => by
  obtain ⟨ih0, ih1, ih2, ih3⟩ := furrowlaw2_LineJoins.mono_l k
  refine ⟨?_, ?_, ?_, ?_⟩
  ·intro y0 y1 y2
   unfold furrowlaw2_LineJoins.j0
   repeat' first
   | (with_reducible exact ih0 _ _ _)
   | (with_reducible exact ih1 _ _ _ _ _)
   | (with_reducible exact ih2 _ _ _ _)
   | (with_reducible exact ih3 _ _ _ _ _ _)
   | (with_reducible exact furrowref4_SameLines.mono _ _ _)
   | (with_reducible exact LeO.refl _)
   | (with_reducible exact LeO.none _)
   | (with_reducible refine LeO.ite ?_ ?_)
   | (with_reducible refine LeO.bind ?_ (fun _ => ?_))
   | exact ih0 _ _ _
   | exact ih1 _ _ _ _ _
   | exact ih2 _ _ _ _
   | exact ih3 _ _ _ _ _ _
   | exact furrowref4_SameLines.mono _ _ _
   | exact LeO.none _
   | refine LeO.ite ?_ ?_
   | refine LeO.bind ?_ (fun _ => ?_)
  ·intro y0 y1 y2 y3 y4
   unfold furrowlaw2_LineJoins.l0
   repeat' first
   | (with_reducible exact ih0 _ _ _)
   | (with_reducible exact ih1 _ _ _ _ _)
   | (with_reducible exact ih2 _ _ _ _)
   | (with_reducible exact ih3 _ _ _ _ _ _)
   | (with_reducible exact furrowref4_SameLines.mono _ _ _)
   | (with_reducible exact LeO.refl _)
   | (with_reducible exact LeO.none _)
   | (with_reducible refine LeO.ite ?_ ?_)
   | (with_reducible refine LeO.bind ?_ (fun _ => ?_))
   | exact ih0 _ _ _
   | exact ih1 _ _ _ _ _
   | exact ih2 _ _ _ _
   | exact ih3 _ _ _ _ _ _
   | exact furrowref4_SameLines.mono _ _ _
   | exact LeO.none _
   | refine LeO.ite ?_ ?_
   | refine LeO.bind ?_ (fun _ => ?_)
  ·intro y0 y1 y2 y3
   unfold furrowlaw2_LineJoins.l1
   repeat' first
   | (with_reducible exact ih0 _ _ _)
   | (with_reducible exact ih1 _ _ _ _ _)
   | (with_reducible exact ih2 _ _ _ _)
   | (with_reducible exact ih3 _ _ _ _ _ _)
   | (with_reducible exact furrowref4_SameLines.mono _ _ _)
   | (with_reducible exact LeO.refl _)
   | (with_reducible exact LeO.none _)
   | (with_reducible refine LeO.ite ?_ ?_)
   | (with_reducible refine LeO.bind ?_ (fun _ => ?_))
   | exact ih0 _ _ _
   | exact ih1 _ _ _ _ _
   | exact ih2 _ _ _ _
   | exact ih3 _ _ _ _ _ _
   | exact furrowref4_SameLines.mono _ _ _
   | exact LeO.none _
   | refine LeO.ite ?_ ?_
   | refine LeO.bind ?_ (fun _ => ?_)
  ·intro y0 y1 y2 y3 y4 y5
   unfold furrowlaw2_LineJoins.j3
   repeat' first
   | (with_reducible exact ih0 _ _ _)
   | (with_reducible exact ih1 _ _ _ _ _)
   | (with_reducible exact ih2 _ _ _ _)
   | (with_reducible exact ih3 _ _ _ _ _ _)
   | (with_reducible exact furrowref4_SameLines.mono _ _ _)
   | (with_reducible exact LeO.refl _)
   | (with_reducible exact LeO.none _)
   | (with_reducible refine LeO.ite ?_ ?_)
   | (with_reducible refine LeO.bind ?_ (fun _ => ?_))
   | exact ih0 _ _ _
   | exact ih1 _ _ _ _ _
   | exact ih2 _ _ _ _
   | exact ih3 _ _ _ _ _ _
   | exact furrowref4_SameLines.mono _ _ _
   | exact LeO.none _
   | refine LeO.ite ?_ ?_
   | refine LeO.bind ?_ (fun _ => ?_)
theorem furrowlaw2_LineJoins.mono : ∀ a0 a1 k, LeO (furrowlaw2_LineJoins.f k a0 a1) (furrowlaw2_LineJoins.f (k + 1) a0 a1) := by
 intro a0 a1 k
 obtain ⟨ih0, ih1, ih2, ih3⟩ := furrowlaw2_LineJoins.mono_l k
 unfold furrowlaw2_LineJoins.f
 repeat' first
   | (with_reducible exact ih0 _ _ _)
   | (with_reducible exact ih1 _ _ _ _ _)
   | (with_reducible exact ih2 _ _ _ _)
   | (with_reducible exact ih3 _ _ _ _ _ _)
   | (with_reducible exact furrowref4_SameLines.mono _ _ _)
   | (with_reducible exact LeO.refl _)
   | (with_reducible exact LeO.none _)
   | (with_reducible refine LeO.ite ?_ ?_)
   | (with_reducible refine LeO.bind ?_ (fun _ => ?_))
   | exact ih0 _ _ _
   | exact ih1 _ _ _ _ _
   | exact ih2 _ _ _ _
   | exact ih3 _ _ _ _ _ _
   | exact furrowref4_SameLines.mono _ _ _
   | exact LeO.none _
   | refine LeO.ite ?_ ?_
   | refine LeO.bind ?_ (fun _ => ?_)
set_option maxHeartbeats 8000000 in
set_option maxRecDepth 100000 in
theorem furrowlaw2_LineJoins.calls (k : Nat) (A0 : Option Addr) (c0 : Nat) (l0 : List ByteArray) (A1 : Option Addr) (c1 : Nat) (l1 : List ByteArray) (w : World) (hr0 : Kd.C Kd.string w A0 l0.length l0) (hc0 : l0.length ≤ c0) (hr1 : Kd.C Kd.string w A1 l1.length l1) (hc1 : l1.length ≤ c1) (h : furrowlaw2_LineJoins.f k l0 l1 = some true) :
  Calls Tryd.prog 4 #[.slice A0 l0.length c0, .slice A1 l1.length c1] w fun e w' => e = .returned (.bool true) ∧ Below w.heap.size w w' := by
 have HR0 := mk0 hr0
 have HC0 := mk0 hc0
 clear hr0 hc0
 have HR1 := mk0 hr1
 have HC1 := mk0 hc1
 clear hr1 hc1
 have HB := mk0 (Below.refl w.heap.size w)
 have H : ((furrowlaw2_known.f).bind fun t130 => (if t130 = true then (if (l0.length : Int) > 20 then (furrowlaw2_LineJoins.j0 k l0 l1 true) else (furrowlaw2_LineJoins.j0 k l0 l1 (decide ((l1.length : Int) > 20)))) else (some false))) = some true := h
 clear h
 replace H := Option.bind_eq_some_iff.mp H
 obtain ⟨t130, A30, H⟩ := H
 replace H : (if t130 = true then (if (l0.length : Int) > 20 then (furrowlaw2_LineJoins.j0 k l0 l1 true) else (furrowlaw2_LineJoins.j0 k l0 l1 (decide ((l1.length : Int) > 20)))) else (some false)) = some true := H
 have A3 := mk0 A30
 clear A30
 by_cases c4 : t130 = true
 ·subst c4
  have H1 : (if (l0.length : Int) > 20 then (furrowlaw2_LineJoins.j0 k l0 l1 true) else (furrowlaw2_LineJoins.j0 k l0 l1 (decide ((l1.length : Int) > 20)))) = some true := by rw [if_pos rfl] at H; first | done | exact H
  clear H
  have H := H1
  clear H1
  have HC5 := mk0 H
  clear H
  go_enter Tryd.func4, Tryd.ntmps4
  go_upto_region 3 with (first | ((with_reducible refine gate_callee (f := 8) rfl ?_); refine goesL_ (some 15) rfl rfl Tryd.func8 (by kernel_rfl) rfl #[] rfl (by (try simp only [List.map_toArray, List.map_cons, List.map_nil]); first | done | rfl | (simp only [List.length_drop, List.length_take]; rfl)) ?_; (with_reducible refine (furrowlaw2_known.calls   _ A3.out).mono ?_); rintro e w6 ⟨rfl, hb⟩; refine ⟨_, rfl, ?_⟩; have n0_ := mk0 (below_step (uL HB.out) hb); clear HB; have HB := n0_; clear n0_; (try clear hb); (try clear hb2); (try clear hk); (try clear hi)))
  (try simp only [Act.put, List.setIfInBounds_toArray, List.set_cons_zero, List.set_cons_succ])
  go_cut [24] (fun v24 wc => ∃ (kq : Nat) (x24_4 : Bool), v24 = .bool x24_4 ∧ Aside0 (furrowlaw2_LineJoins.j0 kq l0 l1 x24_4 = some true) ∧ Aside0 (kq ≤ k) ∧ Aside0 (Below w.heap.size w wc))
  case first =>
   have H := HC5.out
   clear HC5
   by_cases c7 : (l0.length : Int) > 20
   ·rw [if_pos c7] at H
    have c7b0 : decide (20 < (l0.length : Int)) = true := decide_eq_true c7
    have c7b1 : decide (20 < l0.length) = true := decide_eq_true (by omega)
    clear c7
    (first | rw [c7b0] | (simp only [i64_w, i32_w]; rw [c7b0]) | skip)
    have H' := mk0 H
    clear H
    go_wp2
    go_meet
    case rel => exact ⟨_, (true), (by first | rfl | (simp; done) | (simp [*]; done) | (simp [bne_nil_, beq_nil_]; done)), H', ⟨by first | omega | exact Nat.le_refl _⟩, ⟨uL HB.out⟩⟩
   ·rw [if_neg c7] at H
    have c7b0 : decide (20 < (l0.length : Int)) = false := decide_eq_false c7
    have c7b1 : decide (20 < l0.length) = false := decide_eq_false (by omega)
    clear c7
    (first | rw [c7b0] | (simp only [i64_w, i32_w]; rw [c7b0]) | skip)
    have H' := mk0 H
    clear H
    go_wp2
    go_meet
    case rel => exact ⟨_, (decide ((l1.length : Int) > 20)), (by first | rfl | (simp; done) | (simp [*]; done) | (simp [bne_nil_, beq_nil_]; done)), H', ⟨by first | omega | exact Nat.le_refl _⟩, ⟨uL HB.out⟩⟩
  case rest =>
   clear HC5
   try clear c1
   try clear p2
   try clear c4
   try clear c7
   try clear c7b0
   try clear c7b1
   obtain ⟨kq, x24_4, rfl, HA, HJ4, HB⟩ := hcut
   cases kq with
   | zero => exact absurd HA.out (by simp [furrowlaw2_LineJoins.j0])
   | succ kj4 =>
    have H := HA.out
    clear HA
    simp only [furrowlaw2_LineJoins.j0] at H
    by_cases c8 : x24_4 = true
    ·subst c8
     have H1 : (some true) = some true := by rw [if_pos rfl] at H; first | done | exact H
     clear H
     have H := H1
     clear H1
     have HT := mk0 (Option.some.inj H)
     clear H
     go_wp2
     go_ret
     exact ⟨by first | rfl | (simp [errW_none, errW_some] <;> rfl) | (exact congrArg (fun b_ => Ending.returned (Value.bool b_)) HT.out) | (rw [show _ = _ from HT.out]) | (simp [HT.out]; done) | (simp [show _ = _ from HT.out]; done) | (simp [*, errW_none, errW_some] <;> rfl), uL HB.out⟩
    ·replace c8 := Bool.eq_false_iff.mpr c8
     subst c8
     have H1 : (furrowlaw2_LineJoins.l0 kj4 l0 l1 (⟨#[]⟩ : ByteArray) (⟨#[]⟩ : ByteArray) 0) = some true := by rw [if_neg (show ¬ (false = true) by decide)] at H; first | done | exact H
     clear H
     have H := H1
     clear H1
     have H' := mk0 H
     clear H
     go_wp2
     go_loopg [5, 7] kj4 (fun kq v5 v7 w' => ∃ (x5_2 : ByteArray) (x7_2 : Int), v5 = .string x5_2 ∧ v7 = .int .i64 x7_2 ∧ Aside0 (furrowlaw2_LineJoins.l0 kq l0 l1 x5_2 (⟨#[]⟩ : ByteArray) x7_2 = some true) ∧ Aside0 (kq ≤ kj4) ∧ Aside0 (Below w.heap.size w w'))
     case atStart => exact ⟨((⟨#[]⟩ : ByteArray)), (0), (by first | rfl | (simp; done) | (simp [*]; done) | (simp [bne_nil_, beq_nil_]; done)), (by first | rfl | (simp; done) | (simp [*]; done) | (simp [bne_nil_, beq_nil_]; done)), H', ⟨Nat.le_refl _⟩, ⟨uL HB.out⟩⟩
     case round =>
      clear H'
      try clear c1
      try clear p2
      try clear c4
      try clear c7
      try clear c7b0
      try clear c7b1
      try clear c8
      try clear p2
      obtain ⟨x5_2, x7_2, rfl, rfl, HA, HK2, HB⟩ := hrel
      cases gk with
      | zero => exact absurd HA.out (by simp [furrowlaw2_LineJoins.l0])
      | succ k2 =>
       have H := HA.out
       clear HA
       simp only [furrowlaw2_LineJoins.l0] at H
       by_cases c9 : x7_2 < (l0.length : Int)
       ·rw [if_pos c9] at H
        have c9b0 : decide (x7_2 < (l0.length : Int)) = true := decide_eq_true c9
        clear c9
        by_cases c10 : 0 ≤ x7_2
        ·rw [if_pos c10] at H
         have c10b0 : decide (0 ≤ x7_2) = true := decide_eq_true c10
         clear c10
         by_cases c11 : ((rdOf ByteArray.empty l0 x7_2).size : Int) > 100
         ·rw [if_pos c11] at H
          have c11b0 : decide (100 < ((rdOf ByteArray.empty l0 x7_2).size : Int)) = true := decide_eq_true c11
          have c11b1 : decide (100 < (rdOf ByteArray.empty l0 x7_2).size) = true := decide_eq_true (by omega)
          clear c11
          have HT := mk0 (Option.some.inj H)
          clear H
          have p131 : 0 ≤ (x7_2 : Int) := of_decide_eq_true (by first | (with_reducible assumption) | assumption)
          have q131 : x7_2 < (l0.length : Int) := of_decide_eq_true (by first | (with_reducible assumption) | assumption)
          obtain ⟨ad131, e131, hx131_0⟩ := Kd.at_string HR0.out x7_2 p131 q131
          cases e131
          replace hx131_0 := (HB.out.cell (World.block_lt_of_cell? w _ hx131_0)).trans hx131_0
          replace p131 := eq_true p131
          replace q131 := eq_true q131
          go_wp2
          go_ret
          exact ⟨by first | rfl | (simp [errW_none, errW_some] <;> rfl) | (exact congrArg (fun b_ => Ending.returned (Value.bool b_)) HT.out) | (rw [show _ = _ from HT.out]) | (simp [HT.out]; done) | (simp [show _ = _ from HT.out]; done) | (simp [*, errW_none, errW_some] <;> rfl), uL HB.out⟩
         ·rw [if_neg c11] at H
          have c11b0 : decide (100 < ((rdOf ByteArray.empty l0 x7_2).size : Int)) = false := decide_eq_false c11
          have c11b1 : decide (100 < (rdOf ByteArray.empty l0 x7_2).size) = false := decide_eq_false (by omega)
          clear c11
          by_cases c12 : x5_2.size + (rdOf ByteArray.empty l0 x7_2).size ≤ 9223372036854775807
          ·rw [if_pos c12] at H
           have c12b0 := eq_true c12
           have c12b1 : decide (x5_2.size + (rdOf ByteArray.empty l0 x7_2).size ≤ 9223372036854775807) = true := decide_eq_true c12
           try have c12b2 : (9223372036854775807 < x5_2.size + (rdOf ByteArray.empty l0 x7_2).size) = False := eq_false (Nat.not_lt.2 c12)
           by_cases c13 : (x5_2 ++ (rdOf ByteArray.empty l0 x7_2)).size + 1 ≤ 9223372036854775807
           ·rw [if_pos c13] at H
            have c13b0 := eq_true c13
            have c13b1 : decide ((x5_2 ++ (rdOf ByteArray.empty l0 x7_2)).size + 1 ≤ 9223372036854775807) = true := decide_eq_true c13
            try have c13b2 : (9223372036854775807 < (x5_2 ++ (rdOf ByteArray.empty l0 x7_2)).size + 1) = False := eq_false (Nat.not_lt.2 c13)
            have c13s := c13
            simp only [ByteArray.size_append] at c13s
            have c13b3 := eq_true c13s
            have c13b4 := decide_eq_true c13s
            have c13b5 := eq_false (Nat.not_lt.2 c13s)
            clear c13s
            have H' := mk0 H
            clear H
            have p131 : 0 ≤ (x7_2 : Int) := of_decide_eq_true (by first | (with_reducible assumption) | assumption)
            have q131 : x7_2 < (l0.length : Int) := of_decide_eq_true (by first | (with_reducible assumption) | assumption)
            obtain ⟨ad131, e131, hx131_0⟩ := Kd.at_string HR0.out x7_2 p131 q131
            cases e131
            replace hx131_0 := (HB.out.cell (World.block_lt_of_cell? w _ hx131_0)).trans hx131_0
            replace p131 := eq_true p131
            replace q131 := eq_true q131
            have p132 : 0 ≤ (x7_2 : Int) := of_decide_eq_true (by first | (with_reducible assumption) | assumption)
            have q132 : x7_2 < (l0.length : Int) := of_decide_eq_true (by first | (with_reducible assumption) | assumption)
            obtain ⟨ad132, e132, hx132_0⟩ := Kd.at_string HR0.out x7_2 p132 q132
            obtain rfl : ad131 = ad132 := (by injection e132)
            replace hx132_0 := (HB.out.cell (World.block_lt_of_cell? w _ hx132_0)).trans hx132_0
            replace p132 := eq_true p132
            replace q132 := eq_true q132
            go_wp2
            go_roundg k2
            case measure => have := HJ4.out; have := HK2.out; omega
            case rel => exact ⟨((x5_2 ++ (rdOf ByteArray.empty l0 x7_2)) ++ (⟨#[10]⟩ : ByteArray)), (wrap64 (x7_2 + 1)), (by first | rfl | (simp; done) | (simp [*]; done) | (simp [bne_nil_, beq_nil_]; done)), (by first | rfl | (simp; done) | (simp [*]; done) | (simp [bne_nil_, beq_nil_]; done)), H', ⟨by have := HJ4.out; have := HK2.out; omega⟩, ⟨uL HB.out⟩⟩
           ·rw [if_neg c13] at H
            exact absurd H (by simp)
          ·rw [if_neg c12] at H
           exact absurd H (by simp)
        ·rw [if_neg c10] at H
         exact absurd H (by simp)
       ·rw [if_neg c9] at H
        have c9b0 : decide (x7_2 < (l0.length : Int)) = false := decide_eq_false c9
        clear c9
        have H' := mk0 H
        clear H
        go_wp2
        go_loopg [6, 8] k2 (fun kq v6 v8 w' => ∃ (x6_3 : ByteArray) (x8_3 : Int), v6 = .string x6_3 ∧ v8 = .int .i64 x8_3 ∧ Aside0 (furrowlaw2_LineJoins.l1 kq l1 x5_2 x6_3 x8_3 = some true) ∧ Aside0 (kq ≤ k2) ∧ Aside0 (Below w.heap.size w w'))
        case atStart => exact ⟨((⟨#[]⟩ : ByteArray)), (0), (by first | rfl | (simp; done) | (simp [*]; done) | (simp [bne_nil_, beq_nil_]; done)), (by first | rfl | (simp; done) | (simp [*]; done) | (simp [bne_nil_, beq_nil_]; done)), H', ⟨Nat.le_refl _⟩, ⟨uL HB.out⟩⟩
        case round =>
         clear H'
         try clear c1
         try clear p1
         try clear q1
         try clear hx1
         try clear p2
         try clear c4
         try clear p6
         try clear c7
         try clear c7b0
         try clear c7b1
         try clear c8
         try clear c9
         try clear c9b0
         try clear c10
         try clear c10b0
         try clear c11
         try clear c11b0
         try clear c11b1
         try clear c12
         try clear c12b0
         try clear c12b1
         try clear c12b2
         try clear c13
         try clear c13b0
         try clear c13b1
         try clear c13b2
         try clear p13
         try clear q13
         try clear hx13
         try clear hx131_0
         try clear hx132_0
         try clear p131
         try clear p132
         try clear p2
         try clear q131
         try clear q132
         obtain ⟨x6_3, x8_3, rfl, rfl, HA, HK3, HB⟩ := hrel
         cases gk with
         | zero => exact absurd HA.out (by simp [furrowlaw2_LineJoins.l1])
         | succ k3 =>
          have H := HA.out
          clear HA
          simp only [furrowlaw2_LineJoins.l1] at H
          by_cases c14 : x8_3 < (l1.length : Int)
          ·rw [if_pos c14] at H
           have c14b0 : decide (x8_3 < (l1.length : Int)) = true := decide_eq_true c14
           clear c14
           by_cases c15 : 0 ≤ x8_3
           ·rw [if_pos c15] at H
            have c15b0 : decide (0 ≤ x8_3) = true := decide_eq_true c15
            clear c15
            by_cases c16 : ((rdOf ByteArray.empty l1 x8_3).size : Int) > 100
            ·rw [if_pos c16] at H
             have c16b0 : decide (100 < ((rdOf ByteArray.empty l1 x8_3).size : Int)) = true := decide_eq_true c16
             have c16b1 : decide (100 < (rdOf ByteArray.empty l1 x8_3).size) = true := decide_eq_true (by omega)
             clear c16
             have HT := mk0 (Option.some.inj H)
             clear H
             have p133 : 0 ≤ (x8_3 : Int) := of_decide_eq_true (by first | (with_reducible assumption) | assumption)
             have q133 : x8_3 < (l1.length : Int) := of_decide_eq_true (by first | (with_reducible assumption) | assumption)
             obtain ⟨ad133, e133, hx133_0⟩ := Kd.at_string HR1.out x8_3 p133 q133
             cases e133
             replace hx133_0 := (HB.out.cell (World.block_lt_of_cell? w _ hx133_0)).trans hx133_0
             replace p133 := eq_true p133
             replace q133 := eq_true q133
             go_wp2
             go_ret
             exact ⟨by first | rfl | (simp [errW_none, errW_some] <;> rfl) | (exact congrArg (fun b_ => Ending.returned (Value.bool b_)) HT.out) | (rw [show _ = _ from HT.out]) | (simp [HT.out]; done) | (simp [show _ = _ from HT.out]; done) | (simp [*, errW_none, errW_some] <;> rfl), uL HB.out⟩
            ·rw [if_neg c16] at H
             have c16b0 : decide (100 < ((rdOf ByteArray.empty l1 x8_3).size : Int)) = false := decide_eq_false c16
             have c16b1 : decide (100 < (rdOf ByteArray.empty l1 x8_3).size) = false := decide_eq_false (by omega)
             clear c16
             by_cases c17 : x6_3.size + (rdOf ByteArray.empty l1 x8_3).size ≤ 9223372036854775807
             ·rw [if_pos c17] at H
              have c17b0 := eq_true c17
              have c17b1 : decide (x6_3.size + (rdOf ByteArray.empty l1 x8_3).size ≤ 9223372036854775807) = true := decide_eq_true c17
              try have c17b2 : (9223372036854775807 < x6_3.size + (rdOf ByteArray.empty l1 x8_3).size) = False := eq_false (Nat.not_lt.2 c17)
              have H' := mk0 H
              clear H
              have p133 : 0 ≤ (x8_3 : Int) := of_decide_eq_true (by first | (with_reducible assumption) | assumption)
              have q133 : x8_3 < (l1.length : Int) := of_decide_eq_true (by first | (with_reducible assumption) | assumption)
              obtain ⟨ad133, e133, hx133_0⟩ := Kd.at_string HR1.out x8_3 p133 q133
              cases e133
              replace hx133_0 := (HB.out.cell (World.block_lt_of_cell? w _ hx133_0)).trans hx133_0
              replace p133 := eq_true p133
              replace q133 := eq_true q133
              have p134 : 0 ≤ (x8_3 : Int) := of_decide_eq_true (by first | (with_reducible assumption) | assumption)
              have q134 : x8_3 < (l1.length : Int) := of_decide_eq_true (by first | (with_reducible assumption) | assumption)
              obtain ⟨ad134, e134, hx134_0⟩ := Kd.at_string HR1.out x8_3 p134 q134
              obtain rfl : ad133 = ad134 := (by injection e134)
              replace hx134_0 := (HB.out.cell (World.block_lt_of_cell? w _ hx134_0)).trans hx134_0
              replace p134 := eq_true p134
              replace q134 := eq_true q134
              go_wp2
              go_roundg k3
              case measure => have := HJ4.out; have := HK2.out; have := HK3.out; omega
              case rel => exact ⟨(x6_3 ++ (rdOf ByteArray.empty l1 x8_3)), (wrap64 (x8_3 + 1)), (by first | rfl | (simp; done) | (simp [*]; done) | (simp [bne_nil_, beq_nil_]; done)), (by first | rfl | (simp; done) | (simp [*]; done) | (simp [bne_nil_, beq_nil_]; done)), H', ⟨by have := HJ4.out; have := HK2.out; have := HK3.out; omega⟩, ⟨uL HB.out⟩⟩
             ·rw [if_neg c17] at H
              exact absurd H (by simp)
           ·rw [if_neg c15] at H
            exact absurd H (by simp)
          ·rw [if_neg c14] at H
           have c14b0 : decide (x8_3 < (l1.length : Int)) = false := decide_eq_false c14
           clear c14
           replace H := Option.bind_eq_some_iff.mp H
           obtain ⟨⟨t135, t136⟩, A180, H⟩ := H
           replace H : ((line_Split.f x6_3).bind fun bt141 => (if x5_2.size + x6_3.size ≤ 9223372036854775807 then ((line_Split.f (x5_2 ++ x6_3)).bind fun bt147 => (if (t136.length : Int) = 0 then (if (bt141.2.length : Int) = 0 then (furrowlaw2_LineJoins.j3 k3 x5_2 t135 bt141.1 bt147.1 bt147.2 false) else (furrowlaw2_LineJoins.j3 k3 x5_2 t135 bt141.1 bt147.1 bt147.2 true)) else (furrowlaw2_LineJoins.j3 k3 x5_2 t135 bt141.1 bt147.1 bt147.2 true))) else (none))) = some true := H
           have A18 := mk0 A180
           clear A180
           replace H := Option.bind_eq_some_iff.mp H
           obtain ⟨⟨t141, t142⟩, A190, H⟩ := H
           replace H : (if x5_2.size + x6_3.size ≤ 9223372036854775807 then ((line_Split.f (x5_2 ++ x6_3)).bind fun bt147 => (if (t136.length : Int) = 0 then (if (t142.length : Int) = 0 then (furrowlaw2_LineJoins.j3 k3 x5_2 t135 t141 bt147.1 bt147.2 false) else (furrowlaw2_LineJoins.j3 k3 x5_2 t135 t141 bt147.1 bt147.2 true)) else (furrowlaw2_LineJoins.j3 k3 x5_2 t135 t141 bt147.1 bt147.2 true))) else (none)) = some true := H
           have A19 := mk0 A190
           clear A190
           by_cases c20 : x5_2.size + x6_3.size ≤ 9223372036854775807
           ·rw [if_pos c20] at H
            have c20b0 := eq_true c20
            have c20b1 : decide (x5_2.size + x6_3.size ≤ 9223372036854775807) = true := decide_eq_true c20
            try have c20b2 : (9223372036854775807 < x5_2.size + x6_3.size) = False := eq_false (Nat.not_lt.2 c20)
            replace H := Option.bind_eq_some_iff.mp H
            obtain ⟨⟨t147, t148⟩, A210, H⟩ := H
            replace H : (if (t136.length : Int) = 0 then (if (t142.length : Int) = 0 then (furrowlaw2_LineJoins.j3 k3 x5_2 t135 t141 t147 t148 false) else (furrowlaw2_LineJoins.j3 k3 x5_2 t135 t141 t147 t148 true)) else (furrowlaw2_LineJoins.j3 k3 x5_2 t135 t141 t147 t148 true)) = some true := H
            have A21 := mk0 A210
            clear A210
            have HC22 := mk0 H
            clear H
            go_upto_region 21 with (first | ((with_reducible refine gate_callee (f := 13) rfl ?_); refine goesL_ (some 64) rfl rfl Tryd.func13 (by kernel_rfl) rfl #[.string x5_2] rfl (by (try simp only [List.map_toArray, List.map_cons, List.map_nil]); first | done | rfl | (simp only [List.length_drop, List.length_take]; rfl)) ?_; (with_reducible refine (line_Split.calls x5_2 t135 t136 _ A18.out).mono ?_); rintro e w23 ⟨v137, v139, rfl, ho0, ho1, hb⟩; refine ⟨_, rfl, ?_⟩; have n0_ := mk0 (Kd.R_lower ho0 (below_size (uL HB.out))); have n1_ := mk0 (Kd.R_lower ho1 (below_size (uL HB.out))); have n2_ := mk0 (below_step (uL HB.out) hb); clear HB; have HO138 := n0_; have HO140 := n1_; have HB := n2_; clear n0_ n1_ n2_; (try clear hb); (try clear hb2); (try clear hk); (try clear hi); (try clear ho0); (try clear ho1); (first | (have EHO140 := cmpV_no HO140.out (by with_reducible assumption)) | (have EHO140 := cmpV_yes HO140.out (by with_reducible assumption)) | skip)) | ((with_reducible refine gate_callee (f := 13) rfl ?_); refine goesL_ (some 69) rfl rfl Tryd.func13 (by kernel_rfl) rfl #[.string x6_3] rfl (by (try simp only [List.map_toArray, List.map_cons, List.map_nil]); first | done | rfl | (simp only [List.length_drop, List.length_take]; rfl)) ?_; (with_reducible refine (line_Split.calls x6_3 t141 t142 _ A19.out).mono ?_); rintro e w24 ⟨v143, v145, rfl, ho0, ho1, hb⟩; refine ⟨_, rfl, ?_⟩; have n0_ := mk0 (Kd.R_elder' (uR HO138.out) (Kd.R_base ho0) hb); have n1_ := mk0 (Kd.R_elder' (uR HO140.out) (Kd.R_base ho1) hb); have n2_ := mk0 (Kd.R_lower (Kd.R_new' ho0 (Kd.R_lt (uR HO138.out))) (below_size (uL HB.out))); have n3_ := mk0 (Kd.R_lower (Kd.R_new' ho1 (Kd.R_lt (uR HO140.out))) (below_size (uL HB.out))); have n4_ := mk0 (below_step (uL HB.out) hb); clear HO138; clear HO140; clear HB; have HO138 := n0_; have HO140 := n1_; have HO144 := n2_; have HO146 := n3_; have HB := n4_; clear n0_ n1_ n2_ n3_ n4_; (try clear hb); (try clear hb2); (try clear hk); (try clear hi); (try clear ho0); (try clear ho1); (first | (have EHO146 := cmpV_no HO146.out (by with_reducible assumption)) | (have EHO146 := cmpV_yes HO146.out (by with_reducible assumption)) | skip)) | ((with_reducible refine gate_callee (f := 13) rfl ?_); refine goesL_ (some 76) rfl rfl Tryd.func13 (by kernel_rfl) rfl #[.string (x5_2 ++ x6_3)] rfl (by (try simp only [List.map_toArray, List.map_cons, List.map_nil]); first | done | rfl | (simp only [List.length_drop, List.length_take]; rfl)) ?_; (with_reducible refine (line_Split.calls (x5_2 ++ x6_3) t147 t148 _ A21.out).mono ?_); rintro e w25 ⟨v149, v151, rfl, ho0, ho1, hb⟩; refine ⟨_, rfl, ?_⟩; have n0_ := mk0 (Kd.R_elder' (uR HO138.out) (Kd.R_base ho0) hb); have n1_ := mk0 (Kd.R_elder' (uR HO140.out) (Kd.R_base ho1) hb); have n2_ := mk0 (Kd.R_elder' (uR HO144.out) (Kd.R_base ho0) hb); have n3_ := mk0 (Kd.R_elder' (uR HO146.out) (Kd.R_base ho1) hb); have n4_ := mk0 (Kd.R_lower (Kd.R_new' (Kd.R_new' ho0 (Kd.R_lt (uR HO138.out))) (Kd.R_lt (uR HO144.out))) (below_size (uL HB.out))); have n5_ := mk0 (Kd.R_lower (Kd.R_new' (Kd.R_new' ho1 (Kd.R_lt (uR HO140.out))) (Kd.R_lt (uR HO146.out))) (below_size (uL HB.out))); have n6_ := mk0 (below_step (uL HB.out) hb); clear HO138; clear HO140; clear HO144; clear HO146; clear HB; have HO138 := n0_; have HO140 := n1_; have HO144 := n2_; have HO146 := n3_; have HO150 := n4_; have HO152 := n5_; have HB := n6_; clear n0_ n1_ n2_ n3_ n4_ n5_ n6_; (try clear hb); (try clear hb2); (try clear hk); (try clear hi); (try clear ho0); (try clear ho1); (first | (have EHO152 := cmpV_no HO152.out (by with_reducible assumption)) | (have EHO152 := cmpV_yes HO152.out (by with_reducible assumption)) | skip)))
            (try simp only [Act.put, List.setIfInBounds_toArray, List.set_cons_zero, List.set_cons_succ])
            go_cut [84] (fun v84 wc => ∃ (kq : Nat) (x84_21 : Bool), v84 = .bool x84_21 ∧ Aside0 (furrowlaw2_LineJoins.j3 kq x5_2 t135 t141 t147 t148 x84_21 = some true) ∧ Aside0 (kq ≤ k3) ∧ Aside0 (Kd.R Kd.string 9 wc w.heap.size (fun k_ => some k_ ≠ (v143 : Value).ownBlock ∧ some k_ ≠ (v149 : Value).ownBlock) v137 t135) ∧ Aside0 (Kd.R Kd.string 9 wc w.heap.size (fun k_ => some k_ ≠ (v137 : Value).ownBlock ∧ some k_ ≠ (v149 : Value).ownBlock) v143 t141) ∧ Aside0 (Kd.R Kd.string 9 wc w.heap.size (fun k_ => some k_ ≠ (v137 : Value).ownBlock ∧ some k_ ≠ (v143 : Value).ownBlock) v149 t147) ∧ Aside0 (Kd.R fltK 52 wc w.heap.size (fun _ => True) v151 t148) ∧ Aside0 (Below w.heap.size w wc))
            case first =>
             have H := HC22.out
             clear HC22
             by_cases c26 : (t136.length : Int) = 0
             ·rw [if_pos c26] at H
              have c26b0 : ((t136.length : Int) == 0) = true := beq_iff_eq.mpr c26
              have c26b1 : ((t136.length : Int) != 0) = false := bne_eq_false_iff_eq.mpr c26
              clear c26
              (first | rw [c26b0] | (simp only [i64_w, i32_w]; rw [c26b0]) | skip)
              by_cases c27 : (t142.length : Int) = 0
              ·rw [if_pos c27] at H
               have c27b0 : ((t142.length : Int) == 0) = true := beq_iff_eq.mpr c27
               have c27b1 : ((t142.length : Int) != 0) = false := bne_eq_false_iff_eq.mpr c27
               clear c27
               have H' := mk0 H
               clear H
               (first | (have EHO140 := cmpV_no HO140.out (by with_reducible assumption)) | (have EHO140 := cmpV_yes HO140.out (by with_reducible assumption)) | skip)
               (first | (have EHO146 := cmpV_no HO146.out (by with_reducible assumption)) | (have EHO146 := cmpV_yes HO146.out (by with_reducible assumption)) | skip)
               (first | (have EHO152 := cmpV_no HO152.out (by with_reducible assumption)) | (have EHO152 := cmpV_yes HO152.out (by with_reducible assumption)) | skip)
               go_wp2
               go_meet
               case rel => exact ⟨_, (false), (by first | rfl | (simp; done) | (simp [*]; done) | (simp [bne_nil_, beq_nil_]; done)), H', ⟨by have := HJ4.out; have := HK2.out; have := HK3.out; first | omega | exact Nat.le_refl _⟩, ⟨uR (Kd.R_mono HO138.out (fun _ hk => ⟨hk.1.2, hk.2⟩))⟩, ⟨uR (Kd.R_mono HO144.out (fun _ hk => ⟨hk.1.2, hk.2⟩))⟩, ⟨uR (Kd.R_mono HO150.out (fun _ hk => ⟨hk.1.2, hk.2⟩))⟩, ⟨uR (Kd.R_mono HO152.out (fun _ hk => trivial))⟩, ⟨uL HB.out⟩⟩
              ·rw [if_neg c27] at H
               have c27b0 : ((t142.length : Int) == 0) = false := beq_eq_false_iff_ne.mpr c27
               have c27b1 : ((t142.length : Int) != 0) = true := bne_iff_ne.mpr c27
               have c27b2 : ¬ (t142 = []) := fun h_ => c27 (by rw [h_]; rfl)
               have H' := mk0 H
               clear H
               (first | (have EHO140 := cmpV_no HO140.out (by with_reducible assumption)) | (have EHO140 := cmpV_yes HO140.out (by with_reducible assumption)) | skip)
               (first | (have EHO146 := cmpV_no HO146.out (by with_reducible assumption)) | (have EHO146 := cmpV_yes HO146.out (by with_reducible assumption)) | skip)
               (first | (have EHO152 := cmpV_no HO152.out (by with_reducible assumption)) | (have EHO152 := cmpV_yes HO152.out (by with_reducible assumption)) | skip)
               go_wp2
               go_meet
               case rel => exact ⟨_, (true), (by first | rfl | (simp; done) | (simp [*]; done) | (simp [bne_nil_, beq_nil_]; done)), H', ⟨by have := HJ4.out; have := HK2.out; have := HK3.out; first | omega | exact Nat.le_refl _⟩, ⟨uR (Kd.R_mono HO138.out (fun _ hk => ⟨hk.1.2, hk.2⟩))⟩, ⟨uR (Kd.R_mono HO144.out (fun _ hk => ⟨hk.1.2, hk.2⟩))⟩, ⟨uR (Kd.R_mono HO150.out (fun _ hk => ⟨hk.1.2, hk.2⟩))⟩, ⟨uR (Kd.R_mono HO152.out (fun _ hk => trivial))⟩, ⟨uL HB.out⟩⟩
             ·rw [if_neg c26] at H
              have c26b0 : ((t136.length : Int) == 0) = false := beq_eq_false_iff_ne.mpr c26
              have c26b1 : ((t136.length : Int) != 0) = true := bne_iff_ne.mpr c26
              have c26b2 : ¬ (t136 = []) := fun h_ => c26 (by rw [h_]; rfl)
              (first | rw [c26b0] | (simp only [i64_w, i32_w]; rw [c26b0]) | skip)
              have H' := mk0 H
              clear H
              (first | (have EHO140 := cmpV_no HO140.out (by with_reducible assumption)) | (have EHO140 := cmpV_yes HO140.out (by with_reducible assumption)) | skip)
              (first | (have EHO146 := cmpV_no HO146.out (by with_reducible assumption)) | (have EHO146 := cmpV_yes HO146.out (by with_reducible assumption)) | skip)
              (first | (have EHO152 := cmpV_no HO152.out (by with_reducible assumption)) | (have EHO152 := cmpV_yes HO152.out (by with_reducible assumption)) | skip)
              go_wp2
              go_meet
              case rel => exact ⟨_, (true), (by first | rfl | (simp; done) | (simp [*]; done) | (simp [bne_nil_, beq_nil_]; done)), H', ⟨by have := HJ4.out; have := HK2.out; have := HK3.out; first | omega | exact Nat.le_refl _⟩, ⟨uR (Kd.R_mono HO138.out (fun _ hk => ⟨hk.1.2, hk.2⟩))⟩, ⟨uR (Kd.R_mono HO144.out (fun _ hk => ⟨hk.1.2, hk.2⟩))⟩, ⟨uR (Kd.R_mono HO150.out (fun _ hk => ⟨hk.1.2, hk.2⟩))⟩, ⟨uR (Kd.R_mono HO152.out (fun _ hk => trivial))⟩, ⟨uL HB.out⟩⟩
            case rest =>
             clear HC22
             try clear c1
             try clear p1
             try clear q1
             try clear hx1
             try clear c2
             try clear p2
             try clear c4
             try clear p6
             try clear c7
             try clear c7b0
             try clear c7b1
             try clear c8
             try clear c9
             try clear c9b0
             try clear c10
             try clear c10b0
             try clear c11
             try clear c11b0
             try clear c11b1
             try clear c12
             try clear c12b0
             try clear c12b1
             try clear c12b2
             try clear c13
             try clear c13b0
             try clear c13b1
             try clear c13b2
             try clear p13
             try clear q13
             try clear hx13
             try clear c14
             try clear c14b0
             try clear c15
             try clear c15b0
             try clear c16
             try clear c16b0
             try clear c16b1
             try clear c17
             try clear c17b0
             try clear c17b1
             try clear c17b2
             try clear c20
             try clear c20b0
             try clear c20b1
             try clear c20b2
             try clear c26
             try clear c26b0
             try clear c26b1
             try clear c26b2
             try clear c27
             try clear c27b0
             try clear c27b1
             try clear c27b2
             try clear hx131_0
             try clear hx132_0
             try clear hx133_0
             try clear hx134_0
             try clear p1
             try clear p13
             try clear p131
             try clear p132
             try clear p133
             try clear p134
             try clear p2
             try clear p6
             try clear q1
             try clear q13
             try clear q131
             try clear q132
             try clear q133
             try clear q134
             obtain ⟨kq, x84_21, rfl, HA, HJ21, HO_9, HO_11, HO_13, HO_14, HB⟩ := hcut
             cases kq with
             | zero => exact absurd HA.out (by simp [furrowlaw2_LineJoins.j3])
             | succ kj21 =>
              have H := HA.out
              clear HA
              simp only [furrowlaw2_LineJoins.j3] at H
              by_cases c28 : x84_21 = true
              ·subst c28
               have H1 : (if (t148.length : Int) = 0 then (some false) else (some true)) = some true := by rw [if_pos rfl] at H; first | done | exact H
               clear H
               have H := H1
               clear H1
               by_cases c29 : (t148.length : Int) = 0
               ·rw [if_pos c29] at H
                have c29b0 : ((t148.length : Int) == 0) = true := beq_iff_eq.mpr c29
                have c29b1 : ((t148.length : Int) != 0) = false := bne_eq_false_iff_eq.mpr c29
                clear c29
                exact absurd H (by simp)
               ·rw [if_neg c29] at H
                have c29b0 : ((t148.length : Int) == 0) = false := beq_eq_false_iff_ne.mpr c29
                have c29b1 : ((t148.length : Int) != 0) = true := bne_iff_ne.mpr c29
                have c29b2 : ¬ (t148 = []) := fun h_ => c29 (by rw [h_]; rfl)
                have HT := mk0 (Option.some.inj H)
                clear H
                (first | (have EHO_14 := cmpV_no HO_14.out (by with_reducible assumption)) | (have EHO_14 := cmpV_yes HO_14.out (by with_reducible assumption)) | skip)
                go_wp2
                go_ret
                exact ⟨by first | rfl | (simp [errW_none, errW_some] <;> rfl) | (exact congrArg (fun b_ => Ending.returned (Value.bool b_)) HT.out) | (rw [show _ = _ from HT.out]) | (simp [HT.out]; done) | (simp [show _ = _ from HT.out]; done) | (simp [*, errW_none, errW_some] <;> rfl), uL HB.out⟩
              ·replace c28 := Bool.eq_false_iff.mpr c28
               subst c28
               have H1 : (if (t148.length : Int) = 0 then ((some (([] : List ByteArray) : List ByteArray)).bind fun y153 => (if y153.length + t135.length < 8796093022208 then ((some (y153 ++ t135 : List ByteArray)).bind fun y156 => (if y156.length + t141.length < 8796093022208 then ((furrowref4_SameLines.f kj21 t147 (y156 ++ t141)).bind fun t162 => (if t162 = true then ((line_Join.f t135).bind fun t163 => (some (t163.toList == x5_2.toList))) else (some false))) else (none))) else (none))) else (some false)) = some true := by rw [if_neg (show ¬ (false = true) by decide)] at H; first | done | exact H
               clear H
               have H := H1
               clear H1
               by_cases c30 : (t148.length : Int) = 0
               ·rw [if_pos c30] at H
                have c30b0 : ((t148.length : Int) == 0) = true := beq_iff_eq.mpr c30
                have c30b1 : ((t148.length : Int) != 0) = false := bne_eq_false_iff_eq.mpr c30
                clear c30
                obtain ⟨y153, hy153⟩ : ∃ y_ : List ByteArray, y_ = (([] : List ByteArray)) := ⟨_, rfl⟩
                replace H : (if y153.length + t135.length < 8796093022208 then ((some (y153 ++ t135 : List ByteArray)).bind fun y156 => (if y156.length + t141.length < 8796093022208 then ((furrowref4_SameLines.f kj21 t147 (y156 ++ t141)).bind fun t162 => (if t162 = true then ((line_Join.f t135).bind fun t163 => (some (t163.toList == x5_2.toList))) else (some false))) else (none))) else (none)) = some true := by first | (rw [hy153]; with_reducible exact H) | (have H2_ := (Option.bind_some _ _).symm.trans H; rw [hy153]; with_reducible exact H2_) | (have H2_ := (Option.bind_some _ _).symm.trans H; with_reducible exact H2_) | with_reducible exact H | (rw [hy153]; exact H) | exact H
                have Ny153 := mk0 hy153
                clear hy153
                by_cases c31 : y153.length + t135.length < 8796093022208
                ·rw [if_pos c31] at H
                 have LMc31 := mk0 c31
                 clear c31
                 obtain ⟨y156, hy156⟩ : ∃ y_ : List ByteArray, y_ = (y153 ++ t135) := ⟨_, rfl⟩
                 replace H : (if y156.length + t141.length < 8796093022208 then ((furrowref4_SameLines.f kj21 t147 (y156 ++ t141)).bind fun t162 => (if t162 = true then ((line_Join.f t135).bind fun t163 => (some (t163.toList == x5_2.toList))) else (some false))) else (none)) = some true := by first | (rw [hy156]; with_reducible exact H) | (have H2_ := (Option.bind_some _ _).symm.trans H; rw [hy156]; with_reducible exact H2_) | (have H2_ := (Option.bind_some _ _).symm.trans H; with_reducible exact H2_) | with_reducible exact H | (rw [hy156]; exact H) | exact H
                 have Ny156 := mk0 hy156
                 clear hy156
                 by_cases c32 : y156.length + t141.length < 8796093022208
                 ·rw [if_pos c32] at H
                  have LMc32 := mk0 c32
                  clear c32
                  obtain ⟨y159, hy159⟩ : ∃ y_ : List ByteArray, y_ = (y156 ++ t141) := ⟨_, rfl⟩
                  replace H : ((furrowref4_SameLines.f kj21 t147 y159).bind fun t162 => (if t162 = true then ((line_Join.f t135).bind fun t163 => (some (t163.toList == x5_2.toList))) else (some false))) = some true := by first | (rw [hy159]; with_reducible exact H) | (have H2_ := (Option.bind_some _ _).symm.trans H; rw [hy159]; with_reducible exact H2_) | (have H2_ := (Option.bind_some _ _).symm.trans H; with_reducible exact H2_) | with_reducible exact H | (rw [hy159]; exact H) | exact H
                  have Ny159 := mk0 hy159
                  clear hy159
                  replace H := Option.bind_eq_some_iff.mp H
                  obtain ⟨t162, A330, H⟩ := H
                  replace H : (if t162 = true then ((line_Join.f t135).bind fun t163 => (some (t163.toList == x5_2.toList))) else (some false)) = some true := H
                  have A33 := mk0 A330
                  clear A330
                  by_cases c34 : t162 = true
                  ·subst c34
                   have H1 : ((line_Join.f t135).bind fun t163 => (some (t163.toList == x5_2.toList))) = some true := by rw [if_pos rfl] at H; first | done | exact H
                   clear H
                   have H := H1
                   clear H1
                   replace H := Option.bind_eq_some_iff.mp H
                   obtain ⟨t163, A350, H⟩ := H
                   replace H : (some (t163.toList == x5_2.toList)) = some true := H
                   have A35 := mk0 A350
                   clear A350
                   have HT := mk0 (Option.some.inj H)
                   clear H
                   (first | (have EHO_14 := cmpV_no HO_14.out (by with_reducible assumption)) | (have EHO_14 := cmpV_yes HO_14.out (by with_reducible assumption)) | skip)
                   go_wp2_with (first | ((with_reducible refine gate_dst (N := 91) rfl ?_); (try (refine gate_guard (by rfl) ?_; dsimp only)); refine Kd.R_lit Kd.string _ 9 ?hg (N := 91) ?hd (xs := ([] : List ByteArray)) (inner := []) (ok := fun _ => True) (okp := fun _ => True) ?hr ?hp (fun _ hk => hk) trivial (Below.refl _ _) (Nat.le_refl _) (by simp) ?_; (case hd => rfl); (case hg => rfl); (case hr => first | (go_simp; done) | (go_simp; rfl)); (case hp => exact (Reps.none _ _)); intro v154 w36 ho37 hb hg_ hnew_; clear hg_ hnew_; (first | rw [← Ny153.out] at ho37 | (simp only [Int.reduceToNat] at ho37; rw [← Ny153.out] at ho37)); have n0_ := mk0 (Kd.R_elder' (uR HO_9.out) (Kd.R_base ho37) hb); have n1_ := mk0 (Kd.R_elder' (uR HO_11.out) (Kd.R_base ho37) hb); have n2_ := mk0 (Kd.R_elder' (uR HO_13.out) (Kd.R_base ho37) hb); have n3_ := mk0 (Kd.R_below (uR HO_14.out) hb); have n4_ := mk0 (Kd.R_lower (Kd.R_new' (Kd.R_new' (Kd.R_new' ho37 (Kd.R_lt (uR HO_9.out))) (Kd.R_lt (uR HO_11.out))) (Kd.R_lt (uR HO_13.out))) (below_size (uL HB.out))); have n5_ := mk0 (below_step (uL HB.out) hb); clear HO_9; clear HO_11; clear HO_13; clear HO_14; clear HB; have HO_9 := n0_; have HO_11 := n1_; have HO_13 := n2_; have HO_14 := n3_; have HO155 := n4_; have HB := n5_; clear n0_ n1_ n2_ n3_ n4_ n5_; clear hb ho37; obtain ⟨Ao39, co39, eo39⟩ := Kd.R_slice HO_9.out; subst eo39) | ((with_reducible refine gate_builtin (b := .append) (xs := #[.tmp 91, .tmp 92]) rfl ?_); (try (refine gate_guard (by rfl) ?_; dsimp only)); at_builtin; refine Kd.R_append_rows Kd.string (w0 := w) w.heap.size rfl (.tmp 91) (.tmp 92) 27 9 (.string ⟨#[]⟩) 16 rfl Tryd.underlying27 info9 rfl (by decide) (by omega) v154 y153 t135 _ _ _ (fun k_ => some k_ ≠ (.slice Ao39 t135.length co39 : Value).ownBlock ∧ some k_ ≠ (v143 : Value).ownBlock ∧ some k_ ≠ (v149 : Value).ownBlock) (fun _ => False) rfl rfl ?aO ?aR (fun _ _ h => h) (fun _ h => h.elim) ?aF ?aB ?aS ?aL ?_; (case aR => repeat (first | exact (Kd.R_reads' HO_9.out).2.2 | (with_reducible refine Kd.C_alloc ?_ _) | (with_reducible refine Kd.C_drewN ?_ _) | (with_reducible refine Kd.C_drew ?_))); (case aB => exact (uL HB.out)); (case aF => exact (fun k_ hk => ⟨Kd.fresh' (Kd.R_lt (uR HO_9.out)) k_ hk, Kd.fresh' (Kd.R_lt (uR HO_11.out)) k_ hk, Kd.fresh' (Kd.R_lt (uR HO_13.out)) k_ hk⟩)); (case aO => exact (uR (Kd.R_mono HO155.out (fun _ hk => ⟨hk.1.1.2, ⟨hk.1.2, hk.2⟩⟩)))); (case aS => exact (below_size (uL HB.out))); (case aL => have := LMc31.out; omega); intro v157 w38 ho hb hg hat; rw [← Ny156.out] at ho; have n0_ := mk0 (Kd.R_after (ok := (fun k_ => some k_ ≠ (v143 : Value).ownBlock ∧ some k_ ≠ (v149 : Value).ownBlock)) (uR HO_9.out) hg hat); have n1_ := mk0 (Kd.R_after (ok := (fun k_ => some k_ ≠ (.slice Ao39 t135.length co39 : Value).ownBlock ∧ some k_ ≠ (v149 : Value).ownBlock)) (uR HO_11.out) hg hat); have n2_ := mk0 (Kd.R_after (ok := (fun k_ => some k_ ≠ (.slice Ao39 t135.length co39 : Value).ownBlock ∧ some k_ ≠ (v143 : Value).ownBlock)) (uR HO_13.out) hg hat); have n3_ := mk0 (Kd.R_over' (uR HO_14.out) (Kd.R_typed (uR HO155.out)) (by decide) hg); have n4_ := mk0 (hb); have n5_ := mk0 (ho); clear HO_9; clear HO_11; clear HO_13; clear HO_14; clear HB; clear HO155; have HO_9 := n0_; have HO_11 := n1_; have HO_13 := n2_; have HO_14 := n3_; have HB := n4_; have HO158 := n5_; clear n0_ n1_ n2_ n3_ n4_ n5_; clear ho hb hg hat; obtain ⟨Ao41, co41, eo41⟩ := Kd.R_slice HO_11.out; subst eo41) | ((with_reducible refine gate_builtin (b := .append) (xs := #[.tmp 93, .tmp 94]) rfl ?_); (try (refine gate_guard (by rfl) ?_; dsimp only)); at_builtin; refine Kd.R_append_rows Kd.string (w0 := w) w.heap.size rfl (.tmp 93) (.tmp 94) 27 9 (.string ⟨#[]⟩) 16 rfl Tryd.underlying27 info9 rfl (by decide) (by omega) v157 y156 t141 _ _ _ (fun k_ => some k_ ≠ (.slice Ao39 t135.length co39 : Value).ownBlock ∧ some k_ ≠ (.slice Ao41 t141.length co41 : Value).ownBlock ∧ some k_ ≠ (v149 : Value).ownBlock) (fun _ => False) rfl rfl ?aO ?aR (fun _ _ h => h) (fun _ h => h.elim) ?aF ?aB ?aS ?aL ?_; (case aR => repeat (first | exact (Kd.R_reads' HO_11.out).2.2 | (with_reducible refine Kd.C_alloc ?_ _) | (with_reducible refine Kd.C_drewN ?_ _) | (with_reducible refine Kd.C_drew ?_))); (case aB => exact (uL HB.out)); (case aF => exact (fun k_ hk => ⟨Kd.fresh' (Kd.R_lt (uR HO_9.out)) k_ hk, Kd.fresh' (Kd.R_lt (uR HO_11.out)) k_ hk, Kd.fresh' (Kd.R_lt (uR HO_13.out)) k_ hk⟩)); (case aO => exact (uR HO158.out)); (case aS => exact (below_size (uL HB.out))); (case aL => have := LMc32.out; omega); intro v160 w40 ho hb hg hat; rw [← Ny159.out] at ho; have n0_ := mk0 (Kd.R_after (ok := (fun k_ => some k_ ≠ (.slice Ao41 t141.length co41 : Value).ownBlock ∧ some k_ ≠ (v149 : Value).ownBlock)) (uR HO_9.out) hg hat); have n1_ := mk0 (Kd.R_after (ok := (fun k_ => some k_ ≠ (.slice Ao39 t135.length co39 : Value).ownBlock ∧ some k_ ≠ (v149 : Value).ownBlock)) (uR HO_11.out) hg hat); have n2_ := mk0 (Kd.R_after (ok := (fun k_ => some k_ ≠ (.slice Ao39 t135.length co39 : Value).ownBlock ∧ some k_ ≠ (.slice Ao41 t141.length co41 : Value).ownBlock)) (uR HO_13.out) hg hat); have n3_ := mk0 (Kd.R_over' (uR HO_14.out) (Kd.R_typed (uR HO158.out)) (by decide) hg); have n4_ := mk0 (hb); have n5_ := mk0 (ho); clear HO_9; clear HO_11; clear HO_13; clear HO_14; clear HB; clear HO158; have HO_9 := n0_; have HO_11 := n1_; have HO_13 := n2_; have HO_14 := n3_; have HB := n4_; have HO161 := n5_; clear n0_ n1_ n2_ n3_ n4_ n5_; clear ho hb hg hat; obtain ⟨Ao42, co42, eo42⟩ := Kd.R_slice HO_13.out; subst eo42; obtain ⟨Ao43, co43, eo43⟩ := Kd.R_slice HO161.out; subst eo43) | (go_at_call 14; (with_reducible refine (furrowref4_SameLines.calls kj21 _ _ t147 _ _ y159 true _ ?side1 ?side2 ?side3 ?side4 A33.out).mono ?_); (case side1 => repeat (first | exact (Kd.R_reads' HO_13.out).2.2 | (with_reducible refine Kd.C_alloc ?_ _) | (with_reducible refine Kd.C_drewN ?_ _) | (with_reducible refine Kd.C_drew ?_))); (case side2 => exact (Kd.R_reads' HO_13.out).2.1); (case side3 => repeat (first | exact (Kd.R_reads' HO161.out).2.2 | (with_reducible refine Kd.C_alloc ?_ _) | (with_reducible refine Kd.C_drewN ?_ _) | (with_reducible refine Kd.C_drew ?_))); (case side4 => exact (Kd.R_reads' HO161.out).2.1); rintro e w' ⟨rfl, ⟨nd, rfl⟩⟩) | (go_at_call 15; (with_reducible refine (line_Join.calls _ _ t135 t163 _ ?side1 ?side2 A35.out).mono ?_); (case side1 => repeat (first | exact (Kd.R_reads' HO_9.out).2.2 | (with_reducible refine Kd.C_alloc ?_ _) | (with_reducible refine Kd.C_drewN ?_ _) | (with_reducible refine Kd.C_drew ?_))); (case side2 => exact (Kd.R_reads' HO_9.out).2.1); rintro e w44 ⟨rfl, hb⟩; have n0_ := mk0 (Kd.R_below (uR HO_9.out) hb); have n1_ := mk0 (Kd.R_below (uR HO_11.out) hb); have n2_ := mk0 (Kd.R_below (uR HO_13.out) hb); have n3_ := mk0 (Kd.R_below (uR HO_14.out) hb); have n4_ := mk0 (Kd.R_below (uR HO161.out) hb); have n5_ := mk0 (below_step (uL HB.out) hb); clear HO_9; clear HO_11; clear HO_13; clear HO_14; clear HO161; clear HB; have HO_9 := n0_; have HO_11 := n1_; have HO_13 := n2_; have HO_14 := n3_; have HO161 := n4_; have HB := n5_; clear n0_ n1_ n2_ n3_ n4_ n5_; (try clear hb); (try clear hb2); (try clear hk); (try clear hi)))
                   go_ret
                   exact ⟨by first | rfl | (simp [errW_none, errW_some] <;> rfl) | (exact congrArg (fun b_ => Ending.returned (Value.bool b_)) HT.out) | (rw [show _ = _ from HT.out]) | (simp [HT.out]; done) | (simp [show _ = _ from HT.out]; done) | (simp [*, errW_none, errW_some] <;> rfl), uL HB.out⟩
                  ·replace c34 := Bool.eq_false_iff.mpr c34
                   subst c34
                   have H1 : (some false) = some true := by rw [if_neg (show ¬ (false = true) by decide)] at H; first | done | exact H
                   clear H
                   have H := H1
                   clear H1
                   exact absurd H (by simp)
                 ·rw [if_neg c32] at H
                  exact absurd H (by simp)
                ·rw [if_neg c31] at H
                 exact absurd H (by simp)
               ·rw [if_neg c30] at H
                have c30b0 : ((t148.length : Int) == 0) = false := beq_eq_false_iff_ne.mpr c30
                have c30b1 : ((t148.length : Int) != 0) = true := bne_iff_ne.mpr c30
                have c30b2 : ¬ (t148 = []) := fun h_ => c30 (by rw [h_]; rfl)
                exact absurd H (by simp)
           ·rw [if_neg c20] at H
            exact absurd H (by simp)
 ·replace c4 := Bool.eq_false_iff.mpr c4
  subst c4
  have H1 : (some false) = some true := by rw [if_neg (show ¬ (false = true) by decide)] at H; first | done | exact H
  clear H
  have H := H1
  clear H1
  exact absurd H (by simp)

end Go.Proofs.YtnecoebdmjkblaaDoor.X
