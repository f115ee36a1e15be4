-- PRINTED by print.py (a twelfth state) out of the translation. Not trusted: Lean checks it.
import Derived.Test.YtmhkijidnpihmaaDoorXx0
import Derived.Test.YtmhkijidnpihmaaDoorXx2
import Derived.Test.YtmhkijidnpihmaaDoorXx3
import Derived.Test.YtmhkijidnpihmaaDoorXx5
import Derived.Test.YtmhkijidnpihmaaDoorXx6
import Derived.Test.YtmhkijidnpihmaaDoorHandV
namespace Go.Proofs.YtmhkijidnpihmaaDoor.X
open Go.Proofs.YtmhkijidnpihmaaDoor.Flt Go.Proofs.YtmhkijidnpihmaaDoor.H Go.RowKit Go.Proofs.YtmhkijidnpihmaaDoorW.PrintWords Go.Proofs.YtmhkijidnpihmaaDoorW.PrintLast Go.Proofs.YtmhkijidnpihmaaDoorW.PrintMore
attribute [local go_sem] max2_int min2_int max_two min_two max_three min_three max_four min_four   -- for this text's walks alone
set_option linter.unusedVariables false
set_option linter.unusedSimpArgs false

/-! ### furrowlaw9_EvalNums: function 6 -/
mutual
def furrowlaw9_EvalNums.l0 : Nat → Int → Int → List Int → Int → List (S64) → Int → Int → Int → ByteArray → Int → Int → ByteArray → Int → Int → Int → Int → Option (Bool)
 | 0, _, _, _, _, _, _, _, _, _, _, _, _, _, _, _, _ => none
 | k + 1, x0, x1, x6, x10, x303000, x303001, x309000, x309001, x309002, x310000, x310001, x310002, x311000, x311001, x311002, x311003 => if x10 < 4 then ((eval_Eval.f k x303000 x303001 x6 (wrap64 (5 + x10)) 0 (⟨#[]⟩ : ByteArray) (([(⟨x309000, x309001, x309002, ([] : List (S24))⟩ : S24), (⟨x310000, x310001, x310002, ([] : List (S24))⟩ : S24)] : List (S24)))).bind fun bt314 => (if x10 = 3 then (furrowlaw9_EvalNums.j1 k x0 x1 x6 x10 bt314.1 bt314.2 (x1 == 0) x303000 x303001 x309000 x309001 x309002 x310000 x310001 x310002 x311000 x311001 x311002 x311003) else (furrowlaw9_EvalNums.j1 k x0 x1 x6 x10 bt314.1 bt314.2 false x303000 x303001 x309000 x309001 x309002 x310000 x310001 x310002 x311000 x311001 x311002 x311003))) else ((eval_Eval.f k x303000 x303001 x6 4 0 (⟨#[]⟩ : ByteArray) (([(⟨x309000, x309001, x309002, ([] : List (S24))⟩ : S24)] : List (S24)))).bind fun bt321 => (if (bt321.2.length : Int) = 0 then (if x311000 = (wrap64 (x0 + x1)) then (if x311001 = (wrap64 (x0 - x1)) then (if x311002 = (wrap64 (x0 * x1)) then (if bt321.1 = (wrap64 (-x0)) then ((furrowlaw5_Of.f k x309000 x309001 x309002 ([] : List (S24))).bind fun bt325 => (furrowlaw9_EvalNums.j2 k x0 x1 ((bt325.2.2.1.size : Int) != 1) x311000 x311001 x311002 x311003)) else (furrowlaw9_EvalNums.j2 k x0 x1 true x311000 x311001 x311002 x311003)) else (furrowlaw9_EvalNums.j2 k x0 x1 true x311000 x311001 x311002 x311003)) else (furrowlaw9_EvalNums.j2 k x0 x1 true x311000 x311001 x311002 x311003)) else (furrowlaw9_EvalNums.j2 k x0 x1 true x311000 x311001 x311002 x311003)) else (furrowlaw9_EvalNums.j2 k x0 x1 true x311000 x311001 x311002 x311003)))
def furrowlaw9_EvalNums.j1 : Nat → Int → Int → List Int → Int → Int → List (Flt) → Bool → List (S64) → Int → Int → Int → ByteArray → Int → Int → ByteArray → Int → Int → Int → Int → Option (Bool)
 | 0, _, _, _, _, _, _, _, _, _, _, _, _, _, _, _, _, _, _, _ => none
 | k + 1, x0, x1, x6, x10, x11, x12, x54, x303000, x303001, x309000, x309001, x309002, x310000, x310001, x310002, x311000, x311001, x311002, x311003 => if x54 = true then (if (x12.length : Int) = 0 then (some false) else (some (x11 == 0))) else (if (x12.length : Int) = 0 then (if x10 = 0 then (furrowlaw9_EvalNums.l0 k x0 x1 x6 (wrap64 (x10 + 1)) x303000 x303001 x309000 x309001 x309002 x310000 x310001 x310002 x11 x311001 x311002 x311003) else (if x10 = 1 then (furrowlaw9_EvalNums.l0 k x0 x1 x6 (wrap64 (x10 + 1)) x303000 x303001 x309000 x309001 x309002 x310000 x310001 x310002 x311000 x11 x311002 x311003) else (if x10 = 2 then (furrowlaw9_EvalNums.l0 k x0 x1 x6 (wrap64 (x10 + 1)) x303000 x303001 x309000 x309001 x309002 x310000 x310001 x310002 x311000 x311001 x11 x311003) else (if x10 = 3 then (furrowlaw9_EvalNums.l0 k x0 x1 x6 (wrap64 (x10 + 1)) x303000 x303001 x309000 x309001 x309002 x310000 x310001 x310002 x311000 x311001 x311002 x11) else (none))))) else (some false))
def furrowlaw9_EvalNums.j2 : Nat → Int → Int → Bool → Int → Int → Int → Int → Option (Bool)
 | 0, _, _, _, _, _, _, _ => none
 | k + 1, x0, x1, x113, x311000, x311001, x311002, x311003 => if x113 = true then (some false) else (if x1 = (-1) then (some (x311003 == (wrap64 (-x0)))) else (if x1 = 0 then (none) else (some (x311003 == (wrap64 (Int.tdiv x0 x1))))))
end
def furrowlaw9_EvalNums.f (k : Nat) (a0 : Int) (a1 : Int) : Option (Bool) := (furrowlaw9_known.f k).bind fun t293 => (if t293 = true then ((furrowlaw9_Table.f k 1).bind fun bt294 => ((furrowlaw8_To.f k bt294.1 bt294.2).bind fun bt298 => (if 0 ≤ bt298.2 then (if (bt298.2 : Int).toNat ≤ 35184372088832 then ((some (List.replicate (bt298.2 : Int).toNat 0 : List Int)).bind fun y303 => (if (y303.length : Int) < 12 then (some false) else (if 7 < (y303.length : Int) then (if 8 < (y303.length : Int) then (furrowlaw9_EvalNums.l0 k a0 a1 ((y303.set (7 : Int).toNat a0).set (8 : Int).toNat a1) 0 bt298.1 bt298.2 2 0 (⟨#[120]⟩ : ByteArray) 2 0 (⟨#[121]⟩ : ByteArray) 0 0 0 0) else (none)) else (none)))) else (none)) else (none)))) else (some false))
theorem furrowlaw9_EvalNums.mono_l : ∀ k, (∀ y0 y1 y2 y3 y4 y5 y6 y7 y8 y9 y10 y11 y12 y13 y14 y15, LeO (furrowlaw9_EvalNums.l0 k y0 y1 y2 y3 y4 y5 y6 y7 y8 y9 y10 y11 y12 y13 y14 y15) (furrowlaw9_EvalNums.l0 (k + 1) y0 y1 y2 y3 y4 y5 y6 y7 y8 y9 y10 y11 y12 y13 y14 y15)) ∧ (∀ y0 y1 y2 y3 y4 y5 y6 y7 y8 y9 y10 y11 y12 y13 y14 y15 y16 y17 y18, LeO (furrowlaw9_EvalNums.j1 k y0 y1 y2 y3 y4 y5 y6 y7 y8 y9 y10 y11 y12 y13 y14 y15 y16 y17 y18) (furrowlaw9_EvalNums.j1 (k + 1) y0 y1 y2 y3 y4 y5 y6 y7 y8 y9 y10 y11 y12 y13 y14 y15 y16 y17 y18)) ∧ (∀ y0 y1 y2 y3 y4 y5 y6, LeO (furrowlaw9_EvalNums.j2 k y0 y1 y2 y3 y4 y5 y6) (furrowlaw9_EvalNums.j2 (k + 1) y0 y1 y2 y3 y4 y5 y6))
 | 0 => ⟨fun _ _ _ _ _ _ _ _ _ _ _ _ _ _ _ _ r h => by simp [furrowlaw9_EvalNums.l0] at h, fun _ _ _ _ _ _ _ _ _ _ _ _ _ _ _ _ _ _ _ r h => by simp [furrowlaw9_EvalNums.j1] at h, fun _ _ _ _ _ _ _ r h => by simp [furrowlaw9_EvalNums.j2] at h⟩
 | k + 1 => by
  obtain ⟨ih0, ih1, ih2⟩ := furrowlaw9_EvalNums.mono_l k
  refine ⟨?_, ?_, ?_⟩
  ·intro y0 y1 y2 y3 y4 y5 y6 y7 y8 y9 y10 y11 y12 y13 y14 y15
   unfold furrowlaw9_EvalNums.l0
   repeat' first
   | (with_reducible exact ih0 _ _ _ _ _ _ _ _ _ _ _ _ _ _ _ _)
   | (with_reducible exact ih1 _ _ _ _ _ _ _ _ _ _ _ _ _ _ _ _ _ _ _)
   | (with_reducible exact ih2 _ _ _ _ _ _ _)
   | (with_reducible exact eval_Eval.mono _ _ _ _ _ _ _ _)
   | (with_reducible exact furrowlaw5_Of.mono _ _ _ _ _)
   | (with_reducible exact furrowlaw8_To.mono _ _ _)
   | (with_reducible exact furrowlaw9_Table.mono _ _)
   | (with_reducible exact furrowlaw9_known.mono _)
   | (with_reducible exact LeO.refl _)
   | (with_reducible exact LeO.none _)
   | (with_reducible refine LeO.ite ?_ ?_)
   | (with_reducible refine LeO.bind ?_ (fun _ => ?_))
   | exact ih0 _ _ _ _ _ _ _ _ _ _ _ _ _ _ _ _
   | exact ih1 _ _ _ _ _ _ _ _ _ _ _ _ _ _ _ _ _ _ _
   | exact ih2 _ _ _ _ _ _ _
   | exact eval_Eval.mono _ _ _ _ _ _ _ _
   | exact furrowlaw5_Of.mono _ _ _ _ _
   | exact furrowlaw8_To.mono _ _ _
   | exact furrowlaw9_Table.mono _ _
   | exact furrowlaw9_known.mono _
   | exact LeO.none _
   | refine LeO.ite ?_ ?_
   | refine LeO.bind ?_ (fun _ => ?_)
  ·intro y0 y1 y2 y3 y4 y5 y6 y7 y8 y9 y10 y11 y12 y13 y14 y15 y16 y17 y18
   unfold furrowlaw9_EvalNums.j1
   repeat' first
   | (with_reducible exact ih0 _ _ _ _ _ _ _ _ _ _ _ _ _ _ _ _)
   | (with_reducible exact ih1 _ _ _ _ _ _ _ _ _ _ _ _ _ _ _ _ _ _ _)
   | (with_reducible exact ih2 _ _ _ _ _ _ _)
   | (with_reducible exact eval_Eval.mono _ _ _ _ _ _ _ _)
   | (with_reducible exact furrowlaw5_Of.mono _ _ _ _ _)
   | (with_reducible exact furrowlaw8_To.mono _ _ _)
   | (with_reducible exact furrowlaw9_Table.mono _ _)
   | (with_reducible exact furrowlaw9_known.mono _)
   | (with_reducible exact LeO.refl _)
   | (with_reducible exact LeO.none _)
   | (with_reducible refine LeO.ite ?_ ?_)
   | (with_reducible refine LeO.bind ?_ (fun _ => ?_))
   | exact ih0 _ _ _ _ _ _ _ _ _ _ _ _ _ _ _ _
   | exact ih1 _ _ _ _ _ _ _ _ _ _ _ _ _ _ _ _ _ _ _
   | exact ih2 _ _ _ _ _ _ _
   | exact eval_Eval.mono _ _ _ _ _ _ _ _
   | exact furrowlaw5_Of.mono _ _ _ _ _
   | exact furrowlaw8_To.mono _ _ _
   | exact furrowlaw9_Table.mono _ _
   | exact furrowlaw9_known.mono _
   | exact LeO.none _
   | refine LeO.ite ?_ ?_
   | refine LeO.bind ?_ (fun _ => ?_)
  ·intro y0 y1 y2 y3 y4 y5 y6
   unfold furrowlaw9_EvalNums.j2
   repeat' first
   | (with_reducible exact ih0 _ _ _ _ _ _ _ _ _ _ _ _ _ _ _ _)
   | (with_reducible exact ih1 _ _ _ _ _ _ _ _ _ _ _ _ _ _ _ _ _ _ _)
   | (with_reducible exact ih2 _ _ _ _ _ _ _)
   | (with_reducible exact eval_Eval.mono _ _ _ _ _ _ _ _)
   | (with_reducible exact furrowlaw5_Of.mono _ _ _ _ _)
   | (with_reducible exact furrowlaw8_To.mono _ _ _)
   | (with_reducible exact furrowlaw9_Table.mono _ _)
   | (with_reducible exact furrowlaw9_known.mono _)
   | (with_reducible exact LeO.refl _)
   | (with_reducible exact LeO.none _)
   | (with_reducible refine LeO.ite ?_ ?_)
   | (with_reducible refine LeO.bind ?_ (fun _ => ?_))
   | exact ih0 _ _ _ _ _ _ _ _ _ _ _ _ _ _ _ _
   | exact ih1 _ _ _ _ _ _ _ _ _ _ _ _ _ _ _ _ _ _ _
   | exact ih2 _ _ _ _ _ _ _
   | exact eval_Eval.mono _ _ _ _ _ _ _ _
   | exact furrowlaw5_Of.mono _ _ _ _ _
   | exact furrowlaw8_To.mono _ _ _
   | exact furrowlaw9_Table.mono _ _
   | exact furrowlaw9_known.mono _
   | exact LeO.none _
   | refine LeO.ite ?_ ?_
   | refine LeO.bind ?_ (fun _ => ?_)
theorem furrowlaw9_EvalNums.mono : ∀ a0 a1 k, LeO (furrowlaw9_EvalNums.f k a0 a1) (furrowlaw9_EvalNums.f (k + 1) a0 a1) := by
 intro a0 a1 k
 obtain ⟨ih0, ih1, ih2⟩ := furrowlaw9_EvalNums.mono_l k
 unfold furrowlaw9_EvalNums.f
 repeat' first
   | (with_reducible exact ih0 _ _ _ _ _ _ _ _ _ _ _ _ _ _ _ _)
   | (with_reducible exact ih1 _ _ _ _ _ _ _ _ _ _ _ _ _ _ _ _ _ _ _)
   | (with_reducible exact ih2 _ _ _ _ _ _ _)
   | (with_reducible exact eval_Eval.mono _ _ _ _ _ _ _ _)
   | (with_reducible exact furrowlaw5_Of.mono _ _ _ _ _)
   | (with_reducible exact furrowlaw8_To.mono _ _ _)
   | (with_reducible exact furrowlaw9_Table.mono _ _)
   | (with_reducible exact furrowlaw9_known.mono _)
   | (with_reducible exact LeO.refl _)
   | (with_reducible exact LeO.none _)
   | (with_reducible refine LeO.ite ?_ ?_)
   | (with_reducible refine LeO.bind ?_ (fun _ => ?_))
   | exact ih0 _ _ _ _ _ _ _ _ _ _ _ _ _ _ _ _
   | exact ih1 _ _ _ _ _ _ _ _ _ _ _ _ _ _ _ _ _ _ _
   | exact ih2 _ _ _ _ _ _ _
   | exact eval_Eval.mono _ _ _ _ _ _ _ _
   | exact furrowlaw5_Of.mono _ _ _ _ _
   | exact furrowlaw8_To.mono _ _ _
   | exact furrowlaw9_Table.mono _ _
   | exact furrowlaw9_known.mono _
   | exact LeO.none _
   | refine LeO.ite ?_ ?_
   | refine LeO.bind ?_ (fun _ => ?_)
theorem field33_ (a b c d : Value) (w : World) : Sem.run Tryd.prog (Instr.field 33 (Value.agg #[a, b, c, d]) 2) w = Result.ok c w := by kernel_rfl
set_option maxHeartbeats 8000000 in
set_option maxRecDepth 100000 in
theorem furrowlaw9_EvalNums.calls (k : Nat) (a0 : Int) (a1 : Int) (w : World) (hG : Glob w) (h : furrowlaw9_EvalNums.f k a0 a1 = some true) :
  Calls Tryd.prog 6 #[.int .i64 a0, .int .i64 a1] w fun e w' => e = .returned (.bool true) ∧ Below w.heap.size w w' := by
 have hu46 := Tryd.underlying46
 have hu33 := Tryd.underlying33
 have hu24 := Tryd.underlying24
 have hu66 := Tryd.underlying66
 have HG := mk0 hG
 clear hG
 have HB := mk0 (Below.refl w.heap.size w)
 have H : ((furrowlaw9_known.f k).bind fun t293 => (if t293 = true then ((furrowlaw9_Table.f k 1).bind fun bt294 => ((furrowlaw8_To.f k bt294.1 bt294.2).bind fun bt298 => (if 0 ≤ bt298.2 then (if (bt298.2 : Int).toNat ≤ 35184372088832 then ((some (List.replicate (bt298.2 : Int).toNat 0 : List Int)).bind fun y303 => (if (y303.length : Int) < 12 then (some false) else (if 7 < (y303.length : Int) then (if 8 < (y303.length : Int) then (furrowlaw9_EvalNums.l0 k a0 a1 ((y303.set (7 : Int).toNat a0).set (8 : Int).toNat a1) 0 bt298.1 bt298.2 2 0 (⟨#[120]⟩ : ByteArray) 2 0 (⟨#[121]⟩ : ByteArray) 0 0 0 0) else (none)) else (none)))) else (none)) else (none)))) else (some false))) = some true := h
 clear h
 replace H := Option.bind_eq_some_iff.mp H
 obtain ⟨t293, A30, H⟩ := H
 replace H : (if t293 = true then ((furrowlaw9_Table.f k 1).bind fun bt294 => ((furrowlaw8_To.f k bt294.1 bt294.2).bind fun bt298 => (if 0 ≤ bt298.2 then (if (bt298.2 : Int).toNat ≤ 35184372088832 then ((some (List.replicate (bt298.2 : Int).toNat 0 : List Int)).bind fun y303 => (if (y303.length : Int) < 12 then (some false) else (if 7 < (y303.length : Int) then (if 8 < (y303.length : Int) then (furrowlaw9_EvalNums.l0 k a0 a1 ((y303.set (7 : Int).toNat a0).set (8 : Int).toNat a1) 0 bt298.1 bt298.2 2 0 (⟨#[120]⟩ : ByteArray) 2 0 (⟨#[121]⟩ : ByteArray) 0 0 0 0) else (none)) else (none)))) else (none)) else (none)))) else (some false)) = some true := H
 have A3 := mk0 A30
 clear A30
 by_cases c4 : t293 = true
 ·subst c4
  have H1 : ((furrowlaw9_Table.f k 1).bind fun bt294 => ((furrowlaw8_To.f k bt294.1 bt294.2).bind fun bt298 => (if 0 ≤ bt298.2 then (if (bt298.2 : Int).toNat ≤ 35184372088832 then ((some (List.replicate (bt298.2 : Int).toNat 0 : List Int)).bind fun y303 => (if (y303.length : Int) < 12 then (some false) else (if 7 < (y303.length : Int) then (if 8 < (y303.length : Int) then (furrowlaw9_EvalNums.l0 k a0 a1 ((y303.set (7 : Int).toNat a0).set (8 : Int).toNat a1) 0 bt298.1 bt298.2 2 0 (⟨#[120]⟩ : ByteArray) 2 0 (⟨#[121]⟩ : ByteArray) 0 0 0 0) else (none)) else (none)))) else (none)) else (none)))) = some true := by rw [if_pos rfl] at H; first | done | exact H
  clear H
  have H := H1
  clear H1
  replace H := Option.bind_eq_some_iff.mp H
  obtain ⟨⟨t294, t297⟩, A50, H⟩ := H
  replace H : ((furrowlaw8_To.f k t294 t297).bind fun bt298 => (if 0 ≤ bt298.2 then (if (bt298.2 : Int).toNat ≤ 35184372088832 then ((some (List.replicate (bt298.2 : Int).toNat 0 : List Int)).bind fun y303 => (if (y303.length : Int) < 12 then (some false) else (if 7 < (y303.length : Int) then (if 8 < (y303.length : Int) then (furrowlaw9_EvalNums.l0 k a0 a1 ((y303.set (7 : Int).toNat a0).set (8 : Int).toNat a1) 0 bt298.1 bt298.2 2 0 (⟨#[120]⟩ : ByteArray) 2 0 (⟨#[121]⟩ : ByteArray) 0 0 0 0) else (none)) else (none)))) else (none)) else (none))) = some true := H
  have A5 := mk0 A50
  clear A50
  replace H := Option.bind_eq_some_iff.mp H
  obtain ⟨⟨t298, t301⟩, A60, H⟩ := H
  replace H : (if 0 ≤ t301 then (if (t301 : Int).toNat ≤ 35184372088832 then ((some (List.replicate (t301 : Int).toNat 0 : List Int)).bind fun y303 => (if (y303.length : Int) < 12 then (some false) else (if 7 < (y303.length : Int) then (if 8 < (y303.length : Int) then (furrowlaw9_EvalNums.l0 k a0 a1 ((y303.set (7 : Int).toNat a0).set (8 : Int).toNat a1) 0 t298 t301 2 0 (⟨#[120]⟩ : ByteArray) 2 0 (⟨#[121]⟩ : ByteArray) 0 0 0 0) else (none)) else (none)))) else (none)) else (none)) = some true := H
  have A6 := mk0 A60
  clear A60
  by_cases c7 : 0 ≤ t301
  ·rw [if_pos c7] at H
   have c7b0 := eq_true c7
   have c7b1 : decide (0 ≤ t301) = true := decide_eq_true c7
   clear c7
   by_cases c8 : (t301 : Int).toNat ≤ 35184372088832
   ·rw [if_pos c8] at H
    have c8b0 := eq_true c8
    have c8b1 : decide ((t301 : Int).toNat ≤ 35184372088832) = true := decide_eq_true c8
    clear c8
    obtain ⟨y303, hy303⟩ : ∃ y_ : List Int, y_ = (List.replicate (t301 : Int).toNat 0) := ⟨_, rfl⟩
    replace H : (if (y303.length : Int) < 12 then (some false) else (if 7 < (y303.length : Int) then (if 8 < (y303.length : Int) then (furrowlaw9_EvalNums.l0 k a0 a1 ((y303.set (7 : Int).toNat a0).set (8 : Int).toNat a1) 0 t298 t301 2 0 (⟨#[120]⟩ : ByteArray) 2 0 (⟨#[121]⟩ : ByteArray) 0 0 0 0) else (none)) else (none))) = some true := by first | (rw [hy303]; with_reducible exact H) | (have H2_ := (Option.bind_some _ _).symm.trans H; rw [hy303]; with_reducible exact H2_) | (have H2_ := (Option.bind_some _ _).symm.trans H; with_reducible exact H2_) | with_reducible exact H | (rw [hy303]; exact H) | exact H
    have Ny303 := mk0 hy303
    clear hy303
    by_cases c9 : (y303.length : Int) < 12
    ·rw [if_pos c9] at H
     have c9b0 : decide ((y303.length : Int) < 12) = true := decide_eq_true c9
     have c9b1 : decide (y303.length < 12) = true := decide_eq_true (by omega)
     clear c9
     exact absurd H (by simp)
    ·rw [if_neg c9] at H
     have c9b0 : decide ((y303.length : Int) < 12) = false := decide_eq_false c9
     have c9b1 : decide (y303.length < 12) = false := decide_eq_false (by omega)
     clear c9
     by_cases c10 : 7 < (y303.length : Int)
     ·rw [if_pos c10] at H
      have c10b0 : decide (7 < (y303.length : Int)) = true := decide_eq_true c10
      have c10b1 : decide (7 < y303.length) = true := decide_eq_true (by omega)
      clear c10
      obtain ⟨y306, hy306⟩ : ∃ y_ : List Int, y_ = (y303.set (7 : Int).toNat a0) := ⟨_, rfl⟩
      replace H : (if 8 < (y303.length : Int) then (furrowlaw9_EvalNums.l0 k a0 a1 (y306.set (8 : Int).toNat a1) 0 t298 t301 2 0 (⟨#[120]⟩ : ByteArray) 2 0 (⟨#[121]⟩ : ByteArray) 0 0 0 0) else (none)) = some true := by first | (rw [hy306]; with_reducible exact H) | (have H2_ := (Option.bind_some _ _).symm.trans H; rw [hy306]; with_reducible exact H2_) | (have H2_ := (Option.bind_some _ _).symm.trans H; with_reducible exact H2_) | with_reducible exact H | (rw [hy306]; exact H) | exact H
      have Ny306 := mk0 hy306
      clear hy306
      by_cases c12 : 8 < (y303.length : Int)
      ·rw [if_pos c12] at H
       have c12b0 : decide (8 < (y303.length : Int)) = true := decide_eq_true c12
       have c12b1 : decide (8 < y303.length) = true := decide_eq_true (by omega)
       clear c12
       obtain ⟨y307, hy307⟩ : ∃ y_ : List Int, y_ = (y306.set (8 : Int).toNat a1) := ⟨_, rfl⟩
       replace H : (furrowlaw9_EvalNums.l0 k a0 a1 y307 0 t298 t301 2 0 (⟨#[120]⟩ : ByteArray) 2 0 (⟨#[121]⟩ : ByteArray) 0 0 0 0) = some true := by first | (rw [hy307]; with_reducible exact H) | (have H2_ := (Option.bind_some _ _).symm.trans H; rw [hy307]; with_reducible exact H2_) | (have H2_ := (Option.bind_some _ _).symm.trans H; with_reducible exact H2_) | with_reducible exact H | (rw [hy307]; exact H) | exact H
       have Ny307 := mk0 hy307
       clear hy307
       have H' := mk0 H
       clear H
       go_enter Tryd.func6, Tryd.ntmps6
       go_wp2_with (first | (go_at_call 7; (with_reducible refine (furrowlaw9_known.calls k   _ ?side1 A3.out).mono ?_); (case side1 => exact Glob.below HG.out (uL HB.out)); rintro e w14 ⟨rfl, hb⟩; have n0_ := mk0 (below_step (uL HB.out) hb); clear HB; have HB := n0_; clear n0_; (try clear hb); (try clear hb2); (try clear hk); (try clear hi)) | (go_at_call 8; (with_reducible refine (furrowlaw9_Table.calls k 1 t294 t297 _ A5.out).mono ?_); rintro e w15 ⟨v295, rfl, ho0, hb⟩; have n0_ := mk0 (Kd.N_lower (Kd.N_mono (ok' := fun k_ => True) ho0 (fun k_ hk_ => trivial)) (below_size (uL HB.out))); have n1_ := mk0 (below_step (uL HB.out) hb); clear HB; have HO296 := n0_; have HB := n1_; clear n0_ n1_; (try clear hb); (try clear hb2); (try clear hk); (try clear hi); (try clear ho0); obtain ⟨Ao16, co16, eo16⟩ := Kd.N_slice HO296.out; subst eo16) | (go_at_call 15; (with_reducible refine (furrowlaw8_To.calls k (fun k_ => True) _ _ t294 t297 t298 t301 _ ?side1 A6.out).mono ?_); (case side1 => exact Kd.N_V (HO296.out)); rintro e w17 ⟨v299, rfl, ho0, hb⟩; have n0_ := mk0 (Kd.N_elder' (uN HO296.out) (Kd.N_base ho0) hb); have n1_ := mk0 (Kd.N_lower (Kd.N_mono (ok' := fun k_ => True) ho0 (fun k_ hk_ => trivial)) (below_size (uL HB.out))); have n2_ := mk0 (below_step (uL HB.out) hb); clear HO296; clear HB; have HO296 := n0_; have HO300 := n1_; have HB := n2_; clear n0_ n1_ n2_; (try clear hb); (try clear hb2); (try clear hk); (try clear hi); (try clear ho0)) | ((with_reducible refine gate_dst (N := 5) rfl ?_); (try (refine gate_guard (by rfl) ?_; dsimp only)); refine box_event ?hg (N := 5) ?hd (cs := #[.slice none 0 0, .int .i64 0]) (t := 46) ?hr ?_; (case hd => rfl); (case hg => rfl); (case hr => first | (go_simp; done) | (go_simp; rfl)); intro gb302 hg w18 hbox hb; have n0_ := mk0 (Kd.N_below (Kd.N_elderB (uN HO296.out) gb302 (Nat.le_of_eq hg.symm)) hb); have n1_ := mk0 (Kd.N_below (Kd.N_elderB (uN HO300.out) gb302 (Nat.le_of_eq hg.symm)) hb); have n2_ := mk0 (below_step (uL HB.out) hb); have n3_ := mk0 (hbox); have n4_ := mk0 ((by rw [hg]; exact (below_size (uL HB.out)) : w.heap.size ≤ gb302)); have n5_ := mk0 ((by rw [hg]; exact (below_size (uL HB.out)) : w.heap.size ≤ gb302)); clear HO296; clear HO300; clear HB; have HO296 := n0_; have HO300 := n1_; have HB := n2_; have BK302 := n3_; have GW302 := n4_; have GE302 := n5_; clear n0_ n1_ n2_ n3_ n4_ n5_; clear hb hbox hg; obtain ⟨Ao19, co19, eo19⟩ := Kd.N_slice HO300.out; subst eo19; have hcz20_0 : w18.cell? ⟨gb302, 0, none⟩ = some (.slice none 0 0) := (blk_cell BK302.out 0).trans rfl; have hcz20_1 : w18.cell? ⟨gb302, 1, none⟩ = some (.int .i64 0) := (blk_cell BK302.out 1).trans rfl; have hfz20_0 := blk_frozen BK302.out 0; have hfz20_1 := blk_frozen BK302.out 1) | ((with_reducible refine gate_dst (N := 21) rfl ?_); (try (refine gate_guard (by rfl) ?_; dsimp only)); refine Kd.R_make (Kd.int .i64) _ 2 rfl (N := 21) rfl 38 _ _ rfl t301 rfl rfl Tryd.underlying38 (.int .i64 0) 8 info2 rfl (by decide) (by omega) 0 (ok := fun _ => True) (okp := fun _ => True) rfl (fun _ hk => hk) trivial (of_decide_eq_true (by first | (with_reducible assumption) | assumption)) (Nat.le_trans (Nat.mul_le_mul_right _ (of_decide_eq_true (by first | (with_reducible assumption) | assumption) : t301.toNat ≤ 35184372088832)) (by omega)) (Below.refl _ _) (Nat.le_refl _) ?_; intro v304 w21 ho22 hb hg_ hnew_; clear hg_ hnew_; (first | rw [← Ny303.out] at ho22 | (simp only [Int.reduceToNat] at ho22; rw [← Ny303.out] at ho22)); have n0_ := mk0 (Kd.N_elder' (uN (Kd.N_mono (Kd.N_far (p := ⟨gb302, 1, none⟩) (Kd.N_far (p := ⟨gb302, 0, none⟩) (Kd.N_mono HO296.out (fun k_ hk => (⟨hk, hk.2⟩ : _ ∧ k_ ≠ gb302))) (fun _ hk => hk.2) (.slice Ao19 t298.length co19)) (fun _ hk => hk.2) (.int .i64 t301)) (fun _ h_ => h_.1))) (Kd.R_base ho22) hb); have n1_ := mk0 (Kd.N_elder' (uN (Kd.N_mono (Kd.N_far (p := ⟨gb302, 1, none⟩) (Kd.N_far (p := ⟨gb302, 0, none⟩) (Kd.N_mono HO300.out (fun k_ hk => (⟨hk, hk.2⟩ : _ ∧ k_ ≠ gb302))) (fun _ hk => hk.2) (.slice Ao19 t298.length co19)) (fun _ hk => hk.2) (.int .i64 t301)) (fun _ h_ => h_.1))) (Kd.R_base ho22) hb); have n2_ := mk0 (Kd.R_lower ho22 (below_size (by repeat (first | (with_reducible first | exact HB.out | apply bA | apply bN | apply bD | refine bS ?_ (by assumption)) | exact HB.out)))); have n3_ := mk0 (blk_below (g := gb302) (o := .cells #[.slice Ao19 t298.length co19, .int .i64 t301] 46 (0, 0)) (by (with_reducible repeat (first | refine blk_drewN ?_ _ | refine blk_drew ?_ | refine blk_alloc ?_ _)); refine blk_put (cs := #[.slice Ao19 t298.length co19, .int .i64 0]) ?_ 1 _ rfl; (with_reducible repeat (first | refine blk_drewN ?_ _ | refine blk_drew ?_ | refine blk_alloc ?_ _)); refine blk_put (cs := #[.slice none 0 0, .int .i64 0]) ?_ 0 _ rfl; (with_reducible repeat (first | refine blk_drewN ?_ _ | refine blk_drew ?_ | refine blk_alloc ?_ _)); exact BK302.out) hb); have n4_ := mk0 (below_step (by repeat (first | (with_reducible first | exact HB.out | apply bA | apply bN | apply bD | refine bS ?_ (by assumption)) | exact HB.out)) hb); clear HO296; clear HO300; clear BK302; clear HB; have HO296 := n0_; have HO300 := n1_; have HO305 := n2_; have BK302 := n3_; have HB := n4_; clear n0_ n1_ n2_ n3_ n4_; clear hb ho22; obtain ⟨Ao23, co23, eo23⟩ := Kd.R_slice HO305.out; subst eo23; have p11 : 0 ≤ (7 : Int) := (by omega); have q11 : (7 : Int) < ((y303.length : Int) : Int) := of_decide_eq_true (by first | (with_reducible assumption) | assumption); have qi11 : (7 < y303.length) = True := eq_true (by omega); obtain ⟨go11, co11, eo11, gb11, gl11, cl11, HG11⟩ := Kd.R_form HO305.out (by omega); (first | cases eo11 | (injection eo11 with ea_ en_ ec_; (first | subst ea_ | (injection ea_ with ea_; subst ea_)); subst ec_; clear en_)); have GB11 := mk0 gb11; have GG11 := mk0 HG11; clear gb11 gl11 HG11; obtain ⟨hx11_0, hf11_0⟩ := Kd.R_celln 0 HO305.out (7 : Int) p11 q11; (try rw [show ((7 : Int)).toNat = 7 from rfl] at hx11_0); (try simp only [Nat.reduceMul, Nat.zero_mul, Nat.zero_add, Nat.reduceAdd] at hx11_0); (try rw [show ((7 : Int)).toNat = 7 from rfl] at hf11_0); (try simp only [Nat.reduceMul, Nat.zero_mul, Nat.zero_add, Nat.reduceAdd] at hf11_0); replace p11 := eq_true p11; replace q11 := eq_true q11; obtain ⟨hy24_, hz24_⟩ := Kd.R_celln 0 HO305.out (7 : Int) (by omega) (of_decide_eq_true (by first | (with_reducible assumption) | assumption)); (try simp only [Int.reduceToNat, Int.toNat_zero, Int.toNat_ofNat, Nat.reduceMul, Nat.zero_mul, Nat.zero_add] at hy24_ hz24_); (try rw [show ((7 : Int)).toNat = 7 from rfl] at hy24_); (try rw [show ((7 : Int)).toNat = 7 from rfl] at hz24_); have HP24 := Kd.R_putg HO305.out (7 : Int) a0) | ((with_reducible refine gate_store (t := 2) (p := 29) rfl ?_); (try (rw [drewN_self w21]; generalize hq_ : World.drewN w21 _ = w21; have n0_ := mk0 (Kd.N_at hq_ HO296.out); have n1_ := mk0 (Kd.N_at hq_ HO300.out); have n2_ := mk0 (Kd.R_at hq_ HO305.out); have n3_ := mk0 (blk_at hq_ BK302.out); have n4_ := mk0 (below_at hq_ HB.out); clear hq_ HO296 HO300 HO305 BK302 HB; have HO296 := n0_; have HO300 := n1_; have HO305 := n2_; have BK302 := n3_; have HB := n4_; clear n0_ n1_ n2_ n3_ n4_; (try (obtain ⟨hy24_, hz24_⟩ := Kd.R_celln 0 HO305.out (7 : Int) (by omega) (of_decide_eq_true (by first | (with_reducible assumption) | assumption)))); (try (try simp only [Int.reduceToNat, Int.toNat_zero, Int.toNat_ofNat, Nat.reduceMul, Nat.zero_mul, Nat.zero_add] at hy24_ hz24_)); (try (try rw [show ((7 : Int)).toNat = 7 from rfl] at hy24_)); (try (try rw [show ((7 : Int)).toNat = 7 from rfl] at hz24_)); (try (have HP24 := Kd.R_putg HO305.out (7 : Int) a0)))); refine store_event (t := 2) (p := 29) (v := ?vo_w25) (w1 := (w21.setCell ⟨go11, (7 : Int).toNat, none⟩ (.int .i64 a0))) ?hg ?ho ?hn ?hr ?_; (case ho => rfl); (case hg => rfl); (case hn => rfl); (case hr => first | (go_simp; done) | (go_simp; rfl)); intro w25 hw; have hg : w21.grownBy w25 (some go11) := (by rw [hw]; exact HP24.2); have hp_ : Kd.R (Kd.int .i64) 2 w25 w.heap.size (fun _ => True) (.slice (some ⟨go11, 0, none⟩) y303.length co23) y306 := (by rw [hw, Ny306.out]; exact HP24.1); clear HP24; have n0_ := mk0 (Kd.N_afterv (v := (.slice (some ⟨go11, 0, none⟩) y303.length co23)) (v1 := (.slice (some ⟨go11, 0, none⟩) y303.length co23)) (ok := (fun k_ => some k_ ≠ (.slice Ao19 t298.length co19 : Value).ownBlock ∧ k_ ≠ gb302)) (uN (Kd.N_mono HO296.out (fun _ hk => ⟨⟨hk.1.1.2, hk.1.2⟩, hk.2⟩))) hg (.inl rfl)); have n1_ := mk0 (Kd.N_afterv (v := (.slice (some ⟨go11, 0, none⟩) y303.length co23)) (v1 := (.slice (some ⟨go11, 0, none⟩) y303.length co23)) (ok := (fun k_ => k_ ≠ gb302)) (uN (Kd.N_mono HO300.out (fun _ hk => ⟨hk.1.2, hk.2⟩))) hg (.inl rfl)); have n2_ := mk0 (blk_grown (g := gb302) (o := .cells #[.slice Ao19 t298.length co19, .int .i64 t301] 46 (0, 0)) (uB BK302.out) hg (Kd.R_ne HO305.out BK302.out (by decide))); have n3_ := mk0 (hp_); have n4_ := mk0 ((by rw [hw]; exact below_set (HB.out) GB11.out : Below w.heap.size w w25)); clear HO296; clear HO300; clear BK302; clear HO305; clear HB; have HO296 := n0_; have HO300 := n1_; have BK302 := n2_; have HO305 := n3_; have HB := n4_; clear n0_ n1_ n2_ n3_ n4_; clear hg hw hp_; have p13 : 0 ≤ (8 : Int) := (by omega); have q13 : (8 : Int) < ((y303.length : Int) : Int) := of_decide_eq_true (by first | (with_reducible assumption) | assumption); have qi13 : (8 < y303.length) = True := eq_true (by omega); obtain ⟨hx13_0, hf13_0⟩ := Kd.R_celln 0 HO305.out (8 : Int) p13 q13; (try rw [show ((8 : Int)).toNat = 8 from rfl] at hx13_0); (try simp only [Nat.reduceMul, Nat.zero_mul, Nat.zero_add, Nat.reduceAdd] at hx13_0); (try rw [show ((8 : Int)).toNat = 8 from rfl] at hf13_0); (try simp only [Nat.reduceMul, Nat.zero_mul, Nat.zero_add, Nat.reduceAdd] at hf13_0); replace p13 := eq_true p13; replace q13 := eq_true q13; obtain ⟨hy26_, hz26_⟩ := Kd.R_celln 0 HO305.out (8 : Int) (by omega) (of_decide_eq_true (by first | (with_reducible assumption) | assumption)); (try simp only [Int.reduceToNat, Int.toNat_zero, Int.toNat_ofNat, Nat.reduceMul, Nat.zero_mul, Nat.zero_add] at hy26_ hz26_); (try rw [show ((8 : Int)).toNat = 8 from rfl] at hy26_); (try rw [show ((8 : Int)).toNat = 8 from rfl] at hz26_); have HP26 := Kd.R_putg HO305.out (8 : Int) a1) | ((with_reducible refine gate_store (t := 2) (p := 30) rfl ?_); (try (rw [drewN_self w25]; generalize hq_ : World.drewN w25 _ = w25; have n0_ := mk0 (Kd.N_at hq_ HO296.out); have n1_ := mk0 (Kd.N_at hq_ HO300.out); have n2_ := mk0 (Kd.R_at hq_ HO305.out); have n3_ := mk0 (blk_at hq_ BK302.out); have n4_ := mk0 (below_at hq_ HB.out); clear hq_ HO296 HO300 HO305 BK302 HB; have HO296 := n0_; have HO300 := n1_; have HO305 := n2_; have BK302 := n3_; have HB := n4_; clear n0_ n1_ n2_ n3_ n4_; (try (obtain ⟨hy26_, hz26_⟩ := Kd.R_celln 0 HO305.out (8 : Int) (by omega) (of_decide_eq_true (by first | (with_reducible assumption) | assumption)))); (try (try simp only [Int.reduceToNat, Int.toNat_zero, Int.toNat_ofNat, Nat.reduceMul, Nat.zero_mul, Nat.zero_add] at hy26_ hz26_)); (try (try rw [show ((8 : Int)).toNat = 8 from rfl] at hy26_)); (try (try rw [show ((8 : Int)).toNat = 8 from rfl] at hz26_)); (try (have HP26 := Kd.R_putg HO305.out (8 : Int) a1)))); refine store_event (t := 2) (p := 30) (v := ?vo_w27) (w1 := (w25.setCell ⟨go11, (8 : Int).toNat, none⟩ (.int .i64 a1))) ?hg ?ho ?hn ?hr ?_; (case ho => rfl); (case hg => rfl); (case hn => rfl); (case hr => first | (go_simp; done) | (go_simp; rfl)); intro w27 hw; have hg : w25.grownBy w27 (some go11) := (by rw [hw]; exact HP26.2); have hp_ : Kd.R (Kd.int .i64) 2 w27 w.heap.size (fun _ => True) (.slice (some ⟨go11, 0, none⟩) y303.length co23) y307 := (by rw [hw, Ny307.out]; exact HP26.1); clear HP26; have n0_ := mk0 (Kd.N_afterv (v := (.slice (some ⟨go11, 0, none⟩) y303.length co23)) (v1 := (.slice (some ⟨go11, 0, none⟩) y303.length co23)) (ok := (fun k_ => some k_ ≠ (.slice Ao19 t298.length co19 : Value).ownBlock ∧ k_ ≠ gb302)) (uN HO296.out) hg (.inl rfl)); have n1_ := mk0 (Kd.N_afterv (v := (.slice (some ⟨go11, 0, none⟩) y303.length co23)) (v1 := (.slice (some ⟨go11, 0, none⟩) y303.length co23)) (ok := (fun k_ => k_ ≠ gb302)) (uN HO300.out) hg (.inl rfl)); have n2_ := mk0 (blk_grown (g := gb302) (o := .cells #[.slice Ao19 t298.length co19, .int .i64 t301] 46 (0, 0)) (uB BK302.out) hg (Kd.R_ne HO305.out BK302.out (by decide))); have n3_ := mk0 (hp_); have n4_ := mk0 ((by rw [hw]; exact below_set (HB.out) GB11.out : Below w.heap.size w w27)); clear HO296; clear HO300; clear BK302; clear HO305; clear HB; have HO296 := n0_; have HO300 := n1_; have BK302 := n2_; have HO305 := n3_; have HB := n4_; clear n0_ n1_ n2_ n3_ n4_; clear hg hw hp_) | ((with_reducible refine gate_dst (N := 7) rfl ?_); (try (refine gate_guard (by rfl) ?_; dsimp only)); refine box_event ?hg (N := 7) ?hd (cs := #[.int .i64 0, .int .i64 0, .string (⟨#[]⟩ : ByteArray), .slice none 0 0]) (t := 24) ?hr ?_; (case hd => rfl); (case hg => rfl); (case hr => first | (go_simp; done) | (go_simp; rfl)); intro gb308 hg w28 hbox hb; have n0_ := mk0 (Kd.N_below (Kd.N_elderB (uN HO296.out) gb308 (Nat.le_of_eq hg.symm)) hb); have n1_ := mk0 (Kd.N_below (Kd.N_elderB (uN HO300.out) gb308 (Nat.le_of_eq hg.symm)) hb); have n2_ := mk0 (Kd.R_below (uR HO305.out) hb); have n3_ := mk0 (blk_below (g := gb302) (o := .cells #[.slice Ao19 t298.length co19, .int .i64 t301] 46 (0, 0)) (uB BK302.out) hb); have n4_ := mk0 (below_step (by repeat (first | (with_reducible first | exact HB.out | apply bA | apply bN | apply bD | refine bS ?_ (by assumption)) | exact HB.out)) hb); have n5_ := mk0 (hbox); have n6_ := mk0 ((by rw [hg]; exact (below_size (by repeat (first | (with_reducible first | exact HB.out | apply bA | apply bN | apply bD | refine bS ?_ (by assumption)) | exact HB.out))) : w.heap.size ≤ gb308)); have n7_ := mk0 ((by rw [hg]; exact (below_size (by repeat (first | (with_reducible first | exact HB.out | apply bA | apply bN | apply bD | refine bS ?_ (by assumption)) | exact HB.out))) : w.heap.size ≤ gb308)); have n8_ := mk0 ((by rw [hg]; exact Nat.ne_of_lt (blk_lt (g := gb302) (o := .cells #[.slice Ao19 t298.length co19, .int .i64 t301] 46 (0, 0)) (uB BK302.out)) : gb302 ≠ gb308)); have n9_ := mk0 ((by rw [hg]; exact Nat.ne_of_gt (blk_lt (g := gb302) (o := .cells #[.slice Ao19 t298.length co19, .int .i64 t301] 46 (0, 0)) (uB BK302.out)) : gb308 ≠ gb302)); clear HO296; clear HO300; clear HO305; clear BK302; clear HB; have HO296 := n0_; have HO300 := n1_; have HO305 := n2_; have BK302 := n3_; have HB := n4_; have BK308 := n5_; have GW308 := n6_; have GE308 := n7_; have NB302_308 := n8_; have NB308_302 := n9_; clear n0_ n1_ n2_ n3_ n4_ n5_ n6_ n7_ n8_ n9_; clear hb hbox hg; have hnb29 := NB308_302.out; have hnc29 := NB302_308.out; have hcz30_0 : w28.cell? ⟨gb308, 0, none⟩ = some (.int .i64 0) := (blk_cell BK308.out 0).trans rfl; have hcz30_1 : w28.cell? ⟨gb308, 1, none⟩ = some (.int .i64 0) := (blk_cell BK308.out 1).trans rfl; have hcz30_2 : w28.cell? ⟨gb308, 2, none⟩ = some (.string (⟨#[]⟩ : ByteArray)) := (blk_cell BK308.out 2).trans rfl; have hcz30_3 : w28.cell? ⟨gb308, 3, none⟩ = some (.slice none 0 0) := (blk_cell BK308.out 3).trans rfl; have hfz30_0 := blk_frozen BK308.out 0; have hfz30_1 := blk_frozen BK308.out 1; have hfz30_2 := blk_frozen BK308.out 2; have hfz30_3 := blk_frozen BK308.out 3) | ((with_reducible refine gate_dst (N := 8) rfl ?_); (try (refine gate_guard (by rfl) ?_; dsimp only)); refine box_event ?hg (N := 8) ?hd (cs := #[.int .i64 0, .int .i64 0, .string (⟨#[]⟩ : ByteArray), .slice none 0 0]) (t := 24) ?hr ?_; (case hd => rfl); (case hg => rfl); (case hr => first | (go_simp; done) | (go_simp; rfl)); intro gb309 hg w31 hbox hb; have n0_ := mk0 (Kd.N_below (Kd.N_elderB (uN (Kd.N_mono (Kd.N_far (p := ⟨gb308, 3, none⟩) (Kd.N_far (p := ⟨gb308, 2, none⟩) (Kd.N_far (p := ⟨gb308, 1, none⟩) (Kd.N_far (p := ⟨gb308, 0, none⟩) (Kd.N_mono HO296.out (fun k_ hk => (⟨hk, hk.2⟩ : _ ∧ k_ ≠ gb308))) (fun _ hk => hk.2) (.int .i64 2)) (fun _ hk => hk.2) (.int .i64 0)) (fun _ hk => hk.2) (.string (⟨#[120]⟩ : ByteArray))) (fun _ hk => hk.2) (.slice none 0 0)) (fun _ h_ => h_.1))) gb309 (Nat.le_of_eq hg.symm)) hb); have n1_ := mk0 (Kd.N_below (Kd.N_elderB (uN (Kd.N_mono (Kd.N_far (p := ⟨gb308, 3, none⟩) (Kd.N_far (p := ⟨gb308, 2, none⟩) (Kd.N_far (p := ⟨gb308, 1, none⟩) (Kd.N_far (p := ⟨gb308, 0, none⟩) (Kd.N_mono HO300.out (fun k_ hk => (⟨hk, hk.2⟩ : _ ∧ k_ ≠ gb308))) (fun _ hk => hk.2) (.int .i64 2)) (fun _ hk => hk.2) (.int .i64 0)) (fun _ hk => hk.2) (.string (⟨#[120]⟩ : ByteArray))) (fun _ hk => hk.2) (.slice none 0 0)) (fun _ h_ => h_.1))) gb309 (Nat.le_of_eq hg.symm)) hb); have n2_ := mk0 (Kd.R_below (uR (Kd.R_mono (Kd.R_far (p := ⟨gb308, 3, none⟩) (Kd.R_far (p := ⟨gb308, 2, none⟩) (Kd.R_far (p := ⟨gb308, 1, none⟩) (Kd.R_far (p := ⟨gb308, 0, none⟩) (Kd.R_types HO305.out BK308.out (by decide)) (fun _ hk => hk.2) (.int .i64 2)) (fun _ hk => hk.2) (.int .i64 0)) (fun _ hk => hk.2) (.string (⟨#[120]⟩ : ByteArray))) (fun _ hk => hk.2) (.slice none 0 0)) (fun _ h_ => h_.1))) hb); have n3_ := mk0 (blk_below (g := gb302) (o := .cells #[.slice Ao19 t298.length co19, .int .i64 t301] 46 (0, 0)) (by (with_reducible repeat (first | refine blk_drewN ?_ _ | refine blk_drew ?_ | refine blk_alloc ?_ _)); refine blk_far ?_ NB302_308.out _; (with_reducible repeat (first | refine blk_drewN ?_ _ | refine blk_drew ?_ | refine blk_alloc ?_ _)); refine blk_far ?_ NB302_308.out _; (with_reducible repeat (first | refine blk_drewN ?_ _ | refine blk_drew ?_ | refine blk_alloc ?_ _)); refine blk_far ?_ NB302_308.out _; (with_reducible repeat (first | refine blk_drewN ?_ _ | refine blk_drew ?_ | refine blk_alloc ?_ _)); refine blk_far ?_ NB302_308.out _; (with_reducible repeat (first | refine blk_drewN ?_ _ | refine blk_drew ?_ | refine blk_alloc ?_ _)); exact BK302.out) hb); have n4_ := mk0 (blk_below (g := gb308) (o := .cells #[.int .i64 2, .int .i64 0, .string (⟨#[120]⟩ : ByteArray), .slice none 0 0] 24 (0, 0)) (by (with_reducible repeat (first | refine blk_drewN ?_ _ | refine blk_drew ?_ | refine blk_alloc ?_ _)); refine blk_put (cs := #[.int .i64 2, .int .i64 0, .string (⟨#[120]⟩ : ByteArray), .slice none 0 0]) ?_ 3 _ rfl; (with_reducible repeat (first | refine blk_drewN ?_ _ | refine blk_drew ?_ | refine blk_alloc ?_ _)); refine blk_put (cs := #[.int .i64 2, .int .i64 0, .string (⟨#[]⟩ : ByteArray), .slice none 0 0]) ?_ 2 _ rfl; (with_reducible repeat (first | refine blk_drewN ?_ _ | refine blk_drew ?_ | refine blk_alloc ?_ _)); refine blk_put (cs := #[.int .i64 2, .int .i64 0, .string (⟨#[]⟩ : ByteArray), .slice none 0 0]) ?_ 1 _ rfl; (with_reducible repeat (first | refine blk_drewN ?_ _ | refine blk_drew ?_ | refine blk_alloc ?_ _)); refine blk_put (cs := #[.int .i64 0, .int .i64 0, .string (⟨#[]⟩ : ByteArray), .slice none 0 0]) ?_ 0 _ rfl; (with_reducible repeat (first | refine blk_drewN ?_ _ | refine blk_drew ?_ | refine blk_alloc ?_ _)); exact BK308.out) hb); have n5_ := mk0 (below_step (by repeat (first | (with_reducible first | exact HB.out | apply bA | apply bN | apply bD | refine bS ?_ (by assumption)) | exact HB.out)) hb); have n6_ := mk0 (hbox); have n7_ := mk0 ((by rw [hg]; exact (below_size (by repeat (first | (with_reducible first | exact HB.out | apply bA | apply bN | apply bD | refine bS ?_ (by assumption)) | exact HB.out))) : w.heap.size ≤ gb309)); have n8_ := mk0 ((by rw [hg]; exact (below_size (by repeat (first | (with_reducible first | exact HB.out | apply bA | apply bN | apply bD | refine bS ?_ (by assumption)) | exact HB.out))) : w.heap.size ≤ gb309)); have n9_ := mk0 ((by rw [hg]; exact Nat.ne_of_lt (blk_lt (g := gb302) (o := .cells #[.slice Ao19 t298.length co19, .int .i64 t301] 46 (0, 0)) (by (with_reducible repeat (first | refine blk_drewN ?_ _ | refine blk_drew ?_ | refine blk_alloc ?_ _)); refine blk_far ?_ NB302_308.out _; (with_reducible repeat (first | refine blk_drewN ?_ _ | refine blk_drew ?_ | refine blk_alloc ?_ _)); refine blk_far ?_ NB302_308.out _; (with_reducible repeat (first | refine blk_drewN ?_ _ | refine blk_drew ?_ | refine blk_alloc ?_ _)); refine blk_far ?_ NB302_308.out _; (with_reducible repeat (first | refine blk_drewN ?_ _ | refine blk_drew ?_ | refine blk_alloc ?_ _)); refine blk_far ?_ NB302_308.out _; (with_reducible repeat (first | refine blk_drewN ?_ _ | refine blk_drew ?_ | refine blk_alloc ?_ _)); exact BK302.out)) : gb302 ≠ gb309)); have n10_ := mk0 ((by rw [hg]; exact Nat.ne_of_gt (blk_lt (g := gb302) (o := .cells #[.slice Ao19 t298.length co19, .int .i64 t301] 46 (0, 0)) (by (with_reducible repeat (first | refine blk_drewN ?_ _ | refine blk_drew ?_ | refine blk_alloc ?_ _)); refine blk_far ?_ NB302_308.out _; (with_reducible repeat (first | refine blk_drewN ?_ _ | refine blk_drew ?_ | refine blk_alloc ?_ _)); refine blk_far ?_ NB302_308.out _; (with_reducible repeat (first | refine blk_drewN ?_ _ | refine blk_drew ?_ | refine blk_alloc ?_ _)); refine blk_far ?_ NB302_308.out _; (with_reducible repeat (first | refine blk_drewN ?_ _ | refine blk_drew ?_ | refine blk_alloc ?_ _)); refine blk_far ?_ NB302_308.out _; (with_reducible repeat (first | refine blk_drewN ?_ _ | refine blk_drew ?_ | refine blk_alloc ?_ _)); exact BK302.out)) : gb309 ≠ gb302)); have n11_ := mk0 ((by rw [hg]; exact Nat.ne_of_lt (blk_lt (g := gb308) (o := .cells #[.int .i64 2, .int .i64 0, .string (⟨#[120]⟩ : ByteArray), .slice none 0 0] 24 (0, 0)) (by (with_reducible repeat (first | refine blk_drewN ?_ _ | refine blk_drew ?_ | refine blk_alloc ?_ _)); refine blk_put (cs := #[.int .i64 2, .int .i64 0, .string (⟨#[120]⟩ : ByteArray), .slice none 0 0]) ?_ 3 _ rfl; (with_reducible repeat (first | refine blk_drewN ?_ _ | refine blk_drew ?_ | refine blk_alloc ?_ _)); refine blk_put (cs := #[.int .i64 2, .int .i64 0, .string (⟨#[]⟩ : ByteArray), .slice none 0 0]) ?_ 2 _ rfl; (with_reducible repeat (first | refine blk_drewN ?_ _ | refine blk_drew ?_ | refine blk_alloc ?_ _)); refine blk_put (cs := #[.int .i64 2, .int .i64 0, .string (⟨#[]⟩ : ByteArray), .slice none 0 0]) ?_ 1 _ rfl; (with_reducible repeat (first | refine blk_drewN ?_ _ | refine blk_drew ?_ | refine blk_alloc ?_ _)); refine blk_put (cs := #[.int .i64 0, .int .i64 0, .string (⟨#[]⟩ : ByteArray), .slice none 0 0]) ?_ 0 _ rfl; (with_reducible repeat (first | refine blk_drewN ?_ _ | refine blk_drew ?_ | refine blk_alloc ?_ _)); exact BK308.out)) : gb308 ≠ gb309)); have n12_ := mk0 ((by rw [hg]; exact Nat.ne_of_gt (blk_lt (g := gb308) (o := .cells #[.int .i64 2, .int .i64 0, .string (⟨#[120]⟩ : ByteArray), .slice none 0 0] 24 (0, 0)) (by (with_reducible repeat (first | refine blk_drewN ?_ _ | refine blk_drew ?_ | refine blk_alloc ?_ _)); refine blk_put (cs := #[.int .i64 2, .int .i64 0, .string (⟨#[120]⟩ : ByteArray), .slice none 0 0]) ?_ 3 _ rfl; (with_reducible repeat (first | refine blk_drewN ?_ _ | refine blk_drew ?_ | refine blk_alloc ?_ _)); refine blk_put (cs := #[.int .i64 2, .int .i64 0, .string (⟨#[]⟩ : ByteArray), .slice none 0 0]) ?_ 2 _ rfl; (with_reducible repeat (first | refine blk_drewN ?_ _ | refine blk_drew ?_ | refine blk_alloc ?_ _)); refine blk_put (cs := #[.int .i64 2, .int .i64 0, .string (⟨#[]⟩ : ByteArray), .slice none 0 0]) ?_ 1 _ rfl; (with_reducible repeat (first | refine blk_drewN ?_ _ | refine blk_drew ?_ | refine blk_alloc ?_ _)); refine blk_put (cs := #[.int .i64 0, .int .i64 0, .string (⟨#[]⟩ : ByteArray), .slice none 0 0]) ?_ 0 _ rfl; (with_reducible repeat (first | refine blk_drewN ?_ _ | refine blk_drew ?_ | refine blk_alloc ?_ _)); exact BK308.out)) : gb309 ≠ gb308)); clear HO296; clear HO300; clear HO305; clear BK302; clear BK308; clear HB; have HO296 := n0_; have HO300 := n1_; have HO305 := n2_; have BK302 := n3_; have BK308 := n4_; have HB := n5_; have BK309 := n6_; have GW309 := n7_; have GE309 := n8_; have NB302_309 := n9_; have NB309_302 := n10_; have NB308_309 := n11_; have NB309_308 := n12_; clear n0_ n1_ n2_ n3_ n4_ n5_ n6_ n7_ n8_ n9_ n10_ n11_ n12_; clear hb hbox hg; have hnb32 := NB309_302.out; have hnc32 := NB302_309.out; have hnb33 := NB309_308.out; have hnc33 := NB308_309.out; have hcz34_0 : w31.cell? ⟨gb309, 0, none⟩ = some (.int .i64 0) := (blk_cell BK309.out 0).trans rfl; have hcz34_1 : w31.cell? ⟨gb309, 1, none⟩ = some (.int .i64 0) := (blk_cell BK309.out 1).trans rfl; have hcz34_2 : w31.cell? ⟨gb309, 2, none⟩ = some (.string (⟨#[]⟩ : ByteArray)) := (blk_cell BK309.out 2).trans rfl; have hcz34_3 : w31.cell? ⟨gb309, 3, none⟩ = some (.slice none 0 0) := (blk_cell BK309.out 3).trans rfl; have hfz34_0 := blk_frozen BK309.out 0; have hfz34_1 := blk_frozen BK309.out 1; have hfz34_2 := blk_frozen BK309.out 2; have hfz34_3 := blk_frozen BK309.out 3) | ((with_reducible refine gate_dst (N := 9) rfl ?_); (try (refine gate_guard (by rfl) ?_; dsimp only)); refine box_event ?hg (N := 9) ?hd (cs := #[.int .i64 0, .int .i64 0, .int .i64 0, .int .i64 0]) (t := 66) ?hr ?_; (case hd => rfl); (case hg => rfl); (case hr => first | (go_simp; done) | (go_simp; rfl)); intro gb310 hg w35 hbox hb; have n0_ := mk0 (Kd.N_below (Kd.N_elderB (uN (Kd.N_mono (Kd.N_far (p := ⟨gb309, 3, none⟩) (Kd.N_far (p := ⟨gb309, 2, none⟩) (Kd.N_far (p := ⟨gb309, 1, none⟩) (Kd.N_far (p := ⟨gb309, 0, none⟩) (Kd.N_mono HO296.out (fun k_ hk => (⟨hk, hk.2⟩ : _ ∧ k_ ≠ gb309))) (fun _ hk => hk.2) (.int .i64 2)) (fun _ hk => hk.2) (.int .i64 0)) (fun _ hk => hk.2) (.string (⟨#[121]⟩ : ByteArray))) (fun _ hk => hk.2) (.slice none 0 0)) (fun _ h_ => h_.1))) gb310 (Nat.le_of_eq hg.symm)) hb); have n1_ := mk0 (Kd.N_below (Kd.N_elderB (uN (Kd.N_mono (Kd.N_far (p := ⟨gb309, 3, none⟩) (Kd.N_far (p := ⟨gb309, 2, none⟩) (Kd.N_far (p := ⟨gb309, 1, none⟩) (Kd.N_far (p := ⟨gb309, 0, none⟩) (Kd.N_mono HO300.out (fun k_ hk => (⟨hk, hk.2⟩ : _ ∧ k_ ≠ gb309))) (fun _ hk => hk.2) (.int .i64 2)) (fun _ hk => hk.2) (.int .i64 0)) (fun _ hk => hk.2) (.string (⟨#[121]⟩ : ByteArray))) (fun _ hk => hk.2) (.slice none 0 0)) (fun _ h_ => h_.1))) gb310 (Nat.le_of_eq hg.symm)) hb); have n2_ := mk0 (Kd.R_below (uR (Kd.R_mono (Kd.R_far (p := ⟨gb309, 3, none⟩) (Kd.R_far (p := ⟨gb309, 2, none⟩) (Kd.R_far (p := ⟨gb309, 1, none⟩) (Kd.R_far (p := ⟨gb309, 0, none⟩) (Kd.R_types HO305.out BK309.out (by decide)) (fun _ hk => hk.2) (.int .i64 2)) (fun _ hk => hk.2) (.int .i64 0)) (fun _ hk => hk.2) (.string (⟨#[121]⟩ : ByteArray))) (fun _ hk => hk.2) (.slice none 0 0)) (fun _ h_ => h_.1))) hb); have n3_ := mk0 (blk_below (g := gb302) (o := .cells #[.slice Ao19 t298.length co19, .int .i64 t301] 46 (0, 0)) (by (with_reducible repeat (first | refine blk_drewN ?_ _ | refine blk_drew ?_ | refine blk_alloc ?_ _)); refine blk_far ?_ NB302_309.out _; (with_reducible repeat (first | refine blk_drewN ?_ _ | refine blk_drew ?_ | refine blk_alloc ?_ _)); refine blk_far ?_ NB302_309.out _; (with_reducible repeat (first | refine blk_drewN ?_ _ | refine blk_drew ?_ | refine blk_alloc ?_ _)); refine blk_far ?_ NB302_309.out _; (with_reducible repeat (first | refine blk_drewN ?_ _ | refine blk_drew ?_ | refine blk_alloc ?_ _)); refine blk_far ?_ NB302_309.out _; (with_reducible repeat (first | refine blk_drewN ?_ _ | refine blk_drew ?_ | refine blk_alloc ?_ _)); exact BK302.out) hb); have n4_ := mk0 (blk_below (g := gb308) (o := .cells #[.int .i64 2, .int .i64 0, .string (⟨#[120]⟩ : ByteArray), .slice none 0 0] 24 (0, 0)) (by (with_reducible repeat (first | refine blk_drewN ?_ _ | refine blk_drew ?_ | refine blk_alloc ?_ _)); refine blk_far ?_ NB308_309.out _; (with_reducible repeat (first | refine blk_drewN ?_ _ | refine blk_drew ?_ | refine blk_alloc ?_ _)); refine blk_far ?_ NB308_309.out _; (with_reducible repeat (first | refine blk_drewN ?_ _ | refine blk_drew ?_ | refine blk_alloc ?_ _)); refine blk_far ?_ NB308_309.out _; (with_reducible repeat (first | refine blk_drewN ?_ _ | refine blk_drew ?_ | refine blk_alloc ?_ _)); refine blk_far ?_ NB308_309.out _; (with_reducible repeat (first | refine blk_drewN ?_ _ | refine blk_drew ?_ | refine blk_alloc ?_ _)); exact BK308.out) hb); have n5_ := mk0 (blk_below (g := gb309) (o := .cells #[.int .i64 2, .int .i64 0, .string (⟨#[121]⟩ : ByteArray), .slice none 0 0] 24 (0, 0)) (by (with_reducible repeat (first | refine blk_drewN ?_ _ | refine blk_drew ?_ | refine blk_alloc ?_ _)); refine blk_put (cs := #[.int .i64 2, .int .i64 0, .string (⟨#[121]⟩ : ByteArray), .slice none 0 0]) ?_ 3 _ rfl; (with_reducible repeat (first | refine blk_drewN ?_ _ | refine blk_drew ?_ | refine blk_alloc ?_ _)); refine blk_put (cs := #[.int .i64 2, .int .i64 0, .string (⟨#[]⟩ : ByteArray), .slice none 0 0]) ?_ 2 _ rfl; (with_reducible repeat (first | refine blk_drewN ?_ _ | refine blk_drew ?_ | refine blk_alloc ?_ _)); refine blk_put (cs := #[.int .i64 2, .int .i64 0, .string (⟨#[]⟩ : ByteArray), .slice none 0 0]) ?_ 1 _ rfl; (with_reducible repeat (first | refine blk_drewN ?_ _ | refine blk_drew ?_ | refine blk_alloc ?_ _)); refine blk_put (cs := #[.int .i64 0, .int .i64 0, .string (⟨#[]⟩ : ByteArray), .slice none 0 0]) ?_ 0 _ rfl; (with_reducible repeat (first | refine blk_drewN ?_ _ | refine blk_drew ?_ | refine blk_alloc ?_ _)); exact BK309.out) hb); have n6_ := mk0 (below_step (by repeat (first | (with_reducible first | exact HB.out | apply bA | apply bN | apply bD | refine bS ?_ (by assumption)) | exact HB.out)) hb); have n7_ := mk0 (hbox); have n8_ := mk0 ((by rw [hg]; exact (below_size (by repeat (first | (with_reducible first | exact HB.out | apply bA | apply bN | apply bD | refine bS ?_ (by assumption)) | exact HB.out))) : w.heap.size ≤ gb310)); have n9_ := mk0 ((by rw [hg]; exact (below_size (by repeat (first | (with_reducible first | exact HB.out | apply bA | apply bN | apply bD | refine bS ?_ (by assumption)) | exact HB.out))) : w.heap.size ≤ gb310)); have n10_ := mk0 ((by rw [hg]; exact Nat.ne_of_lt (blk_lt (g := gb302) (o := .cells #[.slice Ao19 t298.length co19, .int .i64 t301] 46 (0, 0)) (by (with_reducible repeat (first | refine blk_drewN ?_ _ | refine blk_drew ?_ | refine blk_alloc ?_ _)); refine blk_far ?_ NB302_309.out _; (with_reducible repeat (first | refine blk_drewN ?_ _ | refine blk_drew ?_ | refine blk_alloc ?_ _)); refine blk_far ?_ NB302_309.out _; (with_reducible repeat (first | refine blk_drewN ?_ _ | refine blk_drew ?_ | refine blk_alloc ?_ _)); refine blk_far ?_ NB302_309.out _; (with_reducible repeat (first | refine blk_drewN ?_ _ | refine blk_drew ?_ | refine blk_alloc ?_ _)); refine blk_far ?_ NB302_309.out _; (with_reducible repeat (first | refine blk_drewN ?_ _ | refine blk_drew ?_ | refine blk_alloc ?_ _)); exact BK302.out)) : gb302 ≠ gb310)); have n11_ := mk0 ((by rw [hg]; exact Nat.ne_of_gt (blk_lt (g := gb302) (o := .cells #[.slice Ao19 t298.length co19, .int .i64 t301] 46 (0, 0)) (by (with_reducible repeat (first | refine blk_drewN ?_ _ | refine blk_drew ?_ | refine blk_alloc ?_ _)); refine blk_far ?_ NB302_309.out _; (with_reducible repeat (first | refine blk_drewN ?_ _ | refine blk_drew ?_ | refine blk_alloc ?_ _)); refine blk_far ?_ NB302_309.out _; (with_reducible repeat (first | refine blk_drewN ?_ _ | refine blk_drew ?_ | refine blk_alloc ?_ _)); refine blk_far ?_ NB302_309.out _; (with_reducible repeat (first | refine blk_drewN ?_ _ | refine blk_drew ?_ | refine blk_alloc ?_ _)); refine blk_far ?_ NB302_309.out _; (with_reducible repeat (first | refine blk_drewN ?_ _ | refine blk_drew ?_ | refine blk_alloc ?_ _)); exact BK302.out)) : gb310 ≠ gb302)); have n12_ := mk0 ((by rw [hg]; exact Nat.ne_of_lt (blk_lt (g := gb308) (o := .cells #[.int .i64 2, .int .i64 0, .string (⟨#[120]⟩ : ByteArray), .slice none 0 0] 24 (0, 0)) (by (with_reducible repeat (first | refine blk_drewN ?_ _ | refine blk_drew ?_ | refine blk_alloc ?_ _)); refine blk_far ?_ NB308_309.out _; (with_reducible repeat (first | refine blk_drewN ?_ _ | refine blk_drew ?_ | refine blk_alloc ?_ _)); refine blk_far ?_ NB308_309.out _; (with_reducible repeat (first | refine blk_drewN ?_ _ | refine blk_drew ?_ | refine blk_alloc ?_ _)); refine blk_far ?_ NB308_309.out _; (with_reducible repeat (first | refine blk_drewN ?_ _ | refine blk_drew ?_ | refine blk_alloc ?_ _)); refine blk_far ?_ NB308_309.out _; (with_reducible repeat (first | refine blk_drewN ?_ _ | refine blk_drew ?_ | refine blk_alloc ?_ _)); exact BK308.out)) : gb308 ≠ gb310)); have n13_ := mk0 ((by rw [hg]; exact Nat.ne_of_gt (blk_lt (g := gb308) (o := .cells #[.int .i64 2, .int .i64 0, .string (⟨#[120]⟩ : ByteArray), .slice none 0 0] 24 (0, 0)) (by (with_reducible repeat (first | refine blk_drewN ?_ _ | refine blk_drew ?_ | refine blk_alloc ?_ _)); refine blk_far ?_ NB308_309.out _; (with_reducible repeat (first | refine blk_drewN ?_ _ | refine blk_drew ?_ | refine blk_alloc ?_ _)); refine blk_far ?_ NB308_309.out _; (with_reducible repeat (first | refine blk_drewN ?_ _ | refine blk_drew ?_ | refine blk_alloc ?_ _)); refine blk_far ?_ NB308_309.out _; (with_reducible repeat (first | refine blk_drewN ?_ _ | refine blk_drew ?_ | refine blk_alloc ?_ _)); refine blk_far ?_ NB308_309.out _; (with_reducible repeat (first | refine blk_drewN ?_ _ | refine blk_drew ?_ | refine blk_alloc ?_ _)); exact BK308.out)) : gb310 ≠ gb308)); have n14_ := mk0 ((by rw [hg]; exact Nat.ne_of_lt (blk_lt (g := gb309) (o := .cells #[.int .i64 2, .int .i64 0, .string (⟨#[121]⟩ : ByteArray), .slice none 0 0] 24 (0, 0)) (by (with_reducible repeat (first | refine blk_drewN ?_ _ | refine blk_drew ?_ | refine blk_alloc ?_ _)); refine blk_put (cs := #[.int .i64 2, .int .i64 0, .string (⟨#[121]⟩ : ByteArray), .slice none 0 0]) ?_ 3 _ rfl; (with_reducible repeat (first | refine blk_drewN ?_ _ | refine blk_drew ?_ | refine blk_alloc ?_ _)); refine blk_put (cs := #[.int .i64 2, .int .i64 0, .string (⟨#[]⟩ : ByteArray), .slice none 0 0]) ?_ 2 _ rfl; (with_reducible repeat (first | refine blk_drewN ?_ _ | refine blk_drew ?_ | refine blk_alloc ?_ _)); refine blk_put (cs := #[.int .i64 2, .int .i64 0, .string (⟨#[]⟩ : ByteArray), .slice none 0 0]) ?_ 1 _ rfl; (with_reducible repeat (first | refine blk_drewN ?_ _ | refine blk_drew ?_ | refine blk_alloc ?_ _)); refine blk_put (cs := #[.int .i64 0, .int .i64 0, .string (⟨#[]⟩ : ByteArray), .slice none 0 0]) ?_ 0 _ rfl; (with_reducible repeat (first | refine blk_drewN ?_ _ | refine blk_drew ?_ | refine blk_alloc ?_ _)); exact BK309.out)) : gb309 ≠ gb310)); have n15_ := mk0 ((by rw [hg]; exact Nat.ne_of_gt (blk_lt (g := gb309) (o := .cells #[.int .i64 2, .int .i64 0, .string (⟨#[121]⟩ : ByteArray), .slice none 0 0] 24 (0, 0)) (by (with_reducible repeat (first | refine blk_drewN ?_ _ | refine blk_drew ?_ | refine blk_alloc ?_ _)); refine blk_put (cs := #[.int .i64 2, .int .i64 0, .string (⟨#[121]⟩ : ByteArray), .slice none 0 0]) ?_ 3 _ rfl; (with_reducible repeat (first | refine blk_drewN ?_ _ | refine blk_drew ?_ | refine blk_alloc ?_ _)); refine blk_put (cs := #[.int .i64 2, .int .i64 0, .string (⟨#[]⟩ : ByteArray), .slice none 0 0]) ?_ 2 _ rfl; (with_reducible repeat (first | refine blk_drewN ?_ _ | refine blk_drew ?_ | refine blk_alloc ?_ _)); refine blk_put (cs := #[.int .i64 2, .int .i64 0, .string (⟨#[]⟩ : ByteArray), .slice none 0 0]) ?_ 1 _ rfl; (with_reducible repeat (first | refine blk_drewN ?_ _ | refine blk_drew ?_ | refine blk_alloc ?_ _)); refine blk_put (cs := #[.int .i64 0, .int .i64 0, .string (⟨#[]⟩ : ByteArray), .slice none 0 0]) ?_ 0 _ rfl; (with_reducible repeat (first | refine blk_drewN ?_ _ | refine blk_drew ?_ | refine blk_alloc ?_ _)); exact BK309.out)) : gb310 ≠ gb309)); clear HO296; clear HO300; clear HO305; clear BK302; clear BK308; clear BK309; clear HB; have HO296 := n0_; have HO300 := n1_; have HO305 := n2_; have BK302 := n3_; have BK308 := n4_; have BK309 := n5_; have HB := n6_; have BK310 := n7_; have GW310 := n8_; have GE310 := n9_; have NB302_310 := n10_; have NB310_302 := n11_; have NB308_310 := n12_; have NB310_308 := n13_; have NB309_310 := n14_; have NB310_309 := n15_; clear n0_ n1_ n2_ n3_ n4_ n5_ n6_ n7_ n8_ n9_ n10_ n11_ n12_ n13_ n14_ n15_; clear hb hbox hg))
       go_loopg [10] k (fun kq v10 w' => ∃ (x10_1 : Int) (x311000_1 : Int) (x311001_1 : Int) (x311002_1 : Int) (x311003_1 : Int), v10 = .int .i64 x10_1 ∧ Aside0 (furrowlaw9_EvalNums.l0 kq a0 a1 y307 x10_1 t298 t301 2 0 (⟨#[120]⟩ : ByteArray) 2 0 (⟨#[121]⟩ : ByteArray) x311000_1 x311001_1 x311002_1 x311003_1 = some true) ∧ Aside0 (kq ≤ k) ∧ Aside0 (Kd.R (Kd.int .i64) 2 w' w.heap.size (fun _ => True) (.slice (some ⟨go11, 0, none⟩) y303.length co23) y307) ∧ Aside0 (Kd.N k64 64 w' w.heap.size (fun k_ => some k_ ≠ ((.slice (some ⟨go11, 0, none⟩) y303.length co23) : Value).ownBlock ∧ k_ ≠ gb302 ∧ k_ ≠ gb308 ∧ k_ ≠ gb309 ∧ k_ ≠ gb310) (.slice Ao19 t298.length co19) t298) ∧ Aside0 (w'.heap[gb302]? = some (.cells #[(.slice Ao19 t298.length co19), .int .i64 t301] 46 (0, 0))) ∧ Aside0 (w'.heap[gb308]? = some (.cells #[.int .i64 2, .int .i64 0, .string (⟨#[120]⟩ : ByteArray), (.slice none 0 0)] 24 (0, 0))) ∧ Aside0 (w'.heap[gb309]? = some (.cells #[.int .i64 2, .int .i64 0, .string (⟨#[121]⟩ : ByteArray), (.slice none 0 0)] 24 (0, 0))) ∧ Aside0 (w'.heap[gb310]? = some (.cells #[.int .i64 x311000_1, .int .i64 x311001_1, .int .i64 x311002_1, .int .i64 x311003_1] 66 (0, 0))) ∧ Aside0 (Below w.heap.size w w'))
       case atStart => exact ⟨(0), (0), (0), (0), (0), (by first | rfl | (simp; done) | (simp [*]; done) | (simp [bne_nil_, beq_nil_]; done)), H', ⟨Nat.le_refl _⟩, ⟨uR HO305.out⟩, ⟨uN (Kd.N_mono HO300.out (fun _ hk => ⟨hk.1.1.1.2, ⟨hk.1.1.1.1, ⟨hk.1.1.2, ⟨hk.1.2, hk.2⟩⟩⟩⟩))⟩, ⟨uB BK302.out⟩, ⟨uB BK308.out⟩, ⟨uB BK309.out⟩, ⟨uB BK310.out⟩, ⟨by repeat (first | (with_reducible first | exact HB.out | apply bA | apply bN | apply bD | refine bS ?_ (by assumption)) | exact HB.out)⟩⟩
       case round =>
        clear H'
        try clear c1
        try clear p1
        try clear q1
        try clear hx1
        try clear qi1
        try clear c2
        try clear p2
        try clear c3
        try clear c4
        try clear c6
        try clear c7
        try clear c7b0
        try clear c7b1
        try clear c8
        try clear c8b0
        try clear c8b1
        try clear c9
        try clear c9b0
        try clear c9b1
        try clear c10
        try clear c10b0
        try clear c10b1
        try clear p11
        try clear q11
        try clear hx11
        try clear qi11
        try clear hf11
        try clear c12
        try clear c12b0
        try clear c12b1
        try clear p13
        try clear q13
        try clear hx13
        try clear qi13
        try clear hf13
        try clear c29
        try clear c32
        try clear c33
        try clear hcz20_0
        try clear hcz20_1
        try clear hcz30_0
        try clear hcz30_1
        try clear hcz30_2
        try clear hcz30_3
        try clear hcz34_0
        try clear hcz34_1
        try clear hcz34_2
        try clear hcz34_3
        try clear hfz20_0
        try clear hfz20_1
        try clear hfz30_0
        try clear hfz30_1
        try clear hfz30_2
        try clear hfz30_3
        try clear hfz34_0
        try clear hfz34_1
        try clear hfz34_2
        try clear hfz34_3
        try clear hx11_0
        try clear hx13_0
        try clear p11
        try clear p13
        try clear q11
        try clear q13
        obtain ⟨x10_1, x311000_1, x311001_1, x311002_1, x311003_1, rfl, HA, HK1, HO_6, HO_303000, BK302, BK308, BK309, BK310, HB⟩ := hrel
        have hl6_1 := (Kd.R_reads' HO_6.out).1
        rw [hl6_1] at HO_6
        (try simp only [hl6_1])
        (try simp only [hl6_1] at BK302)
        (try simp only [hl6_1] at BK308)
        (try simp only [hl6_1] at BK309)
        (try simp only [hl6_1] at BK310)
        (try simp only [hl6_1] at HO_303000)
        cases gk with
        | zero => exact absurd HA.out (by simp [furrowlaw9_EvalNums.l0])
        | succ k1 =>
         have H := HA.out
         clear HA
         simp only [furrowlaw9_EvalNums.l0] at H
         by_cases c36 : x10_1 < 4
         ·rw [if_pos c36] at H
          have c36b0 : decide (x10_1 < 4) = true := decide_eq_true c36
          clear c36
          obtain ⟨y311, hy311⟩ : ∃ y_ : List (S24), y_ = (([(⟨2, 0, (⟨#[120]⟩ : ByteArray), ([] : List (S24))⟩ : S24), (⟨2, 0, (⟨#[121]⟩ : ByteArray), ([] : List (S24))⟩ : S24)] : List (S24))) := ⟨_, rfl⟩
          replace H : ((eval_Eval.f k1 t298 t301 y307 (wrap64 (5 + x10_1)) 0 (⟨#[]⟩ : ByteArray) y311).bind fun bt314 => (if x10_1 = 3 then (furrowlaw9_EvalNums.j1 k1 a0 a1 y307 x10_1 bt314.1 bt314.2 (a1 == 0) t298 t301 2 0 (⟨#[120]⟩ : ByteArray) 2 0 (⟨#[121]⟩ : ByteArray) x311000_1 x311001_1 x311002_1 x311003_1) else (furrowlaw9_EvalNums.j1 k1 a0 a1 y307 x10_1 bt314.1 bt314.2 false t298 t301 2 0 (⟨#[120]⟩ : ByteArray) 2 0 (⟨#[121]⟩ : ByteArray) x311000_1 x311001_1 x311002_1 x311003_1))) = some true := by first | (rw [hy311]; with_reducible exact H) | (have H2_ := (Option.bind_some _ _).symm.trans H; rw [hy311]; with_reducible exact H2_) | (have H2_ := (Option.bind_some _ _).symm.trans H; with_reducible exact H2_) | with_reducible exact H | (rw [hy311]; exact H) | exact H
          have Ny311 := mk0 hy311
          clear hy311
          replace H := Option.bind_eq_some_iff.mp H
          obtain ⟨⟨t314, t315⟩, A370, H⟩ := H
          replace H : (if x10_1 = 3 then (furrowlaw9_EvalNums.j1 k1 a0 a1 y307 x10_1 t314 t315 (a1 == 0) t298 t301 2 0 (⟨#[120]⟩ : ByteArray) 2 0 (⟨#[121]⟩ : ByteArray) x311000_1 x311001_1 x311002_1 x311003_1) else (furrowlaw9_EvalNums.j1 k1 a0 a1 y307 x10_1 t314 t315 false t298 t301 2 0 (⟨#[120]⟩ : ByteArray) 2 0 (⟨#[121]⟩ : ByteArray) x311000_1 x311001_1 x311002_1 x311003_1)) = some true := H
          have A37 := mk0 A370
          clear A370
          have HC38 := mk0 H
          clear H
          have hnb39 := NB302_308.out
          have hnc39 := NB308_302.out
          have hnb40 := NB302_309.out
          have hnc40 := NB309_302.out
          have hnb41 := NB302_310.out
          have hnc41 := NB310_302.out
          have hcz42_0 : wr.cell? ⟨gb302, 0, none⟩ = some (.slice Ao19 t298.length co19) := (blk_cell BK302.out 0).trans rfl
          have hcz42_1 : wr.cell? ⟨gb302, 1, none⟩ = some (.int .i64 t301) := (blk_cell BK302.out 1).trans rfl
          have hfz42_0 := blk_frozen BK302.out 0
          have hfz42_1 := blk_frozen BK302.out 1
          have hnb43 := NB308_309.out
          have hnc43 := NB309_308.out
          have hnb44 := NB308_310.out
          have hnc44 := NB310_308.out
          have hcz45_0 : wr.cell? ⟨gb308, 0, none⟩ = some (.int .i64 2) := (blk_cell BK308.out 0).trans rfl
          have hcz45_1 : wr.cell? ⟨gb308, 1, none⟩ = some (.int .i64 0) := (blk_cell BK308.out 1).trans rfl
          have hcz45_2 : wr.cell? ⟨gb308, 2, none⟩ = some (.string (⟨#[120]⟩ : ByteArray)) := (blk_cell BK308.out 2).trans rfl
          have hcz45_3 : wr.cell? ⟨gb308, 3, none⟩ = some (.slice none 0 0) := (blk_cell BK308.out 3).trans rfl
          have hfz45_0 := blk_frozen BK308.out 0
          have hfz45_1 := blk_frozen BK308.out 1
          have hfz45_2 := blk_frozen BK308.out 2
          have hfz45_3 := blk_frozen BK308.out 3
          have hnb46 := NB309_310.out
          have hnc46 := NB310_309.out
          have hcz47_0 : wr.cell? ⟨gb309, 0, none⟩ = some (.int .i64 2) := (blk_cell BK309.out 0).trans rfl
          have hcz47_1 : wr.cell? ⟨gb309, 1, none⟩ = some (.int .i64 0) := (blk_cell BK309.out 1).trans rfl
          have hcz47_2 : wr.cell? ⟨gb309, 2, none⟩ = some (.string (⟨#[121]⟩ : ByteArray)) := (blk_cell BK309.out 2).trans rfl
          have hcz47_3 : wr.cell? ⟨gb309, 3, none⟩ = some (.slice none 0 0) := (blk_cell BK309.out 3).trans rfl
          have hfz47_0 := blk_frozen BK309.out 0
          have hfz47_1 := blk_frozen BK309.out 1
          have hfz47_2 := blk_frozen BK309.out 2
          have hfz47_3 := blk_frozen BK309.out 3
          go_upto_region 15 with (first | ((with_reducible refine gate_dst (N := 44) rfl ?_); (try (refine gate_guard (by rfl) ?_; dsimp only)); refine Kd.N_lit k24 _ 24 ?hg (N' := 44) ?hd (xs := ([(⟨2, 0, (⟨#[120]⟩ : ByteArray), ([] : List (S24))⟩ : S24), (⟨2, 0, (⟨#[121]⟩ : ByteArray), ([] : List (S24))⟩ : S24)] : List (S24))) (inner := [.int .i64 2, .int .i64 0, .string (⟨#[120]⟩ : ByteArray), .slice none 0 0, .int .i64 2, .int .i64 0, .string (⟨#[121]⟩ : ByteArray), .slice none 0 0]) (ok := (fun k_ => some k_ ≠ (.slice (some ⟨go11, 0, none⟩) y307.length co23 : Value).ownBlock ∧ some k_ ≠ (.slice Ao19 t298.length co19 : Value).ownBlock ∧ k_ ≠ gb302 ∧ k_ ≠ gb308 ∧ k_ ≠ gb309 ∧ k_ ≠ gb310)) (okp := (fun k_ => some k_ ≠ (.slice (some ⟨go11, 0, none⟩) y307.length co23 : Value).ownBlock ∧ some k_ ≠ (.slice Ao19 t298.length co19 : Value).ownBlock ∧ k_ ≠ gb302 ∧ k_ ≠ gb308 ∧ k_ ≠ gb309 ∧ k_ ≠ gb310)) ?hr ?hp (fun _ hk => hk) ((show ∀ k_, wr.heap.size ≤ k_ → (fun k_ => some k_ ≠ (.slice (some ⟨go11, 0, none⟩) y307.length co23 : Value).ownBlock ∧ some k_ ≠ (.slice Ao19 t298.length co19 : Value).ownBlock ∧ k_ ≠ gb302 ∧ k_ ≠ gb308 ∧ k_ ≠ gb309 ∧ k_ ≠ gb310) k_ from fun k_ hk => ⟨Kd.fresh' (Kd.R_lt (uR HO_6.out)) k_ hk, Kd.fresh' (Kd.N_lt (uN HO_303000.out)) k_ hk, Kd.freshB (g := gb302) (o := .cells #[.slice Ao19 t298.length co19, .int .i64 t301] 46 (0, 0)) (uB BK302.out) k_ hk, Kd.freshB (g := gb308) (o := .cells #[.int .i64 2, .int .i64 0, .string (⟨#[120]⟩ : ByteArray), .slice none 0 0] 24 (0, 0)) (uB BK308.out) k_ hk, Kd.freshB (g := gb309) (o := .cells #[.int .i64 2, .int .i64 0, .string (⟨#[121]⟩ : ByteArray), .slice none 0 0] 24 (0, 0)) (uB BK309.out) k_ hk, Kd.freshB (g := gb310) (o := .cells #[.int .i64 x311000_1, .int .i64 x311001_1, .int .i64 x311002_1, .int .i64 x311003_1] 66 (0, 0)) (uB BK310.out) k_ hk⟩) _ (Nat.le_refl _)) (Below.refl _ _) (Nat.le_refl _) (by simp) ?_; (case hd => rfl); (case hg => rfl); (case hr => first | (go_simp; done) | (go_simp; rfl)); (case hp => exact (Reps.c4 (show Kd.FK k24 _ _ (⟨2, 0, (⟨#[120]⟩ : ByteArray), ([] : List (S24))⟩ : S24) [.int .i64 2, .int .i64 0, .string (⟨#[120]⟩ : ByteArray), .slice none 0 0] from (k24_mkF _ _ (⟨2, 0, (⟨#[120]⟩ : ByteArray), ([] : List (S24))⟩ : S24) (Nat.le_refl _) (Kd.F_nil _ _ _))) (Reps.c4 (show Kd.FK k24 _ _ (⟨2, 0, (⟨#[121]⟩ : ByteArray), ([] : List (S24))⟩ : S24) [.int .i64 2, .int .i64 0, .string (⟨#[121]⟩ : ByteArray), .slice none 0 0] from (k24_mkF _ _ (⟨2, 0, (⟨#[121]⟩ : ByteArray), ([] : List (S24))⟩ : S24) (Nat.le_refl _) (Kd.F_nil _ _ _))) (Reps.none _ _)))); intro v312 w48 ho49 hb hg_ hnew_; clear hg_ hnew_; (first | rw [← Ny311.out] at ho49 | (simp only [Int.reduceToNat] at ho49; rw [← Ny311.out] at ho49)); have n0_ := mk0 (Kd.R_below (uR HO_6.out) hb); have n1_ := mk0 (Kd.N_elder' (uN HO_303000.out) (Kd.N_base ho49) hb); have n2_ := mk0 (Kd.N_lower ho49 (below_size (by repeat (first | (with_reducible first | exact HB.out | apply bA | apply bN | apply bD | refine bS ?_ (by assumption)) | exact HB.out)))); have n3_ := mk0 (blk_below (g := gb302) (o := .cells #[.slice Ao19 t298.length co19, .int .i64 t301] 46 (0, 0)) (uB BK302.out) hb); have n4_ := mk0 (blk_below (g := gb308) (o := .cells #[.int .i64 2, .int .i64 0, .string (⟨#[120]⟩ : ByteArray), .slice none 0 0] 24 (0, 0)) (uB BK308.out) hb); have n5_ := mk0 (blk_below (g := gb309) (o := .cells #[.int .i64 2, .int .i64 0, .string (⟨#[121]⟩ : ByteArray), .slice none 0 0] 24 (0, 0)) (uB BK309.out) hb); have n6_ := mk0 (blk_below (g := gb310) (o := .cells #[.int .i64 x311000_1, .int .i64 x311001_1, .int .i64 x311002_1, .int .i64 x311003_1] 66 (0, 0)) (uB BK310.out) hb); have n7_ := mk0 (below_step (by repeat (first | (with_reducible first | exact HB.out | apply bA | apply bN | apply bD | refine bS ?_ (by assumption)) | exact HB.out)) hb); clear HO_6; clear HO_303000; clear BK302; clear BK308; clear BK309; clear BK310; clear HB; have HO_6 := n0_; have HO_303000 := n1_; have HO313 := n2_; have BK302 := n3_; have BK308 := n4_; have BK309 := n5_; have BK310 := n6_; have HB := n7_; clear n0_ n1_ n2_ n3_ n4_ n5_ n6_ n7_; clear hb ho49; obtain ⟨Ao50, co50, eo50⟩ := Kd.N_slice HO313.out; subst eo50) | (go_at_call 14; (with_reducible refine (eval_Eval.calls k1 _ _ t298 t301 _ _ y307 (wrap64 (5 + x10_1)) 0 (⟨#[]⟩ : ByteArray) _ _ y311 t314 t315 _ ?side1 ?side2 ?side3 ?side4 ?side5 ?side6 A37.out).mono ?_); (case side1 => repeat (first | exact (Kd.N_reads' HO_303000.out).2.2 | (with_reducible refine Kd.C_alloc ?_ _) | (with_reducible refine Kd.C_drewN ?_ _) | (with_reducible refine Kd.C_drew ?_))); (case side2 => exact (Kd.N_reads' HO_303000.out).2.1); (case side3 => repeat (first | exact (Kd.R_reads' HO_6.out).2.2 | (with_reducible refine Kd.C_alloc ?_ _) | (with_reducible refine Kd.C_drewN ?_ _) | (with_reducible refine Kd.C_drew ?_))); (case side4 => exact (Kd.R_reads' HO_6.out).2.1); (case side5 => repeat (first | exact (Kd.N_reads' HO313.out).2.2 | (with_reducible refine Kd.C_alloc ?_ _) | (with_reducible refine Kd.C_drewN ?_ _) | (with_reducible refine Kd.C_drew ?_))); (case side6 => exact (Kd.N_reads' HO313.out).2.1); rintro e w51 ⟨v316, rfl, ho0, hb⟩; have n0_ := mk0 (Kd.R_below (uR HO_6.out) hb); have n1_ := mk0 (Kd.N_elder' (uN HO_303000.out) (Kd.R_base ho0) hb); have n2_ := mk0 (Kd.N_elder' (uN HO313.out) (Kd.R_base ho0) hb); have n3_ := mk0 (Kd.R_lower ho0 (below_size (by repeat (first | (with_reducible first | exact HB.out | apply bA | apply bN | apply bD | refine bS ?_ (by assumption)) | exact HB.out)))); have n4_ := mk0 (blk_below (g := gb302) (o := .cells #[.slice Ao19 t298.length co19, .int .i64 t301] 46 (0, 0)) (uB BK302.out) hb); have n5_ := mk0 (blk_below (g := gb308) (o := .cells #[.int .i64 2, .int .i64 0, .string (⟨#[120]⟩ : ByteArray), .slice none 0 0] 24 (0, 0)) (uB BK308.out) hb); have n6_ := mk0 (blk_below (g := gb309) (o := .cells #[.int .i64 2, .int .i64 0, .string (⟨#[121]⟩ : ByteArray), .slice none 0 0] 24 (0, 0)) (uB BK309.out) hb); have n7_ := mk0 (blk_below (g := gb310) (o := .cells #[.int .i64 x311000_1, .int .i64 x311001_1, .int .i64 x311002_1, .int .i64 x311003_1] 66 (0, 0)) (uB BK310.out) hb); have n8_ := mk0 (below_step (by repeat (first | (with_reducible first | exact HB.out | apply bA | apply bN | apply bD | refine bS ?_ (by assumption)) | exact HB.out)) hb); clear HO_6; clear HO_303000; clear HO313; clear BK302; clear BK308; clear BK309; clear BK310; clear HB; have HO_6 := n0_; have HO_303000 := n1_; have HO313 := n2_; have HO317 := n3_; have BK302 := n4_; have BK308 := n5_; have BK309 := n6_; have BK310 := n7_; have HB := n8_; clear n0_ n1_ n2_ n3_ n4_ n5_ n6_ n7_ n8_; (try clear hb); (try clear hb2); (try clear hk); (try clear hi); (try clear ho0); (first | (have EHO317 := cmpV_no HO317.out (by with_reducible assumption)) | (have EHO317 := cmpV_yes HO317.out (by with_reducible assumption)) | skip)))
          (try simp only [Act.put, List.setIfInBounds_toArray, List.set_cons_zero, List.set_cons_succ])
          go_cut [54] (fun v54 wc => ∃ (kq : Nat) (x54_37 : Bool), v54 = .bool x54_37 ∧ Aside0 (furrowlaw9_EvalNums.j1 kq a0 a1 y307 x10_1 t314 t315 x54_37 t298 t301 2 0 (⟨#[120]⟩ : ByteArray) 2 0 (⟨#[121]⟩ : ByteArray) x311000_1 x311001_1 x311002_1 x311003_1 = some true) ∧ Aside0 (kq ≤ k1) ∧ Aside0 (Kd.R (Kd.int .i64) 2 wc w.heap.size (fun _ => True) (.slice (some ⟨go11, 0, none⟩) y307.length co23) y307) ∧ Aside0 (Kd.R fltK 78 wc w.heap.size (fun _ => True) v316 t315) ∧ Aside0 (Kd.N k64 64 wc w.heap.size (fun k_ => some k_ ≠ ((.slice (some ⟨go11, 0, none⟩) y307.length co23) : Value).ownBlock ∧ some k_ ≠ (v316 : Value).ownBlock ∧ k_ ≠ gb302 ∧ k_ ≠ gb308 ∧ k_ ≠ gb309 ∧ k_ ≠ gb310) (.slice Ao19 t298.length co19) t298) ∧ Aside0 (wc.heap[gb302]? = some (.cells #[(.slice Ao19 t298.length co19), .int .i64 t301] 46 (0, 0))) ∧ Aside0 (wc.heap[gb308]? = some (.cells #[.int .i64 2, .int .i64 0, .string (⟨#[120]⟩ : ByteArray), (.slice none 0 0)] 24 (0, 0))) ∧ Aside0 (wc.heap[gb309]? = some (.cells #[.int .i64 2, .int .i64 0, .string (⟨#[121]⟩ : ByteArray), (.slice none 0 0)] 24 (0, 0))) ∧ Aside0 (wc.heap[gb310]? = some (.cells #[.int .i64 x311000_1, .int .i64 x311001_1, .int .i64 x311002_1, .int .i64 x311003_1] 66 (0, 0))) ∧ Aside0 (Below w.heap.size w wc))
          case first =>
           have H := HC38.out
           clear HC38
           by_cases c52 : x10_1 = 3
           ·rw [if_pos c52] at H
            have c52b0 : (x10_1 == 3) = true := beq_iff_eq.mpr c52
            have c52b1 : (x10_1 != 3) = false := bne_eq_false_iff_eq.mpr c52
            clear c52
            (first | rw [c52b0] | (simp only [i64_w, i32_w]; rw [c52b0]) | skip)
            have H' := mk0 H
            clear H
            (first | (have EHO317 := cmpV_no HO317.out (by with_reducible assumption)) | (have EHO317 := cmpV_yes HO317.out (by with_reducible assumption)) | skip)
            go_wp2
            go_meet
            case rel => exact ⟨_, ((a1 == 0)), (by first | rfl | (simp; done) | (simp [*]; done) | (simp [bne_nil_, beq_nil_]; done)), H', ⟨by have := HK1.out; first | omega | exact Nat.le_refl _⟩, ⟨by (try simp only [hl6_1]); (with_reducible repeat (first | apply Kd.R_alloc | apply Kd.R_drewN | apply Kd.R_drew)); exact HO_6.out⟩, ⟨by (try simp only [hl6_1]); (with_reducible repeat (first | apply Kd.R_alloc | apply Kd.R_drewN | apply Kd.R_drew)); exact HO317.out⟩, ⟨by (try simp only [hl6_1]); (with_reducible repeat (first | apply Kd.N_alloc | apply Kd.N_drewN | apply Kd.N_drew)); exact Kd.N_mono HO_303000.out (fun _ hk => ⟨hk.1.1.1, ⟨hk.2, ⟨hk.1.1.2.1, ⟨hk.1.1.2.2.1, ⟨hk.1.1.2.2.2.1, hk.1.1.2.2.2.2⟩⟩⟩⟩⟩)⟩, ⟨by (try simp only [hl6_1]); (with_reducible repeat (first | refine blk_drewN ?_ _ | refine blk_drew ?_ | refine blk_alloc ?_ _)); exact BK302.out⟩, ⟨by (try simp only [hl6_1]); (with_reducible repeat (first | refine blk_drewN ?_ _ | refine blk_drew ?_ | refine blk_alloc ?_ _)); exact BK308.out⟩, ⟨by (try simp only [hl6_1]); (with_reducible repeat (first | refine blk_drewN ?_ _ | refine blk_drew ?_ | refine blk_alloc ?_ _)); exact BK309.out⟩, ⟨by (try simp only [hl6_1]); (with_reducible repeat (first | refine blk_drewN ?_ _ | refine blk_drew ?_ | refine blk_alloc ?_ _)); exact BK310.out⟩, ⟨by repeat (first | (with_reducible first | exact HB.out | apply bA | apply bN | apply bD | refine bS ?_ (by assumption)) | exact HB.out)⟩⟩
           ·rw [if_neg c52] at H
            have c52b0 : (x10_1 == 3) = false := beq_eq_false_iff_ne.mpr c52
            have c52b1 : (x10_1 != 3) = true := bne_iff_ne.mpr c52
            (first | rw [c52b0] | (simp only [i64_w, i32_w]; rw [c52b0]) | skip)
            have H' := mk0 H
            clear H
            (first | (have EHO317 := cmpV_no HO317.out (by with_reducible assumption)) | (have EHO317 := cmpV_yes HO317.out (by with_reducible assumption)) | skip)
            go_wp2
            go_meet
            case rel => exact ⟨_, (false), (by first | rfl | (simp; done) | (simp [*]; done) | (simp [bne_nil_, beq_nil_]; done)), H', ⟨by have := HK1.out; first | omega | exact Nat.le_refl _⟩, ⟨by (try simp only [hl6_1]); (with_reducible repeat (first | apply Kd.R_alloc | apply Kd.R_drewN | apply Kd.R_drew)); exact HO_6.out⟩, ⟨by (try simp only [hl6_1]); (with_reducible repeat (first | apply Kd.R_alloc | apply Kd.R_drewN | apply Kd.R_drew)); exact HO317.out⟩, ⟨by (try simp only [hl6_1]); (with_reducible repeat (first | apply Kd.N_alloc | apply Kd.N_drewN | apply Kd.N_drew)); exact Kd.N_mono HO_303000.out (fun _ hk => ⟨hk.1.1.1, ⟨hk.2, ⟨hk.1.1.2.1, ⟨hk.1.1.2.2.1, ⟨hk.1.1.2.2.2.1, hk.1.1.2.2.2.2⟩⟩⟩⟩⟩)⟩, ⟨by (try simp only [hl6_1]); (with_reducible repeat (first | refine blk_drewN ?_ _ | refine blk_drew ?_ | refine blk_alloc ?_ _)); exact BK302.out⟩, ⟨by (try simp only [hl6_1]); (with_reducible repeat (first | refine blk_drewN ?_ _ | refine blk_drew ?_ | refine blk_alloc ?_ _)); exact BK308.out⟩, ⟨by (try simp only [hl6_1]); (with_reducible repeat (first | refine blk_drewN ?_ _ | refine blk_drew ?_ | refine blk_alloc ?_ _)); exact BK309.out⟩, ⟨by (try simp only [hl6_1]); (with_reducible repeat (first | refine blk_drewN ?_ _ | refine blk_drew ?_ | refine blk_alloc ?_ _)); exact BK310.out⟩, ⟨by repeat (first | (with_reducible first | exact HB.out | apply bA | apply bN | apply bD | refine bS ?_ (by assumption)) | exact HB.out)⟩⟩
          case rest =>
           clear HC38
           try clear c1
           try clear p1
           try clear q1
           try clear hx1
           try clear qi1
           try clear c2
           try clear p2
           try clear c3
           try clear c4
           try clear c5
           try clear c6
           try clear p6
           try clear c7
           try clear c7b0
           try clear c7b1
           try clear c8
           try clear c8b0
           try clear c8b1
           try clear c9
           try clear c9b0
           try clear c9b1
           try clear c10
           try clear c10b0
           try clear c10b1
           try clear p11
           try clear q11
           try clear hx11
           try clear qi11
           try clear hf11
           try clear c12
           try clear c12b0
           try clear c12b1
           try clear p13
           try clear q13
           try clear hx13
           try clear qi13
           try clear hf13
           try clear c29
           try clear c32
           try clear c33
           try clear c36
           try clear c36b0
           try clear c39
           try clear c40
           try clear c41
           try clear c43
           try clear c44
           try clear c46
           try clear c52
           try clear c52b0
           try clear c52b1
           try clear hcz20_0
           try clear hcz20_1
           try clear hcz30_0
           try clear hcz30_1
           try clear hcz30_2
           try clear hcz30_3
           try clear hcz34_0
           try clear hcz34_1
           try clear hcz34_2
           try clear hcz34_3
           try clear hcz42_0
           try clear hcz42_1
           try clear hcz45_0
           try clear hcz45_1
           try clear hcz45_2
           try clear hcz45_3
           try clear hcz47_0
           try clear hcz47_1
           try clear hcz47_2
           try clear hcz47_3
           try clear hfz20_0
           try clear hfz20_1
           try clear hfz30_0
           try clear hfz30_1
           try clear hfz30_2
           try clear hfz30_3
           try clear hfz34_0
           try clear hfz34_1
           try clear hfz34_2
           try clear hfz34_3
           try clear hfz42_0
           try clear hfz42_1
           try clear hfz45_0
           try clear hfz45_1
           try clear hfz45_2
           try clear hfz45_3
           try clear hfz47_0
           try clear hfz47_1
           try clear hfz47_2
           try clear hfz47_3
           try clear hx11_0
           try clear hx13_0
           try clear p1
           try clear p11
           try clear p13
           try clear p2
           try clear q1
           try clear q11
           try clear q13
           obtain ⟨kq, x54_37, rfl, HA, HJ37, HO_6, HO_12, HO_303000, BK302, BK308, BK309, BK310, HB⟩ := hcut
           cases kq with
           | zero => exact absurd HA.out (by simp [furrowlaw9_EvalNums.j1])
           | succ kj37 =>
            have H := HA.out
            clear HA
            simp only [furrowlaw9_EvalNums.j1] at H
            by_cases c53 : x54_37 = true
            ·subst c53
             have H1 : (if (t315.length : Int) = 0 then (some false) else (some (t314 == 0))) = some true := by rw [if_pos rfl] at H; first | done | exact H
             clear H
             have H := H1
             clear H1
             by_cases c54 : (t315.length : Int) = 0
             ·rw [if_pos c54] at H
              have c54b0 : ((t315.length : Int) == 0) = true := beq_iff_eq.mpr c54
              have c54b1 : ((t315.length : Int) != 0) = false := bne_eq_false_iff_eq.mpr c54
              clear c54
              exact absurd H (by simp)
             ·rw [if_neg c54] at H
              have c54b0 : ((t315.length : Int) == 0) = false := beq_eq_false_iff_ne.mpr c54
              have c54b1 : ((t315.length : Int) != 0) = true := bne_iff_ne.mpr c54
              have c54b2 : ¬ (t315 = []) := fun h_ => c54 (by rw [h_]; rfl)
              have HT := mk0 (Option.some.inj H)
              clear H
              (first | (have EHO_12 := cmpV_no HO_12.out (by with_reducible assumption)) | (have EHO_12 := cmpV_yes HO_12.out (by with_reducible assumption)) | skip)
              go_wp2
              go_ret
              exact ⟨by first | rfl | (simp [errW_none, errW_some] <;> rfl) | (exact congrArg (fun b_ => Ending.returned (Value.bool b_)) HT.out) | (rw [show _ = _ from HT.out]) | (simp [HT.out]; done) | (simp [show _ = _ from HT.out]; done) | (simp [*, errW_none, errW_some] <;> rfl), by repeat (first | (with_reducible first | exact HB.out | apply bA | apply bN | apply bD | refine bS ?_ (by assumption)) | exact HB.out)⟩
            ·replace c53 := Bool.eq_false_iff.mpr c53
             subst c53
             have H1 : (if (t315.length : Int) = 0 then (if x10_1 = 0 then (furrowlaw9_EvalNums.l0 kj37 a0 a1 y307 (wrap64 (x10_1 + 1)) t298 t301 2 0 (⟨#[120]⟩ : ByteArray) 2 0 (⟨#[121]⟩ : ByteArray) t314 x311001_1 x311002_1 x311003_1) else (if x10_1 = 1 then (furrowlaw9_EvalNums.l0 kj37 a0 a1 y307 (wrap64 (x10_1 + 1)) t298 t301 2 0 (⟨#[120]⟩ : ByteArray) 2 0 (⟨#[121]⟩ : ByteArray) x311000_1 t314 x311002_1 x311003_1) else (if x10_1 = 2 then (furrowlaw9_EvalNums.l0 kj37 a0 a1 y307 (wrap64 (x10_1 + 1)) t298 t301 2 0 (⟨#[120]⟩ : ByteArray) 2 0 (⟨#[121]⟩ : ByteArray) x311000_1 x311001_1 t314 x311003_1) else (if x10_1 = 3 then (furrowlaw9_EvalNums.l0 kj37 a0 a1 y307 (wrap64 (x10_1 + 1)) t298 t301 2 0 (⟨#[120]⟩ : ByteArray) 2 0 (⟨#[121]⟩ : ByteArray) x311000_1 x311001_1 x311002_1 t314) else (none))))) else (some false)) = some true := by rw [if_neg (show ¬ (false = true) by decide)] at H; first | done | exact H
             clear H
             have H := H1
             clear H1
             by_cases c55 : (t315.length : Int) = 0
             ·rw [if_pos c55] at H
              have c55b0 : ((t315.length : Int) == 0) = true := beq_iff_eq.mpr c55
              have c55b1 : ((t315.length : Int) != 0) = false := bne_eq_false_iff_eq.mpr c55
              clear c55
              by_cases c56 : x10_1 = 0
              ·rw [if_pos c56] at H
               have c56b0 : (x10_1 == 0) = true := beq_iff_eq.mpr c56
               have c56b1 : (x10_1 != 0) = false := bne_eq_false_iff_eq.mpr c56
               have hx_i := c56
               have hx_n : (x10_1 : Int).toNat = 0 := by rw [hx_i] <;> rfl
               have hx_0 : (0 ≤ x10_1) = True := by rw [hx_i] <;> simp
               have hx_2 : (x10_1 < 4) = True := by rw [hx_i] <;> simp
               have HXI := mk0 hx_i
               clear hx_i
               clear c56
               have H' := mk0 H
               clear H
               (first | (have EHO_12 := cmpV_no HO_12.out (by with_reducible assumption)) | (have EHO_12 := cmpV_yes HO_12.out (by with_reducible assumption)) | skip)
               have hnb57 := NB310_302.out
               have hnc57 := NB302_310.out
               have hnb58 := NB310_308.out
               have hnc58 := NB308_310.out
               have hnb59 := NB310_309.out
               have hnc59 := NB309_310.out
               have hcz60_0 : wc.cell? ⟨gb310, 0, none⟩ = some (.int .i64 x311000_1) := (blk_cell BK310.out 0).trans rfl
               have hcz60_1 : wc.cell? ⟨gb310, 1, none⟩ = some (.int .i64 x311001_1) := (blk_cell BK310.out 1).trans rfl
               have hcz60_2 : wc.cell? ⟨gb310, 2, none⟩ = some (.int .i64 x311002_1) := (blk_cell BK310.out 2).trans rfl
               have hcz60_3 : wc.cell? ⟨gb310, 3, none⟩ = some (.int .i64 x311003_1) := (blk_cell BK310.out 3).trans rfl
               have hfz60_0 := blk_frozen BK310.out 0
               have hfz60_1 := blk_frozen BK310.out 1
               have hfz60_2 := blk_frozen BK310.out 2
               have hfz60_3 := blk_frozen BK310.out 3
               go_wp2
               (try simp only [← hl6_1])
               go_roundg kj37
               case measure => have := HK1.out; have := HJ37.out; omega
               case rel => exact ⟨(wrap64 (x10_1 + 1)), (t314), (x311001_1), (x311002_1), (x311003_1), (by first | rfl | (have h_ := HXI.out; unfold wrap64; simp only [Value.int.injEq, true_and]; omega) | (have h_ := HXI.out; simp only [wrap64, Value.int.injEq, true_and]; omega) | (simp; done) | (simp [*]; done) | (simp [bne_nil_, beq_nil_]; done)), H', ⟨by have := HK1.out; have := HJ37.out; omega⟩, ⟨by (try simp only [hl6_1]); (with_reducible repeat (first | apply Kd.R_alloc | apply Kd.R_drewN | apply Kd.R_drew)); exact Kd.R_mono (Kd.R_far (p := ⟨gb310, 0, none⟩) (Kd.R_types HO_6.out BK310.out (by decide)) (fun _ hk => hk.2) (.int .i64 t314)) (fun _ hk => trivial)⟩, ⟨by (try simp only [hl6_1]); (with_reducible repeat (first | apply Kd.N_alloc | apply Kd.N_drewN | apply Kd.N_drew)); exact Kd.N_mono (Kd.N_far (p := ⟨gb310, 0, none⟩) (Kd.N_mono HO_303000.out (fun k_ hk => (⟨hk, hk.2.2.2.2.2⟩ : _ ∧ k_ ≠ gb310))) (fun _ hk => hk.2) (.int .i64 t314)) (fun _ hk => ⟨hk.1.1, ⟨hk.1.2.2.1, ⟨hk.1.2.2.2.1, ⟨hk.1.2.2.2.2.1, hk.1.2.2.2.2.2⟩⟩⟩⟩)⟩, ⟨by (try simp only [hl6_1]); (with_reducible repeat (first | refine blk_drewN ?_ _ | refine blk_drew ?_ | refine blk_alloc ?_ _)); refine blk_far ?_ NB302_310.out _; (with_reducible repeat (first | refine blk_drewN ?_ _ | refine blk_drew ?_ | refine blk_alloc ?_ _)); exact BK302.out⟩, ⟨by (try simp only [hl6_1]); (with_reducible repeat (first | refine blk_drewN ?_ _ | refine blk_drew ?_ | refine blk_alloc ?_ _)); refine blk_far ?_ NB308_310.out _; (with_reducible repeat (first | refine blk_drewN ?_ _ | refine blk_drew ?_ | refine blk_alloc ?_ _)); exact BK308.out⟩, ⟨by (try simp only [hl6_1]); (with_reducible repeat (first | refine blk_drewN ?_ _ | refine blk_drew ?_ | refine blk_alloc ?_ _)); refine blk_far ?_ NB309_310.out _; (with_reducible repeat (first | refine blk_drewN ?_ _ | refine blk_drew ?_ | refine blk_alloc ?_ _)); exact BK309.out⟩, ⟨by (try simp only [hl6_1]); (with_reducible repeat (first | refine blk_drewN ?_ _ | refine blk_drew ?_ | refine blk_alloc ?_ _)); refine blk_put (cs := #[.int .i64 x311000_1, .int .i64 x311001_1, .int .i64 x311002_1, .int .i64 x311003_1]) ?_ 0 _ rfl; (with_reducible repeat (first | refine blk_drewN ?_ _ | refine blk_drew ?_ | refine blk_alloc ?_ _)); exact BK310.out⟩, ⟨by repeat (first | (with_reducible first | exact HB.out | apply bA | apply bN | apply bD | refine bS ?_ (by assumption)) | exact HB.out)⟩⟩
              ·rw [if_neg c56] at H
               have c56b0 : (x10_1 == 0) = false := beq_eq_false_iff_ne.mpr c56
               have c56b1 : (x10_1 != 0) = true := bne_iff_ne.mpr c56
               by_cases c61 : x10_1 = 1
               ·rw [if_pos c61] at H
                have c61b0 : (x10_1 == 1) = true := beq_iff_eq.mpr c61
                have c61b1 : (x10_1 != 1) = false := bne_eq_false_iff_eq.mpr c61
                have hx_i := c61
                have hx_n : (x10_1 : Int).toNat = 1 := by rw [hx_i] <;> rfl
                have hx_0 : (0 ≤ x10_1) = True := by rw [hx_i] <;> simp
                have hx_2 : (x10_1 < 4) = True := by rw [hx_i] <;> simp
                have HXI := mk0 hx_i
                clear hx_i
                clear c61
                have H' := mk0 H
                clear H
                (first | (have EHO_12 := cmpV_no HO_12.out (by with_reducible assumption)) | (have EHO_12 := cmpV_yes HO_12.out (by with_reducible assumption)) | skip)
                have hnb62 := NB310_302.out
                have hnc62 := NB302_310.out
                have hnb63 := NB310_308.out
                have hnc63 := NB308_310.out
                have hnb64 := NB310_309.out
                have hnc64 := NB309_310.out
                have hcz65_0 : wc.cell? ⟨gb310, 0, none⟩ = some (.int .i64 x311000_1) := (blk_cell BK310.out 0).trans rfl
                have hcz65_1 : wc.cell? ⟨gb310, 1, none⟩ = some (.int .i64 x311001_1) := (blk_cell BK310.out 1).trans rfl
                have hcz65_2 : wc.cell? ⟨gb310, 2, none⟩ = some (.int .i64 x311002_1) := (blk_cell BK310.out 2).trans rfl
                have hcz65_3 : wc.cell? ⟨gb310, 3, none⟩ = some (.int .i64 x311003_1) := (blk_cell BK310.out 3).trans rfl
                have hfz65_0 := blk_frozen BK310.out 0
                have hfz65_1 := blk_frozen BK310.out 1
                have hfz65_2 := blk_frozen BK310.out 2
                have hfz65_3 := blk_frozen BK310.out 3
                go_wp2
                (try simp only [← hl6_1])
                go_roundg kj37
                case measure => have := HK1.out; have := HJ37.out; omega
                case rel => exact ⟨(wrap64 (x10_1 + 1)), (x311000_1), (t314), (x311002_1), (x311003_1), (by first | rfl | (have h_ := HXI.out; unfold wrap64; simp only [Value.int.injEq, true_and]; omega) | (have h_ := HXI.out; simp only [wrap64, Value.int.injEq, true_and]; omega) | (simp; done) | (simp [*]; done) | (simp [bne_nil_, beq_nil_]; done)), H', ⟨by have := HK1.out; have := HJ37.out; omega⟩, ⟨by (try simp only [hl6_1]); (with_reducible repeat (first | apply Kd.R_alloc | apply Kd.R_drewN | apply Kd.R_drew)); exact Kd.R_mono (Kd.R_far (p := ⟨gb310, 1, none⟩) (Kd.R_types HO_6.out BK310.out (by decide)) (fun _ hk => hk.2) (.int .i64 t314)) (fun _ hk => trivial)⟩, ⟨by (try simp only [hl6_1]); (with_reducible repeat (first | apply Kd.N_alloc | apply Kd.N_drewN | apply Kd.N_drew)); exact Kd.N_mono (Kd.N_far (p := ⟨gb310, 1, none⟩) (Kd.N_mono HO_303000.out (fun k_ hk => (⟨hk, hk.2.2.2.2.2⟩ : _ ∧ k_ ≠ gb310))) (fun _ hk => hk.2) (.int .i64 t314)) (fun _ hk => ⟨hk.1.1, ⟨hk.1.2.2.1, ⟨hk.1.2.2.2.1, ⟨hk.1.2.2.2.2.1, hk.1.2.2.2.2.2⟩⟩⟩⟩)⟩, ⟨by (try simp only [hl6_1]); (with_reducible repeat (first | refine blk_drewN ?_ _ | refine blk_drew ?_ | refine blk_alloc ?_ _)); refine blk_far ?_ NB302_310.out _; (with_reducible repeat (first | refine blk_drewN ?_ _ | refine blk_drew ?_ | refine blk_alloc ?_ _)); exact BK302.out⟩, ⟨by (try simp only [hl6_1]); (with_reducible repeat (first | refine blk_drewN ?_ _ | refine blk_drew ?_ | refine blk_alloc ?_ _)); refine blk_far ?_ NB308_310.out _; (with_reducible repeat (first | refine blk_drewN ?_ _ | refine blk_drew ?_ | refine blk_alloc ?_ _)); exact BK308.out⟩, ⟨by (try simp only [hl6_1]); (with_reducible repeat (first | refine blk_drewN ?_ _ | refine blk_drew ?_ | refine blk_alloc ?_ _)); refine blk_far ?_ NB309_310.out _; (with_reducible repeat (first | refine blk_drewN ?_ _ | refine blk_drew ?_ | refine blk_alloc ?_ _)); exact BK309.out⟩, ⟨by (try simp only [hl6_1]); (with_reducible repeat (first | refine blk_drewN ?_ _ | refine blk_drew ?_ | refine blk_alloc ?_ _)); refine blk_put (cs := #[.int .i64 x311000_1, .int .i64 x311001_1, .int .i64 x311002_1, .int .i64 x311003_1]) ?_ 1 _ rfl; (with_reducible repeat (first | refine blk_drewN ?_ _ | refine blk_drew ?_ | refine blk_alloc ?_ _)); exact BK310.out⟩, ⟨by repeat (first | (with_reducible first | exact HB.out | apply bA | apply bN | apply bD | refine bS ?_ (by assumption)) | exact HB.out)⟩⟩
               ·rw [if_neg c61] at H
                have c61b0 : (x10_1 == 1) = false := beq_eq_false_iff_ne.mpr c61
                have c61b1 : (x10_1 != 1) = true := bne_iff_ne.mpr c61
                by_cases c66 : x10_1 = 2
                ·rw [if_pos c66] at H
                 have c66b0 : (x10_1 == 2) = true := beq_iff_eq.mpr c66
                 have c66b1 : (x10_1 != 2) = false := bne_eq_false_iff_eq.mpr c66
                 have hx_i := c66
                 have hx_n : (x10_1 : Int).toNat = 2 := by rw [hx_i] <;> rfl
                 have hx_0 : (0 ≤ x10_1) = True := by rw [hx_i] <;> simp
                 have hx_2 : (x10_1 < 4) = True := by rw [hx_i] <;> simp
                 have HXI := mk0 hx_i
                 clear hx_i
                 clear c66
                 have H' := mk0 H
                 clear H
                 (first | (have EHO_12 := cmpV_no HO_12.out (by with_reducible assumption)) | (have EHO_12 := cmpV_yes HO_12.out (by with_reducible assumption)) | skip)
                 have hnb67 := NB310_302.out
                 have hnc67 := NB302_310.out
                 have hnb68 := NB310_308.out
                 have hnc68 := NB308_310.out
                 have hnb69 := NB310_309.out
                 have hnc69 := NB309_310.out
                 have hcz70_0 : wc.cell? ⟨gb310, 0, none⟩ = some (.int .i64 x311000_1) := (blk_cell BK310.out 0).trans rfl
                 have hcz70_1 : wc.cell? ⟨gb310, 1, none⟩ = some (.int .i64 x311001_1) := (blk_cell BK310.out 1).trans rfl
                 have hcz70_2 : wc.cell? ⟨gb310, 2, none⟩ = some (.int .i64 x311002_1) := (blk_cell BK310.out 2).trans rfl
                 have hcz70_3 : wc.cell? ⟨gb310, 3, none⟩ = some (.int .i64 x311003_1) := (blk_cell BK310.out 3).trans rfl
                 have hfz70_0 := blk_frozen BK310.out 0
                 have hfz70_1 := blk_frozen BK310.out 1
                 have hfz70_2 := blk_frozen BK310.out 2
                 have hfz70_3 := blk_frozen BK310.out 3
                 go_wp2
                 (try simp only [← hl6_1])
                 go_roundg kj37
                 case measure => have := HK1.out; have := HJ37.out; omega
                 case rel => exact ⟨(wrap64 (x10_1 + 1)), (x311000_1), (x311001_1), (t314), (x311003_1), (by first | rfl | (have h_ := HXI.out; unfold wrap64; simp only [Value.int.injEq, true_and]; omega) | (have h_ := HXI.out; simp only [wrap64, Value.int.injEq, true_and]; omega) | (simp; done) | (simp [*]; done) | (simp [bne_nil_, beq_nil_]; done)), H', ⟨by have := HK1.out; have := HJ37.out; omega⟩, ⟨by (try simp only [hl6_1]); (with_reducible repeat (first | apply Kd.R_alloc | apply Kd.R_drewN | apply Kd.R_drew)); exact Kd.R_mono (Kd.R_far (p := ⟨gb310, 2, none⟩) (Kd.R_types HO_6.out BK310.out (by decide)) (fun _ hk => hk.2) (.int .i64 t314)) (fun _ hk => trivial)⟩, ⟨by (try simp only [hl6_1]); (with_reducible repeat (first | apply Kd.N_alloc | apply Kd.N_drewN | apply Kd.N_drew)); exact Kd.N_mono (Kd.N_far (p := ⟨gb310, 2, none⟩) (Kd.N_mono HO_303000.out (fun k_ hk => (⟨hk, hk.2.2.2.2.2⟩ : _ ∧ k_ ≠ gb310))) (fun _ hk => hk.2) (.int .i64 t314)) (fun _ hk => ⟨hk.1.1, ⟨hk.1.2.2.1, ⟨hk.1.2.2.2.1, ⟨hk.1.2.2.2.2.1, hk.1.2.2.2.2.2⟩⟩⟩⟩)⟩, ⟨by (try simp only [hl6_1]); (with_reducible repeat (first | refine blk_drewN ?_ _ | refine blk_drew ?_ | refine blk_alloc ?_ _)); refine blk_far ?_ NB302_310.out _; (with_reducible repeat (first | refine blk_drewN ?_ _ | refine blk_drew ?_ | refine blk_alloc ?_ _)); exact BK302.out⟩, ⟨by (try simp only [hl6_1]); (with_reducible repeat (first | refine blk_drewN ?_ _ | refine blk_drew ?_ | refine blk_alloc ?_ _)); refine blk_far ?_ NB308_310.out _; (with_reducible repeat (first | refine blk_drewN ?_ _ | refine blk_drew ?_ | refine blk_alloc ?_ _)); exact BK308.out⟩, ⟨by (try simp only [hl6_1]); (with_reducible repeat (first | refine blk_drewN ?_ _ | refine blk_drew ?_ | refine blk_alloc ?_ _)); refine blk_far ?_ NB309_310.out _; (with_reducible repeat (first | refine blk_drewN ?_ _ | refine blk_drew ?_ | refine blk_alloc ?_ _)); exact BK309.out⟩, ⟨by (try simp only [hl6_1]); (with_reducible repeat (first | refine blk_drewN ?_ _ | refine blk_drew ?_ | refine blk_alloc ?_ _)); refine blk_put (cs := #[.int .i64 x311000_1, .int .i64 x311001_1, .int .i64 x311002_1, .int .i64 x311003_1]) ?_ 2 _ rfl; (with_reducible repeat (first | refine blk_drewN ?_ _ | refine blk_drew ?_ | refine blk_alloc ?_ _)); exact BK310.out⟩, ⟨by repeat (first | (with_reducible first | exact HB.out | apply bA | apply bN | apply bD | refine bS ?_ (by assumption)) | exact HB.out)⟩⟩
                ·rw [if_neg c66] at H
                 have c66b0 : (x10_1 == 2) = false := beq_eq_false_iff_ne.mpr c66
                 have c66b1 : (x10_1 != 2) = true := bne_iff_ne.mpr c66
                 by_cases hx_i : x10_1 = 3
                 ·rw [if_pos hx_i] at H
                  have hx_n : (x10_1 : Int).toNat = 3 := by rw [hx_i] <;> rfl
                  have hx_0 : (0 ≤ x10_1) = True := by rw [hx_i] <;> simp
                  have hx_2 : (x10_1 < 4) = True := by rw [hx_i] <;> simp
                  have HXI := mk0 hx_i
                  clear hx_i
                  have H' := mk0 H
                  clear H
                  (first | (have EHO_12 := cmpV_no HO_12.out (by with_reducible assumption)) | (have EHO_12 := cmpV_yes HO_12.out (by with_reducible assumption)) | skip)
                  have hnb71 := NB310_302.out
                  have hnc71 := NB302_310.out
                  have hnb72 := NB310_308.out
                  have hnc72 := NB308_310.out
                  have hnb73 := NB310_309.out
                  have hnc73 := NB309_310.out
                  have hcz74_0 : wc.cell? ⟨gb310, 0, none⟩ = some (.int .i64 x311000_1) := (blk_cell BK310.out 0).trans rfl
                  have hcz74_1 : wc.cell? ⟨gb310, 1, none⟩ = some (.int .i64 x311001_1) := (blk_cell BK310.out 1).trans rfl
                  have hcz74_2 : wc.cell? ⟨gb310, 2, none⟩ = some (.int .i64 x311002_1) := (blk_cell BK310.out 2).trans rfl
                  have hcz74_3 : wc.cell? ⟨gb310, 3, none⟩ = some (.int .i64 x311003_1) := (blk_cell BK310.out 3).trans rfl
                  have hfz74_0 := blk_frozen BK310.out 0
                  have hfz74_1 := blk_frozen BK310.out 1
                  have hfz74_2 := blk_frozen BK310.out 2
                  have hfz74_3 := blk_frozen BK310.out 3
                  go_wp2
                  (try simp only [← hl6_1])
                  go_roundg kj37
                  case measure => have := HK1.out; have := HJ37.out; omega
                  case rel => exact ⟨(wrap64 (x10_1 + 1)), (x311000_1), (x311001_1), (x311002_1), (t314), (by first | rfl | (have h_ := HXI.out; unfold wrap64; simp only [Value.int.injEq, true_and]; omega) | (have h_ := HXI.out; simp only [wrap64, Value.int.injEq, true_and]; omega) | (simp; done) | (simp [*]; done) | (simp [bne_nil_, beq_nil_]; done)), H', ⟨by have := HK1.out; have := HJ37.out; omega⟩, ⟨by (try simp only [hl6_1]); (with_reducible repeat (first | apply Kd.R_alloc | apply Kd.R_drewN | apply Kd.R_drew)); exact Kd.R_mono (Kd.R_far (p := ⟨gb310, 3, none⟩) (Kd.R_types HO_6.out BK310.out (by decide)) (fun _ hk => hk.2) (.int .i64 t314)) (fun _ hk => trivial)⟩, ⟨by (try simp only [hl6_1]); (with_reducible repeat (first | apply Kd.N_alloc | apply Kd.N_drewN | apply Kd.N_drew)); exact Kd.N_mono (Kd.N_far (p := ⟨gb310, 3, none⟩) (Kd.N_mono HO_303000.out (fun k_ hk => (⟨hk, hk.2.2.2.2.2⟩ : _ ∧ k_ ≠ gb310))) (fun _ hk => hk.2) (.int .i64 t314)) (fun _ hk => ⟨hk.1.1, ⟨hk.1.2.2.1, ⟨hk.1.2.2.2.1, ⟨hk.1.2.2.2.2.1, hk.1.2.2.2.2.2⟩⟩⟩⟩)⟩, ⟨by (try simp only [hl6_1]); (with_reducible repeat (first | refine blk_drewN ?_ _ | refine blk_drew ?_ | refine blk_alloc ?_ _)); refine blk_far ?_ NB302_310.out _; (with_reducible repeat (first | refine blk_drewN ?_ _ | refine blk_drew ?_ | refine blk_alloc ?_ _)); exact BK302.out⟩, ⟨by (try simp only [hl6_1]); (with_reducible repeat (first | refine blk_drewN ?_ _ | refine blk_drew ?_ | refine blk_alloc ?_ _)); refine blk_far ?_ NB308_310.out _; (with_reducible repeat (first | refine blk_drewN ?_ _ | refine blk_drew ?_ | refine blk_alloc ?_ _)); exact BK308.out⟩, ⟨by (try simp only [hl6_1]); (with_reducible repeat (first | refine blk_drewN ?_ _ | refine blk_drew ?_ | refine blk_alloc ?_ _)); refine blk_far ?_ NB309_310.out _; (with_reducible repeat (first | refine blk_drewN ?_ _ | refine blk_drew ?_ | refine blk_alloc ?_ _)); exact BK309.out⟩, ⟨by (try simp only [hl6_1]); (with_reducible repeat (first | refine blk_drewN ?_ _ | refine blk_drew ?_ | refine blk_alloc ?_ _)); refine blk_put (cs := #[.int .i64 x311000_1, .int .i64 x311001_1, .int .i64 x311002_1, .int .i64 x311003_1]) ?_ 3 _ rfl; (with_reducible repeat (first | refine blk_drewN ?_ _ | refine blk_drew ?_ | refine blk_alloc ?_ _)); exact BK310.out⟩, ⟨by repeat (first | (with_reducible first | exact HB.out | apply bA | apply bN | apply bD | refine bS ?_ (by assumption)) | exact HB.out)⟩⟩
                 ·rw [if_neg hx_i] at H
                  exact absurd H (by simp)
             ·rw [if_neg c55] at H
              have c55b0 : ((t315.length : Int) == 0) = false := beq_eq_false_iff_ne.mpr c55
              have c55b1 : ((t315.length : Int) != 0) = true := bne_iff_ne.mpr c55
              have c55b2 : ¬ (t315 = []) := fun h_ => c55 (by rw [h_]; rfl)
              exact absurd H (by simp)
         ·rw [if_neg c36] at H
          have c36b0 : decide (x10_1 < 4) = false := decide_eq_false c36
          clear c36
          obtain ⟨y318, hy318⟩ : ∃ y_ : List (S24), y_ = (([(⟨2, 0, (⟨#[120]⟩ : ByteArray), ([] : List (S24))⟩ : S24)] : List (S24))) := ⟨_, rfl⟩
          replace H : ((eval_Eval.f k1 t298 t301 y307 4 0 (⟨#[]⟩ : ByteArray) y318).bind fun bt321 => (if (bt321.2.length : Int) = 0 then (if x311000_1 = (wrap64 (a0 + a1)) then (if x311001_1 = (wrap64 (a0 - a1)) then (if x311002_1 = (wrap64 (a0 * a1)) then (if bt321.1 = (wrap64 (-a0)) then ((furrowlaw5_Of.f k1 2 0 (⟨#[120]⟩ : ByteArray) ([] : List (S24))).bind fun bt325 => (furrowlaw9_EvalNums.j2 k1 a0 a1 ((bt325.2.2.1.size : Int) != 1) x311000_1 x311001_1 x311002_1 x311003_1)) else (furrowlaw9_EvalNums.j2 k1 a0 a1 true x311000_1 x311001_1 x311002_1 x311003_1)) else (furrowlaw9_EvalNums.j2 k1 a0 a1 true x311000_1 x311001_1 x311002_1 x311003_1)) else (furrowlaw9_EvalNums.j2 k1 a0 a1 true x311000_1 x311001_1 x311002_1 x311003_1)) else (furrowlaw9_EvalNums.j2 k1 a0 a1 true x311000_1 x311001_1 x311002_1 x311003_1)) else (furrowlaw9_EvalNums.j2 k1 a0 a1 true x311000_1 x311001_1 x311002_1 x311003_1))) = some true := by first | (rw [hy318]; with_reducible exact H) | (have H2_ := (Option.bind_some _ _).symm.trans H; rw [hy318]; with_reducible exact H2_) | (have H2_ := (Option.bind_some _ _).symm.trans H; with_reducible exact H2_) | with_reducible exact H | (rw [hy318]; exact H) | exact H
          have Ny318 := mk0 hy318
          clear hy318
          replace H := Option.bind_eq_some_iff.mp H
          obtain ⟨⟨t321, t322⟩, A750, H⟩ := H
          replace H : (if (t322.length : Int) = 0 then (if x311000_1 = (wrap64 (a0 + a1)) then (if x311001_1 = (wrap64 (a0 - a1)) then (if x311002_1 = (wrap64 (a0 * a1)) then (if t321 = (wrap64 (-a0)) then ((furrowlaw5_Of.f k1 2 0 (⟨#[120]⟩ : ByteArray) ([] : List (S24))).bind fun bt325 => (furrowlaw9_EvalNums.j2 k1 a0 a1 ((bt325.2.2.1.size : Int) != 1) x311000_1 x311001_1 x311002_1 x311003_1)) else (furrowlaw9_EvalNums.j2 k1 a0 a1 true x311000_1 x311001_1 x311002_1 x311003_1)) else (furrowlaw9_EvalNums.j2 k1 a0 a1 true x311000_1 x311001_1 x311002_1 x311003_1)) else (furrowlaw9_EvalNums.j2 k1 a0 a1 true x311000_1 x311001_1 x311002_1 x311003_1)) else (furrowlaw9_EvalNums.j2 k1 a0 a1 true x311000_1 x311001_1 x311002_1 x311003_1)) else (furrowlaw9_EvalNums.j2 k1 a0 a1 true x311000_1 x311001_1 x311002_1 x311003_1)) = some true := H
          have A75 := mk0 A750
          clear A750
          have HC76 := mk0 H
          clear H
          have hnb77 := NB302_308.out
          have hnc77 := NB308_302.out
          have hnb78 := NB302_309.out
          have hnc78 := NB309_302.out
          have hnb79 := NB302_310.out
          have hnc79 := NB310_302.out
          have hcz80_0 : wr.cell? ⟨gb302, 0, none⟩ = some (.slice Ao19 t298.length co19) := (blk_cell BK302.out 0).trans rfl
          have hcz80_1 : wr.cell? ⟨gb302, 1, none⟩ = some (.int .i64 t301) := (blk_cell BK302.out 1).trans rfl
          have hfz80_0 := blk_frozen BK302.out 0
          have hfz80_1 := blk_frozen BK302.out 1
          have hnb81 := NB308_309.out
          have hnc81 := NB309_308.out
          have hnb82 := NB308_310.out
          have hnc82 := NB310_308.out
          have hcz83_0 : wr.cell? ⟨gb308, 0, none⟩ = some (.int .i64 2) := (blk_cell BK308.out 0).trans rfl
          have hcz83_1 : wr.cell? ⟨gb308, 1, none⟩ = some (.int .i64 0) := (blk_cell BK308.out 1).trans rfl
          have hcz83_2 : wr.cell? ⟨gb308, 2, none⟩ = some (.string (⟨#[120]⟩ : ByteArray)) := (blk_cell BK308.out 2).trans rfl
          have hcz83_3 : wr.cell? ⟨gb308, 3, none⟩ = some (.slice none 0 0) := (blk_cell BK308.out 3).trans rfl
          have hfz83_0 := blk_frozen BK308.out 0
          have hfz83_1 := blk_frozen BK308.out 1
          have hfz83_2 := blk_frozen BK308.out 2
          have hfz83_3 := blk_frozen BK308.out 3
          go_upto_region 21 with (first | ((with_reducible refine gate_dst (N := 70) rfl ?_); (try (refine gate_guard (by rfl) ?_; dsimp only)); refine Kd.N_lit k24 _ 24 ?hg (N' := 70) ?hd (xs := ([(⟨2, 0, (⟨#[120]⟩ : ByteArray), ([] : List (S24))⟩ : S24)] : List (S24))) (inner := [.int .i64 2, .int .i64 0, .string (⟨#[120]⟩ : ByteArray), .slice none 0 0]) (ok := (fun k_ => some k_ ≠ (.slice (some ⟨go11, 0, none⟩) y307.length co23 : Value).ownBlock ∧ some k_ ≠ (.slice Ao19 t298.length co19 : Value).ownBlock ∧ k_ ≠ gb302 ∧ k_ ≠ gb308 ∧ k_ ≠ gb309 ∧ k_ ≠ gb310)) (okp := (fun k_ => some k_ ≠ (.slice (some ⟨go11, 0, none⟩) y307.length co23 : Value).ownBlock ∧ some k_ ≠ (.slice Ao19 t298.length co19 : Value).ownBlock ∧ k_ ≠ gb302 ∧ k_ ≠ gb308 ∧ k_ ≠ gb309 ∧ k_ ≠ gb310)) ?hr ?hp (fun _ hk => hk) ((show ∀ k_, wr.heap.size ≤ k_ → (fun k_ => some k_ ≠ (.slice (some ⟨go11, 0, none⟩) y307.length co23 : Value).ownBlock ∧ some k_ ≠ (.slice Ao19 t298.length co19 : Value).ownBlock ∧ k_ ≠ gb302 ∧ k_ ≠ gb308 ∧ k_ ≠ gb309 ∧ k_ ≠ gb310) k_ from fun k_ hk => ⟨Kd.fresh' (Kd.R_lt (uR HO_6.out)) k_ hk, Kd.fresh' (Kd.N_lt (uN HO_303000.out)) k_ hk, Kd.freshB (g := gb302) (o := .cells #[.slice Ao19 t298.length co19, .int .i64 t301] 46 (0, 0)) (uB BK302.out) k_ hk, Kd.freshB (g := gb308) (o := .cells #[.int .i64 2, .int .i64 0, .string (⟨#[120]⟩ : ByteArray), .slice none 0 0] 24 (0, 0)) (uB BK308.out) k_ hk, Kd.freshB (g := gb309) (o := .cells #[.int .i64 2, .int .i64 0, .string (⟨#[121]⟩ : ByteArray), .slice none 0 0] 24 (0, 0)) (uB BK309.out) k_ hk, Kd.freshB (g := gb310) (o := .cells #[.int .i64 x311000_1, .int .i64 x311001_1, .int .i64 x311002_1, .int .i64 x311003_1] 66 (0, 0)) (uB BK310.out) k_ hk⟩) _ (Nat.le_refl _)) (Below.refl _ _) (Nat.le_refl _) (by simp) ?_; (case hd => rfl); (case hg => rfl); (case hr => first | (go_simp; done) | (go_simp; rfl)); (case hp => exact (Reps.c4 (show Kd.FK k24 _ _ (⟨2, 0, (⟨#[120]⟩ : ByteArray), ([] : List (S24))⟩ : S24) [.int .i64 2, .int .i64 0, .string (⟨#[120]⟩ : ByteArray), .slice none 0 0] from (k24_mkF _ _ (⟨2, 0, (⟨#[120]⟩ : ByteArray), ([] : List (S24))⟩ : S24) (Nat.le_refl _) (Kd.F_nil _ _ _))) (Reps.none _ _))); intro v319 w84 ho85 hb hg_ hnew_; clear hg_ hnew_; (first | rw [← Ny318.out] at ho85 | (simp only [Int.reduceToNat] at ho85; rw [← Ny318.out] at ho85)); have n0_ := mk0 (Kd.R_below (uR HO_6.out) hb); have n1_ := mk0 (Kd.N_elder' (uN HO_303000.out) (Kd.N_base ho85) hb); have n2_ := mk0 (Kd.N_lower ho85 (below_size (by repeat (first | (with_reducible first | exact HB.out | apply bA | apply bN | apply bD | refine bS ?_ (by assumption)) | exact HB.out)))); have n3_ := mk0 (blk_below (g := gb302) (o := .cells #[.slice Ao19 t298.length co19, .int .i64 t301] 46 (0, 0)) (uB BK302.out) hb); have n4_ := mk0 (blk_below (g := gb308) (o := .cells #[.int .i64 2, .int .i64 0, .string (⟨#[120]⟩ : ByteArray), .slice none 0 0] 24 (0, 0)) (uB BK308.out) hb); have n5_ := mk0 (blk_below (g := gb309) (o := .cells #[.int .i64 2, .int .i64 0, .string (⟨#[121]⟩ : ByteArray), .slice none 0 0] 24 (0, 0)) (uB BK309.out) hb); have n6_ := mk0 (blk_below (g := gb310) (o := .cells #[.int .i64 x311000_1, .int .i64 x311001_1, .int .i64 x311002_1, .int .i64 x311003_1] 66 (0, 0)) (uB BK310.out) hb); have n7_ := mk0 (below_step (by repeat (first | (with_reducible first | exact HB.out | apply bA | apply bN | apply bD | refine bS ?_ (by assumption)) | exact HB.out)) hb); clear HO_6; clear HO_303000; clear BK302; clear BK308; clear BK309; clear BK310; clear HB; have HO_6 := n0_; have HO_303000 := n1_; have HO320 := n2_; have BK302 := n3_; have BK308 := n4_; have BK309 := n5_; have BK310 := n6_; have HB := n7_; clear n0_ n1_ n2_ n3_ n4_ n5_ n6_ n7_; clear hb ho85; obtain ⟨Ao86, co86, eo86⟩ := Kd.N_slice HO320.out; subst eo86) | (go_at_call 14; (with_reducible refine (eval_Eval.calls k1 _ _ t298 t301 _ _ y307 4 0 (⟨#[]⟩ : ByteArray) _ _ y318 t321 t322 _ ?side1 ?side2 ?side3 ?side4 ?side5 ?side6 A75.out).mono ?_); (case side1 => repeat (first | exact (Kd.N_reads' HO_303000.out).2.2 | (with_reducible refine Kd.C_alloc ?_ _) | (with_reducible refine Kd.C_drewN ?_ _) | (with_reducible refine Kd.C_drew ?_))); (case side2 => exact (Kd.N_reads' HO_303000.out).2.1); (case side3 => repeat (first | exact (Kd.R_reads' HO_6.out).2.2 | (with_reducible refine Kd.C_alloc ?_ _) | (with_reducible refine Kd.C_drewN ?_ _) | (with_reducible refine Kd.C_drew ?_))); (case side4 => exact (Kd.R_reads' HO_6.out).2.1); (case side5 => repeat (first | exact (Kd.N_reads' HO320.out).2.2 | (with_reducible refine Kd.C_alloc ?_ _) | (with_reducible refine Kd.C_drewN ?_ _) | (with_reducible refine Kd.C_drew ?_))); (case side6 => exact (Kd.N_reads' HO320.out).2.1); rintro e w87 ⟨v323, rfl, ho0, hb⟩; have n0_ := mk0 (Kd.R_below (uR HO_6.out) hb); have n1_ := mk0 (Kd.N_elder' (uN HO_303000.out) (Kd.R_base ho0) hb); have n2_ := mk0 (Kd.N_elder' (uN HO320.out) (Kd.R_base ho0) hb); have n3_ := mk0 (Kd.R_lower ho0 (below_size (by repeat (first | (with_reducible first | exact HB.out | apply bA | apply bN | apply bD | refine bS ?_ (by assumption)) | exact HB.out)))); have n4_ := mk0 (blk_below (g := gb302) (o := .cells #[.slice Ao19 t298.length co19, .int .i64 t301] 46 (0, 0)) (uB BK302.out) hb); have n5_ := mk0 (blk_below (g := gb308) (o := .cells #[.int .i64 2, .int .i64 0, .string (⟨#[120]⟩ : ByteArray), .slice none 0 0] 24 (0, 0)) (uB BK308.out) hb); have n6_ := mk0 (blk_below (g := gb309) (o := .cells #[.int .i64 2, .int .i64 0, .string (⟨#[121]⟩ : ByteArray), .slice none 0 0] 24 (0, 0)) (uB BK309.out) hb); have n7_ := mk0 (blk_below (g := gb310) (o := .cells #[.int .i64 x311000_1, .int .i64 x311001_1, .int .i64 x311002_1, .int .i64 x311003_1] 66 (0, 0)) (uB BK310.out) hb); have n8_ := mk0 (below_step (by repeat (first | (with_reducible first | exact HB.out | apply bA | apply bN | apply bD | refine bS ?_ (by assumption)) | exact HB.out)) hb); clear HO_6; clear HO_303000; clear HO320; clear BK302; clear BK308; clear BK309; clear BK310; clear HB; have HO_6 := n0_; have HO_303000 := n1_; have HO320 := n2_; have HO324 := n3_; have BK302 := n4_; have BK308 := n5_; have BK309 := n6_; have BK310 := n7_; have HB := n8_; clear n0_ n1_ n2_ n3_ n4_ n5_ n6_ n7_ n8_; (try clear hb); (try clear hb2); (try clear hk); (try clear hi); (try clear ho0); (first | (have EHO324 := cmpV_no HO324.out (by with_reducible assumption)) | (have EHO324 := cmpV_yes HO324.out (by with_reducible assumption)) | skip)))
          (try simp only [Act.put, List.setIfInBounds_toArray, List.set_cons_zero, List.set_cons_succ])
          go_cut [113] (fun v113 wc => ∃ (kq : Nat) (x113_75 : Bool), v113 = .bool x113_75 ∧ Aside0 (furrowlaw9_EvalNums.j2 kq a0 a1 x113_75 x311000_1 x311001_1 x311002_1 x311003_1 = some true) ∧ Aside0 (kq ≤ k1) ∧ Aside0 (Kd.N k64 64 wc w.heap.size (fun k_ => k_ ≠ gb302 ∧ k_ ≠ gb308 ∧ k_ ≠ gb309 ∧ k_ ≠ gb310) (.slice Ao19 t298.length co19) t298) ∧ Aside0 (wc.heap[gb302]? = some (.cells #[(.slice Ao19 t298.length co19), .int .i64 t301] 46 (0, 0))) ∧ Aside0 (wc.heap[gb308]? = some (.cells #[.int .i64 2, .int .i64 0, .string (⟨#[120]⟩ : ByteArray), (.slice none 0 0)] 24 (0, 0))) ∧ Aside0 (wc.heap[gb309]? = some (.cells #[.int .i64 2, .int .i64 0, .string (⟨#[121]⟩ : ByteArray), (.slice none 0 0)] 24 (0, 0))) ∧ Aside0 (wc.heap[gb310]? = some (.cells #[.int .i64 x311000_1, .int .i64 x311001_1, .int .i64 x311002_1, .int .i64 x311003_1] 66 (0, 0))) ∧ Aside0 (Below w.heap.size w wc))
          case first =>
           have H := HC76.out
           clear HC76
           by_cases c88 : (t322.length : Int) = 0
           ·rw [if_pos c88] at H
            have c88b0 : ((t322.length : Int) == 0) = true := beq_iff_eq.mpr c88
            have c88b1 : ((t322.length : Int) != 0) = false := bne_eq_false_iff_eq.mpr c88
            clear c88
            (first | rw [c88b0] | (simp only [i64_w, i32_w]; rw [c88b0]) | skip)
            by_cases c89 : x311000_1 = (wrap64 (a0 + a1))
            ·rw [if_pos c89] at H
             have c89b0 : (x311000_1 == (wrap64 (a0 + a1))) = true := beq_iff_eq.mpr c89
             have c89b1 : (x311000_1 != (wrap64 (a0 + a1))) = false := bne_eq_false_iff_eq.mpr c89
             clear c89
             by_cases c90 : x311001_1 = (wrap64 (a0 - a1))
             ·rw [if_pos c90] at H
              have c90b0 : (x311001_1 == (wrap64 (a0 - a1))) = true := beq_iff_eq.mpr c90
              have c90b1 : (x311001_1 != (wrap64 (a0 - a1))) = false := bne_eq_false_iff_eq.mpr c90
              clear c90
              by_cases c91 : x311002_1 = (wrap64 (a0 * a1))
              ·rw [if_pos c91] at H
               have c91b0 : (x311002_1 == (wrap64 (a0 * a1))) = true := beq_iff_eq.mpr c91
               have c91b1 : (x311002_1 != (wrap64 (a0 * a1))) = false := bne_eq_false_iff_eq.mpr c91
               clear c91
               by_cases c92 : t321 = (wrap64 (-a0))
               ·rw [if_pos c92] at H
                have c92b0 : (t321 == (wrap64 (-a0))) = true := beq_iff_eq.mpr c92
                have c92b1 : (t321 != (wrap64 (-a0))) = false := bne_eq_false_iff_eq.mpr c92
                clear c92
                replace H := Option.bind_eq_some_iff.mp H
                obtain ⟨⟨t325, t326, t327, t328⟩, A930, H⟩ := H
                replace H : (furrowlaw9_EvalNums.j2 k1 a0 a1 ((t327.size : Int) != 1) x311000_1 x311001_1 x311002_1 x311003_1) = some true := H
                have A93 := mk0 A930
                clear A930
                have H' := mk0 H
                clear H
                (first | (have EHO324 := cmpV_no HO324.out (by with_reducible assumption)) | (have EHO324 := cmpV_yes HO324.out (by with_reducible assumption)) | skip)
                have hnb94 := NB310_302.out
                have hnc94 := NB302_310.out
                have hnb95 := NB310_308.out
                have hnc95 := NB308_310.out
                have hnb96 := NB310_309.out
                have hnc96 := NB309_310.out
                have hcz97_0 : w87.cell? ⟨gb310, 0, none⟩ = some (.int .i64 x311000_1) := (blk_cell BK310.out 0).trans rfl
                have hcz97_1 : w87.cell? ⟨gb310, 1, none⟩ = some (.int .i64 x311001_1) := (blk_cell BK310.out 1).trans rfl
                have hcz97_2 : w87.cell? ⟨gb310, 2, none⟩ = some (.int .i64 x311002_1) := (blk_cell BK310.out 2).trans rfl
                have hcz97_3 : w87.cell? ⟨gb310, 3, none⟩ = some (.int .i64 x311003_1) := (blk_cell BK310.out 3).trans rfl
                have hfz97_0 := blk_frozen BK310.out 0
                have hfz97_1 := blk_frozen BK310.out 1
                have hfz97_2 := blk_frozen BK310.out 2
                have hfz97_3 := blk_frozen BK310.out 3
                have hnb98 := NB308_302.out
                have hnc98 := NB302_308.out
                have hnb99 := NB308_309.out
                have hnc99 := NB309_308.out
                have hcz100_0 : w87.cell? ⟨gb308, 0, none⟩ = some (.int .i64 2) := (blk_cell BK308.out 0).trans rfl
                have hcz100_1 : w87.cell? ⟨gb308, 1, none⟩ = some (.int .i64 0) := (blk_cell BK308.out 1).trans rfl
                have hcz100_2 : w87.cell? ⟨gb308, 2, none⟩ = some (.string (⟨#[120]⟩ : ByteArray)) := (blk_cell BK308.out 2).trans rfl
                have hcz100_3 : w87.cell? ⟨gb308, 3, none⟩ = some (.slice none 0 0) := (blk_cell BK308.out 3).trans rfl
                have hfz100_0 := blk_frozen BK308.out 0
                have hfz100_1 := blk_frozen BK308.out 1
                have hfz100_2 := blk_frozen BK308.out 2
                have hfz100_3 := blk_frozen BK308.out 3
                go_wp2_with (first | (go_at_call 9; (refine (furrowlaw5_Of.calls k1 2 0 (⟨#[120]⟩ : ByteArray) _ _ ([] : List (S24)) t325 t326 t327 t328 _ ?side1 ?side2 A93.out).mono ?_); (case side1 => exact Kd.C_nil _ _); (case side2 => exact Nat.le_refl _); rintro e w101 ⟨v329, rfl, ho0, hb⟩; have n0_ := mk0 (Kd.R_below (uR HO_6.out) hb); have n1_ := mk0 (Kd.N_elder' (uN HO_303000.out) (Kd.R_base ho0) hb); have n2_ := mk0 (Kd.N_elder' (uN HO320.out) (Kd.R_base ho0) hb); have n3_ := mk0 (Kd.R_below (uR HO324.out) hb); have n4_ := mk0 (Kd.N_lower (Kd.N_mono (ok' := fun k_ => some k_ ≠ (.slice (some ⟨go11, 0, none⟩) y307.length co23 : Value).ownBlock ∧ some k_ ≠ (.slice Ao19 t298.length co19 : Value).ownBlock ∧ some k_ ≠ (.slice Ao86 y318.length co86 : Value).ownBlock ∧ some k_ ≠ (v323 : Value).ownBlock ∧ k_ ≠ gb302 ∧ k_ ≠ gb308 ∧ k_ ≠ gb309 ∧ k_ ≠ gb310) (Kd.R_N (Kd.R_bound ho0)) (fun k_ hk_ => ⟨(Kd.fresh' (Kd.R_lt (uR HO_6.out)) k_ hk_.2.1), (Kd.fresh' (Kd.N_lt (uN HO_303000.out)) k_ hk_.2.1), (Kd.fresh' (Kd.N_lt (uN HO320.out)) k_ hk_.2.1), (Kd.fresh' (Kd.R_lt (uR HO324.out)) k_ hk_.2.1), (Kd.freshB (g := gb302) (o := .cells #[.slice Ao19 t298.length co19, .int .i64 t301] 46 (0, 0)) (uB BK302.out) k_ hk_.2.1), (Kd.freshB (g := gb308) (o := .cells #[.int .i64 2, .int .i64 0, .string (⟨#[120]⟩ : ByteArray), .slice none 0 0] 24 (0, 0)) (uB BK308.out) k_ hk_.2.1), (Kd.freshB (g := gb309) (o := .cells #[.int .i64 2, .int .i64 0, .string (⟨#[121]⟩ : ByteArray), .slice none 0 0] 24 (0, 0)) (uB BK309.out) k_ hk_.2.1), (Kd.freshB (g := gb310) (o := .cells #[.int .i64 x311000_1, .int .i64 x311001_1, .int .i64 x311002_1, .int .i64 x311003_1] 66 (0, 0)) (uB BK310.out) k_ hk_.2.1)⟩)) (below_size (by repeat (first | (with_reducible first | exact HB.out | apply bA | apply bN | apply bD | refine bS ?_ (by assumption)) | exact HB.out)))); have n5_ := mk0 (blk_below (g := gb302) (o := .cells #[.slice Ao19 t298.length co19, .int .i64 t301] 46 (0, 0)) (uB BK302.out) hb); have n6_ := mk0 (blk_below (g := gb308) (o := .cells #[.int .i64 2, .int .i64 0, .string (⟨#[120]⟩ : ByteArray), .slice none 0 0] 24 (0, 0)) (uB BK308.out) hb); have n7_ := mk0 (blk_below (g := gb309) (o := .cells #[.int .i64 2, .int .i64 0, .string (⟨#[121]⟩ : ByteArray), .slice none 0 0] 24 (0, 0)) (uB BK309.out) hb); have n8_ := mk0 (blk_below (g := gb310) (o := .cells #[.int .i64 x311000_1, .int .i64 x311001_1, .int .i64 x311002_1, .int .i64 x311003_1] 66 (0, 0)) (uB BK310.out) hb); have n9_ := mk0 (below_step (by repeat (first | (with_reducible first | exact HB.out | apply bA | apply bN | apply bD | refine bS ?_ (by assumption)) | exact HB.out)) hb); clear HO_6; clear HO_303000; clear HO320; clear HO324; clear BK302; clear BK308; clear BK309; clear BK310; clear HB; have HO_6 := n0_; have HO_303000 := n1_; have HO320 := n2_; have HO324 := n3_; have HO330 := n4_; have BK302 := n5_; have BK308 := n6_; have BK309 := n7_; have BK310 := n8_; have HB := n9_; clear n0_ n1_ n2_ n3_ n4_ n5_ n6_ n7_ n8_ n9_; (try clear hb); (try clear hb2); (try clear hk); (try clear hi); (try clear ho0)))
                (try simp only [field33_])
                try go_wp2
                go_meet
                case rel => exact ⟨_, (((t327.size : Int) != 1)), (by first | rfl | (simp; done) | (simp [*]; done) | (simp [bne_nil_, beq_nil_]; done)), H', ⟨by have := HK1.out; first | omega | exact Nat.le_refl _⟩, ⟨by (try simp only [hl6_1]); (with_reducible repeat (first | apply Kd.N_alloc | apply Kd.N_drewN | apply Kd.N_drew)); exact Kd.N_mono HO_303000.out (fun _ hk => ⟨hk.1.1.1.2.1, ⟨hk.1.1.1.2.2.1, ⟨hk.1.1.1.2.2.2.1, hk.1.1.1.2.2.2.2⟩⟩⟩)⟩, ⟨by (try simp only [hl6_1]); (with_reducible repeat (first | refine blk_drewN ?_ _ | refine blk_drew ?_ | refine blk_alloc ?_ _)); exact BK302.out⟩, ⟨by (try simp only [hl6_1]); (with_reducible repeat (first | refine blk_drewN ?_ _ | refine blk_drew ?_ | refine blk_alloc ?_ _)); exact BK308.out⟩, ⟨by (try simp only [hl6_1]); (with_reducible repeat (first | refine blk_drewN ?_ _ | refine blk_drew ?_ | refine blk_alloc ?_ _)); exact BK309.out⟩, ⟨by (try simp only [hl6_1]); (with_reducible repeat (first | refine blk_drewN ?_ _ | refine blk_drew ?_ | refine blk_alloc ?_ _)); exact BK310.out⟩, ⟨by repeat (first | (with_reducible first | exact HB.out | apply bA | apply bN | apply bD | refine bS ?_ (by assumption)) | exact HB.out)⟩⟩
               ·rw [if_neg c92] at H
                have c92b0 : (t321 == (wrap64 (-a0))) = false := beq_eq_false_iff_ne.mpr c92
                have c92b1 : (t321 != (wrap64 (-a0))) = true := bne_iff_ne.mpr c92
                have H' := mk0 H
                clear H
                (first | (have EHO324 := cmpV_no HO324.out (by with_reducible assumption)) | (have EHO324 := cmpV_yes HO324.out (by with_reducible assumption)) | skip)
                have hnb102 := NB310_302.out
                have hnc102 := NB302_310.out
                have hnb103 := NB310_308.out
                have hnc103 := NB308_310.out
                have hnb104 := NB310_309.out
                have hnc104 := NB309_310.out
                have hcz105_0 : w87.cell? ⟨gb310, 0, none⟩ = some (.int .i64 x311000_1) := (blk_cell BK310.out 0).trans rfl
                have hcz105_1 : w87.cell? ⟨gb310, 1, none⟩ = some (.int .i64 x311001_1) := (blk_cell BK310.out 1).trans rfl
                have hcz105_2 : w87.cell? ⟨gb310, 2, none⟩ = some (.int .i64 x311002_1) := (blk_cell BK310.out 2).trans rfl
                have hcz105_3 : w87.cell? ⟨gb310, 3, none⟩ = some (.int .i64 x311003_1) := (blk_cell BK310.out 3).trans rfl
                have hfz105_0 := blk_frozen BK310.out 0
                have hfz105_1 := blk_frozen BK310.out 1
                have hfz105_2 := blk_frozen BK310.out 2
                have hfz105_3 := blk_frozen BK310.out 3
                go_wp2
                go_meet
                case rel => exact ⟨_, (true), (by first | rfl | (simp; done) | (simp [*]; done) | (simp [bne_nil_, beq_nil_]; done)), H', ⟨by have := HK1.out; first | omega | exact Nat.le_refl _⟩, ⟨by (try simp only [hl6_1]); (with_reducible repeat (first | apply Kd.N_alloc | apply Kd.N_drewN | apply Kd.N_drew)); exact Kd.N_mono HO_303000.out (fun _ hk => ⟨hk.1.1.2.1, ⟨hk.1.1.2.2.1, ⟨hk.1.1.2.2.2.1, hk.1.1.2.2.2.2⟩⟩⟩)⟩, ⟨by (try simp only [hl6_1]); (with_reducible repeat (first | refine blk_drewN ?_ _ | refine blk_drew ?_ | refine blk_alloc ?_ _)); exact BK302.out⟩, ⟨by (try simp only [hl6_1]); (with_reducible repeat (first | refine blk_drewN ?_ _ | refine blk_drew ?_ | refine blk_alloc ?_ _)); exact BK308.out⟩, ⟨by (try simp only [hl6_1]); (with_reducible repeat (first | refine blk_drewN ?_ _ | refine blk_drew ?_ | refine blk_alloc ?_ _)); exact BK309.out⟩, ⟨by (try simp only [hl6_1]); (with_reducible repeat (first | refine blk_drewN ?_ _ | refine blk_drew ?_ | refine blk_alloc ?_ _)); exact BK310.out⟩, ⟨by repeat (first | (with_reducible first | exact HB.out | apply bA | apply bN | apply bD | refine bS ?_ (by assumption)) | exact HB.out)⟩⟩
              ·rw [if_neg c91] at H
               have c91b0 : (x311002_1 == (wrap64 (a0 * a1))) = false := beq_eq_false_iff_ne.mpr c91
               have c91b1 : (x311002_1 != (wrap64 (a0 * a1))) = true := bne_iff_ne.mpr c91
               have H' := mk0 H
               clear H
               (first | (have EHO324 := cmpV_no HO324.out (by with_reducible assumption)) | (have EHO324 := cmpV_yes HO324.out (by with_reducible assumption)) | skip)
               have hnb106 := NB310_302.out
               have hnc106 := NB302_310.out
               have hnb107 := NB310_308.out
               have hnc107 := NB308_310.out
               have hnb108 := NB310_309.out
               have hnc108 := NB309_310.out
               have hcz109_0 : w87.cell? ⟨gb310, 0, none⟩ = some (.int .i64 x311000_1) := (blk_cell BK310.out 0).trans rfl
               have hcz109_1 : w87.cell? ⟨gb310, 1, none⟩ = some (.int .i64 x311001_1) := (blk_cell BK310.out 1).trans rfl
               have hcz109_2 : w87.cell? ⟨gb310, 2, none⟩ = some (.int .i64 x311002_1) := (blk_cell BK310.out 2).trans rfl
               have hcz109_3 : w87.cell? ⟨gb310, 3, none⟩ = some (.int .i64 x311003_1) := (blk_cell BK310.out 3).trans rfl
               have hfz109_0 := blk_frozen BK310.out 0
               have hfz109_1 := blk_frozen BK310.out 1
               have hfz109_2 := blk_frozen BK310.out 2
               have hfz109_3 := blk_frozen BK310.out 3
               go_wp2
               go_meet
               case rel => exact ⟨_, (true), (by first | rfl | (simp; done) | (simp [*]; done) | (simp [bne_nil_, beq_nil_]; done)), H', ⟨by have := HK1.out; first | omega | exact Nat.le_refl _⟩, ⟨by (try simp only [hl6_1]); (with_reducible repeat (first | apply Kd.N_alloc | apply Kd.N_drewN | apply Kd.N_drew)); exact Kd.N_mono HO_303000.out (fun _ hk => ⟨hk.1.1.2.1, ⟨hk.1.1.2.2.1, ⟨hk.1.1.2.2.2.1, hk.1.1.2.2.2.2⟩⟩⟩)⟩, ⟨by (try simp only [hl6_1]); (with_reducible repeat (first | refine blk_drewN ?_ _ | refine blk_drew ?_ | refine blk_alloc ?_ _)); exact BK302.out⟩, ⟨by (try simp only [hl6_1]); (with_reducible repeat (first | refine blk_drewN ?_ _ | refine blk_drew ?_ | refine blk_alloc ?_ _)); exact BK308.out⟩, ⟨by (try simp only [hl6_1]); (with_reducible repeat (first | refine blk_drewN ?_ _ | refine blk_drew ?_ | refine blk_alloc ?_ _)); exact BK309.out⟩, ⟨by (try simp only [hl6_1]); (with_reducible repeat (first | refine blk_drewN ?_ _ | refine blk_drew ?_ | refine blk_alloc ?_ _)); exact BK310.out⟩, ⟨by repeat (first | (with_reducible first | exact HB.out | apply bA | apply bN | apply bD | refine bS ?_ (by assumption)) | exact HB.out)⟩⟩
             ·rw [if_neg c90] at H
              have c90b0 : (x311001_1 == (wrap64 (a0 - a1))) = false := beq_eq_false_iff_ne.mpr c90
              have c90b1 : (x311001_1 != (wrap64 (a0 - a1))) = true := bne_iff_ne.mpr c90
              have H' := mk0 H
              clear H
              (first | (have EHO324 := cmpV_no HO324.out (by with_reducible assumption)) | (have EHO324 := cmpV_yes HO324.out (by with_reducible assumption)) | skip)
              have hnb110 := NB310_302.out
              have hnc110 := NB302_310.out
              have hnb111 := NB310_308.out
              have hnc111 := NB308_310.out
              have hnb112 := NB310_309.out
              have hnc112 := NB309_310.out
              have hcz113_0 : w87.cell? ⟨gb310, 0, none⟩ = some (.int .i64 x311000_1) := (blk_cell BK310.out 0).trans rfl
              have hcz113_1 : w87.cell? ⟨gb310, 1, none⟩ = some (.int .i64 x311001_1) := (blk_cell BK310.out 1).trans rfl
              have hcz113_2 : w87.cell? ⟨gb310, 2, none⟩ = some (.int .i64 x311002_1) := (blk_cell BK310.out 2).trans rfl
              have hcz113_3 : w87.cell? ⟨gb310, 3, none⟩ = some (.int .i64 x311003_1) := (blk_cell BK310.out 3).trans rfl
              have hfz113_0 := blk_frozen BK310.out 0
              have hfz113_1 := blk_frozen BK310.out 1
              have hfz113_2 := blk_frozen BK310.out 2
              have hfz113_3 := blk_frozen BK310.out 3
              go_wp2
              go_meet
              case rel => exact ⟨_, (true), (by first | rfl | (simp; done) | (simp [*]; done) | (simp [bne_nil_, beq_nil_]; done)), H', ⟨by have := HK1.out; first | omega | exact Nat.le_refl _⟩, ⟨by (try simp only [hl6_1]); (with_reducible repeat (first | apply Kd.N_alloc | apply Kd.N_drewN | apply Kd.N_drew)); exact Kd.N_mono HO_303000.out (fun _ hk => ⟨hk.1.1.2.1, ⟨hk.1.1.2.2.1, ⟨hk.1.1.2.2.2.1, hk.1.1.2.2.2.2⟩⟩⟩)⟩, ⟨by (try simp only [hl6_1]); (with_reducible repeat (first | refine blk_drewN ?_ _ | refine blk_drew ?_ | refine blk_alloc ?_ _)); exact BK302.out⟩, ⟨by (try simp only [hl6_1]); (with_reducible repeat (first | refine blk_drewN ?_ _ | refine blk_drew ?_ | refine blk_alloc ?_ _)); exact BK308.out⟩, ⟨by (try simp only [hl6_1]); (with_reducible repeat (first | refine blk_drewN ?_ _ | refine blk_drew ?_ | refine blk_alloc ?_ _)); exact BK309.out⟩, ⟨by (try simp only [hl6_1]); (with_reducible repeat (first | refine blk_drewN ?_ _ | refine blk_drew ?_ | refine blk_alloc ?_ _)); exact BK310.out⟩, ⟨by repeat (first | (with_reducible first | exact HB.out | apply bA | apply bN | apply bD | refine bS ?_ (by assumption)) | exact HB.out)⟩⟩
            ·rw [if_neg c89] at H
             have c89b0 : (x311000_1 == (wrap64 (a0 + a1))) = false := beq_eq_false_iff_ne.mpr c89
             have c89b1 : (x311000_1 != (wrap64 (a0 + a1))) = true := bne_iff_ne.mpr c89
             have H' := mk0 H
             clear H
             (first | (have EHO324 := cmpV_no HO324.out (by with_reducible assumption)) | (have EHO324 := cmpV_yes HO324.out (by with_reducible assumption)) | skip)
             have hnb114 := NB310_302.out
             have hnc114 := NB302_310.out
             have hnb115 := NB310_308.out
             have hnc115 := NB308_310.out
             have hnb116 := NB310_309.out
             have hnc116 := NB309_310.out
             have hcz117_0 : w87.cell? ⟨gb310, 0, none⟩ = some (.int .i64 x311000_1) := (blk_cell BK310.out 0).trans rfl
             have hcz117_1 : w87.cell? ⟨gb310, 1, none⟩ = some (.int .i64 x311001_1) := (blk_cell BK310.out 1).trans rfl
             have hcz117_2 : w87.cell? ⟨gb310, 2, none⟩ = some (.int .i64 x311002_1) := (blk_cell BK310.out 2).trans rfl
             have hcz117_3 : w87.cell? ⟨gb310, 3, none⟩ = some (.int .i64 x311003_1) := (blk_cell BK310.out 3).trans rfl
             have hfz117_0 := blk_frozen BK310.out 0
             have hfz117_1 := blk_frozen BK310.out 1
             have hfz117_2 := blk_frozen BK310.out 2
             have hfz117_3 := blk_frozen BK310.out 3
             go_wp2
             go_meet
             case rel => exact ⟨_, (true), (by first | rfl | (simp; done) | (simp [*]; done) | (simp [bne_nil_, beq_nil_]; done)), H', ⟨by have := HK1.out; first | omega | exact Nat.le_refl _⟩, ⟨by (try simp only [hl6_1]); (with_reducible repeat (first | apply Kd.N_alloc | apply Kd.N_drewN | apply Kd.N_drew)); exact Kd.N_mono HO_303000.out (fun _ hk => ⟨hk.1.1.2.1, ⟨hk.1.1.2.2.1, ⟨hk.1.1.2.2.2.1, hk.1.1.2.2.2.2⟩⟩⟩)⟩, ⟨by (try simp only [hl6_1]); (with_reducible repeat (first | refine blk_drewN ?_ _ | refine blk_drew ?_ | refine blk_alloc ?_ _)); exact BK302.out⟩, ⟨by (try simp only [hl6_1]); (with_reducible repeat (first | refine blk_drewN ?_ _ | refine blk_drew ?_ | refine blk_alloc ?_ _)); exact BK308.out⟩, ⟨by (try simp only [hl6_1]); (with_reducible repeat (first | refine blk_drewN ?_ _ | refine blk_drew ?_ | refine blk_alloc ?_ _)); exact BK309.out⟩, ⟨by (try simp only [hl6_1]); (with_reducible repeat (first | refine blk_drewN ?_ _ | refine blk_drew ?_ | refine blk_alloc ?_ _)); exact BK310.out⟩, ⟨by repeat (first | (with_reducible first | exact HB.out | apply bA | apply bN | apply bD | refine bS ?_ (by assumption)) | exact HB.out)⟩⟩
           ·rw [if_neg c88] at H
            have c88b0 : ((t322.length : Int) == 0) = false := beq_eq_false_iff_ne.mpr c88
            have c88b1 : ((t322.length : Int) != 0) = true := bne_iff_ne.mpr c88
            have c88b2 : ¬ (t322 = []) := fun h_ => c88 (by rw [h_]; rfl)
            (first | rw [c88b0] | (simp only [i64_w, i32_w]; rw [c88b0]) | skip)
            have H' := mk0 H
            clear H
            (first | (have EHO324 := cmpV_no HO324.out (by with_reducible assumption)) | (have EHO324 := cmpV_yes HO324.out (by with_reducible assumption)) | skip)
            go_wp2
            go_meet
            case rel => exact ⟨_, (true), (by first | rfl | (simp; done) | (simp [*]; done) | (simp [bne_nil_, beq_nil_]; done)), H', ⟨by have := HK1.out; first | omega | exact Nat.le_refl _⟩, ⟨by (try simp only [hl6_1]); (with_reducible repeat (first | apply Kd.N_alloc | apply Kd.N_drewN | apply Kd.N_drew)); exact Kd.N_mono HO_303000.out (fun _ hk => ⟨hk.1.1.2.1, ⟨hk.1.1.2.2.1, ⟨hk.1.1.2.2.2.1, hk.1.1.2.2.2.2⟩⟩⟩)⟩, ⟨by (try simp only [hl6_1]); (with_reducible repeat (first | refine blk_drewN ?_ _ | refine blk_drew ?_ | refine blk_alloc ?_ _)); exact BK302.out⟩, ⟨by (try simp only [hl6_1]); (with_reducible repeat (first | refine blk_drewN ?_ _ | refine blk_drew ?_ | refine blk_alloc ?_ _)); exact BK308.out⟩, ⟨by (try simp only [hl6_1]); (with_reducible repeat (first | refine blk_drewN ?_ _ | refine blk_drew ?_ | refine blk_alloc ?_ _)); exact BK309.out⟩, ⟨by (try simp only [hl6_1]); (with_reducible repeat (first | refine blk_drewN ?_ _ | refine blk_drew ?_ | refine blk_alloc ?_ _)); exact BK310.out⟩, ⟨by repeat (first | (with_reducible first | exact HB.out | apply bA | apply bN | apply bD | refine bS ?_ (by assumption)) | exact HB.out)⟩⟩
          case rest =>
           clear HC76
           try clear c1
           try clear p1
           try clear q1
           try clear hx1
           try clear qi1
           try clear c2
           try clear p2
           try clear c3
           try clear c4
           try clear c5
           try clear c6
           try clear p6
           try clear c7
           try clear c7b0
           try clear c7b1
           try clear c8
           try clear c8b0
           try clear c8b1
           try clear c9
           try clear c9b0
           try clear c9b1
           try clear c10
           try clear c10b0
           try clear c10b1
           try clear c11
           try clear p11
           try clear q11
           try clear hx11
           try clear qi11
           try clear hf11
           try clear c12
           try clear c12b0
           try clear c12b1
           try clear p13
           try clear q13
           try clear hx13
           try clear qi13
           try clear hf13
           try clear c29
           try clear c32
           try clear c33
           try clear c36
           try clear c36b0
           try clear c39
           try clear c40
           try clear c41
           try clear c43
           try clear c44
           try clear c46
           try clear c52
           try clear c52b0
           try clear c52b1
           try clear c53
           try clear c54
           try clear c54b0
           try clear c54b1
           try clear c54b2
           try clear c55
           try clear c55b0
           try clear c55b1
           try clear c55b2
           try clear c56
           try clear c56b0
           try clear c56b1
           try clear c57
           try clear c58
           try clear c59
           try clear c61
           try clear c61b0
           try clear c61b1
           try clear c62
           try clear c63
           try clear c64
           try clear p64
           try clear c66
           try clear c66b0
           try clear c66b1
           try clear c67
           try clear c68
           try clear c69
           try clear c71
           try clear c72
           try clear c73
           try clear c77
           try clear c78
           try clear c79
           try clear c81
           try clear c82
           try clear c88
           try clear c88b0
           try clear c88b1
           try clear c88b2
           try clear c89
           try clear c89b0
           try clear c89b1
           try clear c90
           try clear c90b0
           try clear c90b1
           try clear c91
           try clear c91b0
           try clear c91b1
           try clear c92
           try clear c92b0
           try clear c92b1
           try clear c94
           try clear c95
           try clear c96
           try clear c98
           try clear c99
           try clear c102
           try clear c103
           try clear c104
           try clear c106
           try clear c107
           try clear c108
           try clear c110
           try clear c111
           try clear c112
           try clear c114
           try clear c115
           try clear c116
           try clear hcz100_0
           try clear hcz100_1
           try clear hcz100_2
           try clear hcz100_3
           try clear hcz105_0
           try clear hcz105_1
           try clear hcz105_2
           try clear hcz105_3
           try clear hcz109_0
           try clear hcz109_1
           try clear hcz109_2
           try clear hcz109_3
           try clear hcz113_0
           try clear hcz113_1
           try clear hcz113_2
           try clear hcz113_3
           try clear hcz117_0
           try clear hcz117_1
           try clear hcz117_2
           try clear hcz117_3
           try clear hcz20_0
           try clear hcz20_1
           try clear hcz30_0
           try clear hcz30_1
           try clear hcz30_2
           try clear hcz30_3
           try clear hcz34_0
           try clear hcz34_1
           try clear hcz34_2
           try clear hcz34_3
           try clear hcz42_0
           try clear hcz42_1
           try clear hcz45_0
           try clear hcz45_1
           try clear hcz45_2
           try clear hcz45_3
           try clear hcz47_0
           try clear hcz47_1
           try clear hcz47_2
           try clear hcz47_3
           try clear hcz60_0
           try clear hcz60_1
           try clear hcz60_2
           try clear hcz60_3
           try clear hcz65_0
           try clear hcz65_1
           try clear hcz65_2
           try clear hcz65_3
           try clear hcz70_0
           try clear hcz70_1
           try clear hcz70_2
           try clear hcz70_3
           try clear hcz74_0
           try clear hcz74_1
           try clear hcz74_2
           try clear hcz74_3
           try clear hcz80_0
           try clear hcz80_1
           try clear hcz83_0
           try clear hcz83_1
           try clear hcz83_2
           try clear hcz83_3
           try clear hcz97_0
           try clear hcz97_1
           try clear hcz97_2
           try clear hcz97_3
           try clear hfz100_0
           try clear hfz100_1
           try clear hfz100_2
           try clear hfz100_3
           try clear hfz105_0
           try clear hfz105_1
           try clear hfz105_2
           try clear hfz105_3
           try clear hfz109_0
           try clear hfz109_1
           try clear hfz109_2
           try clear hfz109_3
           try clear hfz113_0
           try clear hfz113_1
           try clear hfz113_2
           try clear hfz113_3
           try clear hfz117_0
           try clear hfz117_1
           try clear hfz117_2
           try clear hfz117_3
           try clear hfz20_0
           try clear hfz20_1
           try clear hfz30_0
           try clear hfz30_1
           try clear hfz30_2
           try clear hfz30_3
           try clear hfz34_0
           try clear hfz34_1
           try clear hfz34_2
           try clear hfz34_3
           try clear hfz42_0
           try clear hfz42_1
           try clear hfz45_0
           try clear hfz45_1
           try clear hfz45_2
           try clear hfz45_3
           try clear hfz47_0
           try clear hfz47_1
           try clear hfz47_2
           try clear hfz47_3
           try clear hfz60_0
           try clear hfz60_1
           try clear hfz60_2
           try clear hfz60_3
           try clear hfz65_0
           try clear hfz65_1
           try clear hfz65_2
           try clear hfz65_3
           try clear hfz70_0
           try clear hfz70_1
           try clear hfz70_2
           try clear hfz70_3
           try clear hfz74_0
           try clear hfz74_1
           try clear hfz74_2
           try clear hfz74_3
           try clear hfz80_0
           try clear hfz80_1
           try clear hfz83_0
           try clear hfz83_1
           try clear hfz83_2
           try clear hfz83_3
           try clear hfz97_0
           try clear hfz97_1
           try clear hfz97_2
           try clear hfz97_3
           try clear hx11_0
           try clear hx13_0
           try clear p1
           try clear p11
           try clear p13
           try clear p2
           try clear p6
           try clear q1
           try clear q11
           try clear q13
           obtain ⟨kq, x113_75, rfl, HA, HJ75, HO_303000, BK302, BK308, BK309, BK310, HB⟩ := hcut
           cases kq with
           | zero => exact absurd HA.out (by simp [furrowlaw9_EvalNums.j2])
           | succ kj75 =>
            have H := HA.out
            clear HA
            simp only [furrowlaw9_EvalNums.j2] at H
            by_cases c118 : x113_75 = true
            ·subst c118
             have H1 : (some false) = some true := by rw [if_pos rfl] at H; first | done | exact H
             clear H
             have H := H1
             clear H1
             exact absurd H (by simp)
            ·replace c118 := Bool.eq_false_iff.mpr c118
             subst c118
             have H1 : (if a1 = (-1) then (some (x311003_1 == (wrap64 (-a0)))) else (if a1 = 0 then (none) else (some (x311003_1 == (wrap64 (Int.tdiv a0 a1)))))) = some true := by rw [if_neg (show ¬ (false = true) by decide)] at H; first | done | exact H
             clear H
             have H := H1
             clear H1
             by_cases c119 : a1 = (-1)
             ·rw [if_pos c119] at H
              have c119b0 : (a1 == (-1)) = true := beq_iff_eq.mpr c119
              have c119b1 : (a1 != (-1)) = false := bne_eq_false_iff_eq.mpr c119
              clear c119
              have HT := mk0 (Option.some.inj H)
              clear H
              have hnb120 := NB310_302.out
              have hnc120 := NB302_310.out
              have hnb121 := NB310_308.out
              have hnc121 := NB308_310.out
              have hnb122 := NB310_309.out
              have hnc122 := NB309_310.out
              have hcz123_0 : wc.cell? ⟨gb310, 0, none⟩ = some (.int .i64 x311000_1) := (blk_cell BK310.out 0).trans rfl
              have hcz123_1 : wc.cell? ⟨gb310, 1, none⟩ = some (.int .i64 x311001_1) := (blk_cell BK310.out 1).trans rfl
              have hcz123_2 : wc.cell? ⟨gb310, 2, none⟩ = some (.int .i64 x311002_1) := (blk_cell BK310.out 2).trans rfl
              have hcz123_3 : wc.cell? ⟨gb310, 3, none⟩ = some (.int .i64 x311003_1) := (blk_cell BK310.out 3).trans rfl
              have hfz123_0 := blk_frozen BK310.out 0
              have hfz123_1 := blk_frozen BK310.out 1
              have hfz123_2 := blk_frozen BK310.out 2
              have hfz123_3 := blk_frozen BK310.out 3
              go_wp2
              go_ret
              exact ⟨by first | rfl | (simp [errW_none, errW_some] <;> rfl) | (exact congrArg (fun b_ => Ending.returned (Value.bool b_)) HT.out) | (rw [show _ = _ from HT.out]) | (simp [HT.out]; done) | (simp [show _ = _ from HT.out]; done) | (simp [*, errW_none, errW_some] <;> rfl), by repeat (first | (with_reducible first | exact HB.out | apply bA | apply bN | apply bD | refine bS ?_ (by assumption)) | exact HB.out)⟩
             ·rw [if_neg c119] at H
              have c119b0 : (a1 == (-1)) = false := beq_eq_false_iff_ne.mpr c119
              have c119b1 : (a1 != (-1)) = true := bne_iff_ne.mpr c119
              by_cases c124 : a1 = 0
              ·rw [if_pos c124] at H
               exact absurd H (by simp)
              ·rw [if_neg c124] at H
               have c124b0 : (a1 == 0) = false := beq_eq_false_iff_ne.mpr c124
               have c124b1 : (a1 != 0) = true := bne_iff_ne.mpr c124
               have HT := mk0 (Option.some.inj H)
               clear H
               have hnb125 := NB310_302.out
               have hnc125 := NB302_310.out
               have hnb126 := NB310_308.out
               have hnc126 := NB308_310.out
               have hnb127 := NB310_309.out
               have hnc127 := NB309_310.out
               have hcz128_0 : wc.cell? ⟨gb310, 0, none⟩ = some (.int .i64 x311000_1) := (blk_cell BK310.out 0).trans rfl
               have hcz128_1 : wc.cell? ⟨gb310, 1, none⟩ = some (.int .i64 x311001_1) := (blk_cell BK310.out 1).trans rfl
               have hcz128_2 : wc.cell? ⟨gb310, 2, none⟩ = some (.int .i64 x311002_1) := (blk_cell BK310.out 2).trans rfl
               have hcz128_3 : wc.cell? ⟨gb310, 3, none⟩ = some (.int .i64 x311003_1) := (blk_cell BK310.out 3).trans rfl
               have hfz128_0 := blk_frozen BK310.out 0
               have hfz128_1 := blk_frozen BK310.out 1
               have hfz128_2 := blk_frozen BK310.out 2
               have hfz128_3 := blk_frozen BK310.out 3
               go_wp2
               repeat (go_quiet (fail); try go_wp2)
               go_ret
               exact ⟨by first | rfl | (simp [errW_none, errW_some] <;> rfl) | (exact congrArg (fun b_ => Ending.returned (Value.bool b_)) HT.out) | (rw [show _ = _ from HT.out]) | (simp [HT.out]; done) | (simp [show _ = _ from HT.out]; done) | (simp [*, errW_none, errW_some] <;> rfl), by repeat (first | (with_reducible first | exact HB.out | apply bA | apply bN | apply bD | refine bS ?_ (by assumption)) | exact HB.out)⟩
      ·rw [if_neg c12] at H
       exact absurd H (by simp)
     ·rw [if_neg c10] at H
      exact absurd H (by simp)
   ·rw [if_neg c8] at H
    exact absurd H (by simp)
  ·rw [if_neg c7] at H
   exact absurd H (by simp)
 ·replace c4 := Bool.eq_false_iff.mpr c4
  subst c4
  have H1 : (some false) = some true := by rw [if_neg (show ¬ (false = true) by decide)] at H; first | done | exact H
  clear H
  have H := H1
  clear H1
  exact absurd H (by simp)

/-- THE ONE PURE STATEMENT of furrowlaw9_EvalNums: yours. -/
def furrowlaw9_EvalNums.Pure : Prop := ∀ (a0 : Int) (a1 : Int), (Lit.int .i64 a0).wf = true → (Lit.int .i64 a1).wf = true → ∃ k, furrowlaw9_EvalNums.f k a0 a1 = some true
theorem furrowlaw9_EvalNums.walk (P : furrowlaw9_EvalNums.Pure) (a0 : Int) (a1 : Int) (w : World) (w0 : (Lit.int .i64 a0).wf = true) (w1 : (Lit.int .i64 a1).wf = true) (hG : Glob w) :
  Calls Tryd.prog 6 #[.int .i64 a0, .int .i64 a1] w fun e w' => e = .returned (.bool true) ∧ Below w.heap.size w w' := by
 obtain ⟨k, h⟩ := P a0 a1 w0 w1
 refine (furrowlaw9_EvalNums.calls k a0 a1  w hG h).mono ?_
 rintro e w' ⟨rfl, hd⟩
 exact ⟨rfl, hd⟩

end Go.Proofs.YtmhkijidnpihmaaDoor.X
