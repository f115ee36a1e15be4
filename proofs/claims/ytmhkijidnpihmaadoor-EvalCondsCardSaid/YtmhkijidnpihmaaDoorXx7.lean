-- PRINTED by print.py (a twelfth state) out of the translation. Not trusted: Lean checks it.
import Derived.Test.YtmhkijidnpihmaaDoorXx0
import Derived.Test.YtmhkijidnpihmaaDoorXx2
import Derived.Test.YtmhkijidnpihmaaDoorXx3
import Derived.Test.YtmhkijidnpihmaaDoorXx4
import Derived.Test.YtmhkijidnpihmaaDoorXx6
import Derived.Test.YtmhkijidnpihmaaDoorHandE
namespace Go.Proofs.YtmhkijidnpihmaaDoor.X
open Go.Proofs.YtmhkijidnpihmaaDoor.Flt Go.Proofs.YtmhkijidnpihmaaDoor.H Go.RowKit Go.Proofs.YtmhkijidnpihmaaDoorW.PrintWords Go.Proofs.YtmhkijidnpihmaaDoorW.PrintLast Go.Proofs.YtmhkijidnpihmaaDoorW.PrintMore
attribute [local go_sem] max2_int min2_int max_two min_two max_three min_three max_four min_four   -- for this text's walks alone
set_option linter.unusedVariables false
set_option linter.unusedSimpArgs false

/-! ### furrowlaw9_EvalConds: function 4 -/
mutual
def furrowlaw9_EvalConds.j0 : Nat → Int → Int → Int → Int → List (S71) → Int → ByteArray → Int → Int → ByteArray → List (S24) → Int → Int → ByteArray → Option (Bool)
 | 0, _, _, _, _, _, _, _, _, _, _, _, _, _, _ => none
 | k + 1, x0, x1, x2, x3, x226000, x226001, x231000, x231001, x231002, x231003, x231004, x231005, x231006, x231007 => if (((Int.tdiv x3 2) % 256) % 2) = 1 then (furrowlaw9_EvalConds.j1 k x0 x1 x2 x3 x226000 x226001 x231000 x231001 x231002 x231003 x231004 3 0 (⟨#[97]⟩ : ByteArray) (([(⟨1, 9, (⟨#[]⟩ : ByteArray), ([] : List (S24))⟩ : S24)] : List (S24)))) else (furrowlaw9_EvalConds.j1 k x0 x1 x2 x3 x226000 x226001 x231000 x231001 x231002 x231003 x231004 x231005 x231006 x231007 ([] : List (S24)))
def furrowlaw9_EvalConds.j1 : Nat → Int → Int → Int → Int → List (S71) → Int → ByteArray → Int → Int → ByteArray → List (S24) → Int → Int → ByteArray → List (S24) → Option (Bool)
 | 0, _, _, _, _, _, _, _, _, _, _, _, _, _, _, _ => none
 | k + 1, x0, x1, x2, x3, x226000, x226001, x231000, x231001, x231002, x231003, x231004, x231005, x231006, x231007, x231008 => (furrowlaw8_To.f k x226000 x226001).bind fun bt237 => ((furrowlaw9_store.f k x226000 x226001 ([] : List Int)).bind fun t241 => ((eval_Holds.f k bt237.1 bt237.2 t241 x231000 x231001 x231002 x231003 x231004 x231005 x231006 x231007 x231008).bind fun bt244 => (if (Int.tmod x3 2) = 1 then (if bt244.1 = true then (some false) else ((furrowref4_At.f (⟨#[100, 105, 118]⟩ : ByteArray) 0 13).bind fun bt248 => ((furrowlaw2_Tells.f bt244.2 bt248.1 bt248.2).bind fun t252 => (some t252)))) else (if (((Int.tdiv x3 2) % 256) % 2) = 1 then (if bt244.1 = true then (some false) else ((furrowref4_At.f (⟨#[115, 117, 98, 115, 99, 114, 105, 112, 116]⟩ : ByteArray) 0 14).bind fun bt253 => ((furrowlaw2_Tells.f bt244.2 bt253.1 bt253.2).bind fun t257 => (some t257)))) else ((some (([decide (x0 < x1), decide (x0 ≤ x1), decide (x0 > x1), decide (x0 ≥ x1), (x0 == x1), (x0 != x1)] : List Bool) : List Bool)).bind fun y258 => (if (bt244.2.length : Int) = 0 then (if 0 ≤ (Int.tmod x2 6) then (if (Int.tmod x2 6) < (y258.length : Int) then (some (bt244.1 == (rdOf false y258 (Int.tmod x2 6)))) else (none)) else (none)) else (some false)))))))
end
def furrowlaw9_EvalConds.f (k : Nat) (a0 : Int) (a1 : Int) (a2 : Int) (a3 : Int) : Option (Bool) := (furrowlaw9_known.f k).bind fun t220 => (if t220 = true then ((furrowlaw9_Table.f k 2).bind fun bt221 => ((some (([(⟨#[60]⟩ : ByteArray), (⟨#[60, 61]⟩ : ByteArray), (⟨#[62]⟩ : ByteArray), (⟨#[62, 61]⟩ : ByteArray), (⟨#[61, 61]⟩ : ByteArray), (⟨#[47, 61]⟩ : ByteArray)] : List ByteArray) : List ByteArray)).bind fun y226 => (if 0 ≤ (Int.tmod a2 6) then (if (Int.tmod a2 6) < (y226.length : Int) then (if (Int.tmod a3 2) = 1 then (furrowlaw9_EvalConds.j0 k a0 a1 a2 a3 bt221.1 bt221.2 (rdOf ByteArray.empty y226 (Int.tmod a2 6)) 8 0 (⟨#[]⟩ : ByteArray) (([(⟨1, a0, (⟨#[]⟩ : ByteArray), ([] : List (S24))⟩ : S24), (⟨1, 0, (⟨#[]⟩ : ByteArray), ([] : List (S24))⟩ : S24)] : List (S24))) 1 a1 (⟨#[]⟩ : ByteArray)) else (furrowlaw9_EvalConds.j0 k a0 a1 a2 a3 bt221.1 bt221.2 (rdOf ByteArray.empty y226 (Int.tmod a2 6)) 1 a0 (⟨#[]⟩ : ByteArray) ([] : List (S24)) 1 a1 (⟨#[]⟩ : ByteArray))) else (none)) else (none)))) else (some false))
theorem furrowlaw9_EvalConds.mono_l : ∀ k, (∀ y0 y1 y2 y3 y4 y5 y6 y7 y8 y9 y10 y11 y12 y13, LeO (furrowlaw9_EvalConds.j0 k y0 y1 y2 y3 y4 y5 y6 y7 y8 y9 y10 y11 y12 y13) (furrowlaw9_EvalConds.j0 (k + 1) y0 y1 y2 y3 y4 y5 y6 y7 y8 y9 y10 y11 y12 y13)) ∧ (∀ y0 y1 y2 y3 y4 y5 y6 y7 y8 y9 y10 y11 y12 y13 y14, LeO (furrowlaw9_EvalConds.j1 k y0 y1 y2 y3 y4 y5 y6 y7 y8 y9 y10 y11 y12 y13 y14) (furrowlaw9_EvalConds.j1 (k + 1) y0 y1 y2 y3 y4 y5 y6 y7 y8 y9 y10 y11 y12 y13 y14))
 | 0 => ⟨fun _ _ _ _ _ _ _ _ _ _ _ _ _ _ r h => by simp [furrowlaw9_EvalConds.j0] at h, fun _ _ _ _ _ _ _ _ _ _ _ _ _ _ _ r h => by simp [furrowlaw9_EvalConds.j1] at h⟩
 | k + 1 => by
  obtain ⟨ih0, ih1⟩ := furrowlaw9_EvalConds.mono_l k
  refine ⟨?_, ?_⟩
  ·intro y0 y1 y2 y3 y4 y5 y6 y7 y8 y9 y10 y11 y12 y13
   unfold furrowlaw9_EvalConds.j0
   repeat' first
   | (with_reducible exact ih0 _ _ _ _ _ _ _ _ _ _ _ _ _ _)
   | (with_reducible exact ih1 _ _ _ _ _ _ _ _ _ _ _ _ _ _ _)
   | (with_reducible exact eval_Holds.mono _ _ _ _ _ _ _ _ _ _ _ _ _)
   | (with_reducible exact furrowlaw8_To.mono _ _ _)
   | (with_reducible exact furrowlaw9_Table.mono _ _)
   | (with_reducible exact furrowlaw9_known.mono _)
   | (with_reducible exact furrowlaw9_store.mono _ _ _ _)
   | (with_reducible exact LeO.refl _)
   | (with_reducible exact LeO.none _)
   | (with_reducible refine LeO.ite ?_ ?_)
   | (with_reducible refine LeO.bind ?_ (fun _ => ?_))
   | exact ih0 _ _ _ _ _ _ _ _ _ _ _ _ _ _
   | exact ih1 _ _ _ _ _ _ _ _ _ _ _ _ _ _ _
   | exact eval_Holds.mono _ _ _ _ _ _ _ _ _ _ _ _ _
   | exact furrowlaw8_To.mono _ _ _
   | exact furrowlaw9_Table.mono _ _
   | exact furrowlaw9_known.mono _
   | exact furrowlaw9_store.mono _ _ _ _
   | exact LeO.none _
   | refine LeO.ite ?_ ?_
   | refine LeO.bind ?_ (fun _ => ?_)
  ·intro y0 y1 y2 y3 y4 y5 y6 y7 y8 y9 y10 y11 y12 y13 y14
   unfold furrowlaw9_EvalConds.j1
   repeat' first
   | (with_reducible exact ih0 _ _ _ _ _ _ _ _ _ _ _ _ _ _)
   | (with_reducible exact ih1 _ _ _ _ _ _ _ _ _ _ _ _ _ _ _)
   | (with_reducible exact eval_Holds.mono _ _ _ _ _ _ _ _ _ _ _ _ _)
   | (with_reducible exact furrowlaw8_To.mono _ _ _)
   | (with_reducible exact furrowlaw9_Table.mono _ _)
   | (with_reducible exact furrowlaw9_known.mono _)
   | (with_reducible exact furrowlaw9_store.mono _ _ _ _)
   | (with_reducible exact LeO.refl _)
   | (with_reducible exact LeO.none _)
   | (with_reducible refine LeO.ite ?_ ?_)
   | (with_reducible refine LeO.bind ?_ (fun _ => ?_))
   | exact ih0 _ _ _ _ _ _ _ _ _ _ _ _ _ _
   | exact ih1 _ _ _ _ _ _ _ _ _ _ _ _ _ _ _
   | exact eval_Holds.mono _ _ _ _ _ _ _ _ _ _ _ _ _
   | exact furrowlaw8_To.mono _ _ _
   | exact furrowlaw9_Table.mono _ _
   | exact furrowlaw9_known.mono _
   | exact furrowlaw9_store.mono _ _ _ _
   | exact LeO.none _
   | refine LeO.ite ?_ ?_
   | refine LeO.bind ?_ (fun _ => ?_)
theorem furrowlaw9_EvalConds.mono : ∀ a0 a1 a2 a3 k, LeO (furrowlaw9_EvalConds.f k a0 a1 a2 a3) (furrowlaw9_EvalConds.f (k + 1) a0 a1 a2 a3) := by
 intro a0 a1 a2 a3 k
 obtain ⟨ih0, ih1⟩ := furrowlaw9_EvalConds.mono_l k
 unfold furrowlaw9_EvalConds.f
 repeat' first
   | (with_reducible exact ih0 _ _ _ _ _ _ _ _ _ _ _ _ _ _)
   | (with_reducible exact ih1 _ _ _ _ _ _ _ _ _ _ _ _ _ _ _)
   | (with_reducible exact eval_Holds.mono _ _ _ _ _ _ _ _ _ _ _ _ _)
   | (with_reducible exact furrowlaw8_To.mono _ _ _)
   | (with_reducible exact furrowlaw9_Table.mono _ _)
   | (with_reducible exact furrowlaw9_known.mono _)
   | (with_reducible exact furrowlaw9_store.mono _ _ _ _)
   | (with_reducible exact LeO.refl _)
   | (with_reducible exact LeO.none _)
   | (with_reducible refine LeO.ite ?_ ?_)
   | (with_reducible refine LeO.bind ?_ (fun _ => ?_))
   | exact ih0 _ _ _ _ _ _ _ _ _ _ _ _ _ _
   | exact ih1 _ _ _ _ _ _ _ _ _ _ _ _ _ _ _
   | exact eval_Holds.mono _ _ _ _ _ _ _ _ _ _ _ _ _
   | exact furrowlaw8_To.mono _ _ _
   | exact furrowlaw9_Table.mono _ _
   | exact furrowlaw9_known.mono _
   | exact furrowlaw9_store.mono _ _ _ _
   | exact LeO.none _
   | refine LeO.ite ?_ ?_
   | refine LeO.bind ?_ (fun _ => ?_)
def furrowlaw9_EvalConds.T10 : Bool × List (List Nat × List Nat) := (true, [([], []), ([0], [0]), ([], []), ([2, 1], [2]), ([], []), ([1, 3, 4, 3], [1, 3, 4]), ([5], [5]), ([6], [6]), ([6], [6]), ([7, 5, 0, 1, 2, 3, 4, 5, 6, 7], [7]), ([8, 9, 0, 1, 2, 3, 4, 5, 6, 7, 8, 9], [8])])
def furrowlaw9_EvalConds.B10 : List Nat := [0, 1, 0, 7, 0, 31, 63, 127, 127, 255, 1023]
theorem furrowlaw9_EvalConds.tab10 : rtab .any (opsOf Tryd.f4 10) = furrowlaw9_EvalConds.T10 := by kernel_rfl
theorem furrowlaw9_EvalConds.bits10 : waitsOk furrowlaw9_EvalConds.T10.2 furrowlaw9_EvalConds.B10 = true := by kernel_rfl
/-- The world may be forgotten, but for what is told of it. -/
theorem wgen_ {G J : World → Prop} {W : World} (hJ : J W) (h : ∀ wc, J wc → G wc) : G W := h W hJ
set_option maxHeartbeats 64000000 in
set_option maxRecDepth 100000 in
theorem furrowlaw9_EvalConds.calls (k : Nat) (a0 : Int) (a1 : Int) (a2 : Int) (a3 : Int) (w : World) (hG : Glob w) (h : furrowlaw9_EvalConds.f k a0 a1 a2 a3 = some true) :
  Calls Tryd.prog 4 #[.int .i64 a0, .int .i64 a1, .int .u8 a2, .int .u8 a3] w fun e w' => e = .returned (.bool true) ∧ Below w.heap.size w w' := by
 have hu29 := Tryd.underlying29
 have hu24 := Tryd.underlying24
 have hu57 := Tryd.underlying57
 have HG := mk0 hG
 clear hG
 have HB := mk0 (Below.refl w.heap.size w)
 have H : ((furrowlaw9_known.f k).bind fun t220 => (if t220 = true then ((furrowlaw9_Table.f k 2).bind fun bt221 => ((some (([(⟨#[60]⟩ : ByteArray), (⟨#[60, 61]⟩ : ByteArray), (⟨#[62]⟩ : ByteArray), (⟨#[62, 61]⟩ : ByteArray), (⟨#[61, 61]⟩ : ByteArray), (⟨#[47, 61]⟩ : ByteArray)] : List ByteArray) : List ByteArray)).bind fun y226 => (if 0 ≤ (Int.tmod a2 6) then (if (Int.tmod a2 6) < (y226.length : Int) then (if (Int.tmod a3 2) = 1 then (furrowlaw9_EvalConds.j0 k a0 a1 a2 a3 bt221.1 bt221.2 (rdOf ByteArray.empty y226 (Int.tmod a2 6)) 8 0 (⟨#[]⟩ : ByteArray) (([(⟨1, a0, (⟨#[]⟩ : ByteArray), ([] : List (S24))⟩ : S24), (⟨1, 0, (⟨#[]⟩ : ByteArray), ([] : List (S24))⟩ : S24)] : List (S24))) 1 a1 (⟨#[]⟩ : ByteArray)) else (furrowlaw9_EvalConds.j0 k a0 a1 a2 a3 bt221.1 bt221.2 (rdOf ByteArray.empty y226 (Int.tmod a2 6)) 1 a0 (⟨#[]⟩ : ByteArray) ([] : List (S24)) 1 a1 (⟨#[]⟩ : ByteArray))) else (none)) else (none)))) else (some false))) = some true := h
 clear h
 replace H := Option.bind_eq_some_iff.mp H
 obtain ⟨t220, A50, H⟩ := H
 replace H : (if t220 = true then ((furrowlaw9_Table.f k 2).bind fun bt221 => ((some (([(⟨#[60]⟩ : ByteArray), (⟨#[60, 61]⟩ : ByteArray), (⟨#[62]⟩ : ByteArray), (⟨#[62, 61]⟩ : ByteArray), (⟨#[61, 61]⟩ : ByteArray), (⟨#[47, 61]⟩ : ByteArray)] : List ByteArray) : List ByteArray)).bind fun y226 => (if 0 ≤ (Int.tmod a2 6) then (if (Int.tmod a2 6) < (y226.length : Int) then (if (Int.tmod a3 2) = 1 then (furrowlaw9_EvalConds.j0 k a0 a1 a2 a3 bt221.1 bt221.2 (rdOf ByteArray.empty y226 (Int.tmod a2 6)) 8 0 (⟨#[]⟩ : ByteArray) (([(⟨1, a0, (⟨#[]⟩ : ByteArray), ([] : List (S24))⟩ : S24), (⟨1, 0, (⟨#[]⟩ : ByteArray), ([] : List (S24))⟩ : S24)] : List (S24))) 1 a1 (⟨#[]⟩ : ByteArray)) else (furrowlaw9_EvalConds.j0 k a0 a1 a2 a3 bt221.1 bt221.2 (rdOf ByteArray.empty y226 (Int.tmod a2 6)) 1 a0 (⟨#[]⟩ : ByteArray) ([] : List (S24)) 1 a1 (⟨#[]⟩ : ByteArray))) else (none)) else (none)))) else (some false)) = some true := H
 have A5 := mk0 A50
 clear A50
 by_cases c6 : t220 = true
 ·subst c6
  have H1 : ((furrowlaw9_Table.f k 2).bind fun bt221 => ((some (([(⟨#[60]⟩ : ByteArray), (⟨#[60, 61]⟩ : ByteArray), (⟨#[62]⟩ : ByteArray), (⟨#[62, 61]⟩ : ByteArray), (⟨#[61, 61]⟩ : ByteArray), (⟨#[47, 61]⟩ : ByteArray)] : List ByteArray) : List ByteArray)).bind fun y226 => (if 0 ≤ (Int.tmod a2 6) then (if (Int.tmod a2 6) < (y226.length : Int) then (if (Int.tmod a3 2) = 1 then (furrowlaw9_EvalConds.j0 k a0 a1 a2 a3 bt221.1 bt221.2 (rdOf ByteArray.empty y226 (Int.tmod a2 6)) 8 0 (⟨#[]⟩ : ByteArray) (([(⟨1, a0, (⟨#[]⟩ : ByteArray), ([] : List (S24))⟩ : S24), (⟨1, 0, (⟨#[]⟩ : ByteArray), ([] : List (S24))⟩ : S24)] : List (S24))) 1 a1 (⟨#[]⟩ : ByteArray)) else (furrowlaw9_EvalConds.j0 k a0 a1 a2 a3 bt221.1 bt221.2 (rdOf ByteArray.empty y226 (Int.tmod a2 6)) 1 a0 (⟨#[]⟩ : ByteArray) ([] : List (S24)) 1 a1 (⟨#[]⟩ : ByteArray))) else (none)) else (none)))) = some true := by rw [if_pos rfl] at H; first | done | exact H
  clear H
  have H := H1
  clear H1
  replace H := Option.bind_eq_some_iff.mp H
  obtain ⟨⟨t221, t224⟩, A70, H⟩ := H
  replace H : ((some (([(⟨#[60]⟩ : ByteArray), (⟨#[60, 61]⟩ : ByteArray), (⟨#[62]⟩ : ByteArray), (⟨#[62, 61]⟩ : ByteArray), (⟨#[61, 61]⟩ : ByteArray), (⟨#[47, 61]⟩ : ByteArray)] : List ByteArray) : List ByteArray)).bind fun y226 => (if 0 ≤ (Int.tmod a2 6) then (if (Int.tmod a2 6) < (y226.length : Int) then (if (Int.tmod a3 2) = 1 then (furrowlaw9_EvalConds.j0 k a0 a1 a2 a3 t221 t224 (rdOf ByteArray.empty y226 (Int.tmod a2 6)) 8 0 (⟨#[]⟩ : ByteArray) (([(⟨1, a0, (⟨#[]⟩ : ByteArray), ([] : List (S24))⟩ : S24), (⟨1, 0, (⟨#[]⟩ : ByteArray), ([] : List (S24))⟩ : S24)] : List (S24))) 1 a1 (⟨#[]⟩ : ByteArray)) else (furrowlaw9_EvalConds.j0 k a0 a1 a2 a3 t221 t224 (rdOf ByteArray.empty y226 (Int.tmod a2 6)) 1 a0 (⟨#[]⟩ : ByteArray) ([] : List (S24)) 1 a1 (⟨#[]⟩ : ByteArray))) else (none)) else (none))) = some true := H
  have A7 := mk0 A70
  clear A70
  obtain ⟨y226, hy226⟩ : ∃ y_ : List ByteArray, y_ = (([(⟨#[60]⟩ : ByteArray), (⟨#[60, 61]⟩ : ByteArray), (⟨#[62]⟩ : ByteArray), (⟨#[62, 61]⟩ : ByteArray), (⟨#[61, 61]⟩ : ByteArray), (⟨#[47, 61]⟩ : ByteArray)] : List ByteArray)) := ⟨_, rfl⟩
  replace H : (if 0 ≤ (Int.tmod a2 6) then (if (Int.tmod a2 6) < (y226.length : Int) then (if (Int.tmod a3 2) = 1 then (furrowlaw9_EvalConds.j0 k a0 a1 a2 a3 t221 t224 (rdOf ByteArray.empty y226 (Int.tmod a2 6)) 8 0 (⟨#[]⟩ : ByteArray) (([(⟨1, a0, (⟨#[]⟩ : ByteArray), ([] : List (S24))⟩ : S24), (⟨1, 0, (⟨#[]⟩ : ByteArray), ([] : List (S24))⟩ : S24)] : List (S24))) 1 a1 (⟨#[]⟩ : ByteArray)) else (furrowlaw9_EvalConds.j0 k a0 a1 a2 a3 t221 t224 (rdOf ByteArray.empty y226 (Int.tmod a2 6)) 1 a0 (⟨#[]⟩ : ByteArray) ([] : List (S24)) 1 a1 (⟨#[]⟩ : ByteArray))) else (none)) else (none)) = some true := by first | (rw [hy226]; with_reducible exact H) | (have H2_ := (Option.bind_some _ _).symm.trans H; rw [hy226]; with_reducible exact H2_) | (have H2_ := (Option.bind_some _ _).symm.trans H; with_reducible exact H2_) | with_reducible exact H | (rw [hy226]; exact H) | exact H
  have Ny226 := mk0 hy226
  clear hy226
  obtain ⟨ji8, hji8⟩ : ∃ j_ : Int, (Int.tmod a2 6) = j_ := ⟨_, rfl⟩
  replace H : (if 0 ≤ (ji8) then (if (ji8) < (y226.length : Int) then (if (Int.tmod a3 2) = 1 then (furrowlaw9_EvalConds.j0 k a0 a1 a2 a3 t221 t224 (rdOf ByteArray.empty y226 (ji8)) 8 0 (⟨#[]⟩ : ByteArray) (([(⟨1, a0, (⟨#[]⟩ : ByteArray), ([] : List (S24))⟩ : S24), (⟨1, 0, (⟨#[]⟩ : ByteArray), ([] : List (S24))⟩ : S24)] : List (S24))) 1 a1 (⟨#[]⟩ : ByteArray)) else (furrowlaw9_EvalConds.j0 k a0 a1 a2 a3 t221 t224 (rdOf ByteArray.empty y226 (ji8)) 1 a0 (⟨#[]⟩ : ByteArray) ([] : List (S24)) 1 a1 (⟨#[]⟩ : ByteArray))) else (none)) else (none)) = some true := by first | (rw [hji8] at H; exact H) | (simp only [hji8] at H ⊢; exact H)
  (try rw [hji8] at A5)
  (try rw [hji8] at A7)
  by_cases c9 : 0 ≤ (ji8)
  ·rw [if_pos c9] at H
   have c9b0 : decide (0 ≤ (ji8)) = true := decide_eq_true c9
   clear c9
   by_cases c10 : (ji8) < (y226.length : Int)
   ·rw [if_pos c10] at H
    have c10b0 : decide ((ji8) < (y226.length : Int)) = true := decide_eq_true c10
    clear c10
    have HC11 := mk0 H
    clear H
    go_enter Tryd.func4, Tryd.ntmps4
    go_upto_if 31 with (first | ((with_reducible refine gate_callee (f := 7) rfl ?_); refine goesL_ (some 15) rfl rfl Tryd.func7 (by kernel_rfl) rfl #[] rfl (by (try simp only [List.map_toArray, List.map_cons, List.map_nil]); first | done | rfl | (simp only [List.length_drop, List.length_take]; rfl)) ?_; (with_reducible refine (furrowlaw9_known.calls k   _ ?side1 A5.out).mono ?_); (case side1 => exact Glob.below HG.out (uL HB.out)); rintro e w12 ⟨rfl, hb⟩; refine ⟨_, rfl, ?_⟩; have n0_ := mk0 (below_step (uL HB.out) hb); clear HB; have HB := n0_; clear n0_; (try clear hb); (try clear hb2); (try clear hk); (try clear hi)) | ((with_reducible refine gate_callee (f := 8) rfl ?_); refine goesL_ (some 17) rfl rfl Tryd.func8 (by kernel_rfl) rfl #[.int .i64 2] rfl (by (try simp only [List.map_toArray, List.map_cons, List.map_nil]); first | done | rfl | (simp only [List.length_drop, List.length_take]; rfl)) ?_; (with_reducible refine (furrowlaw9_Table.calls k 2 t221 t224 _ A7.out).mono ?_); rintro e w13 ⟨v222, rfl, ho0, hb⟩; refine ⟨_, rfl, ?_⟩; have n0_ := mk0 (Kd.N_lower (Kd.N_mono (ok' := fun k_ => True) ho0 (fun k_ hk_ => trivial)) (below_size (uL HB.out))); have n1_ := mk0 (below_step (uL HB.out) hb); clear HB; have HO223 := n0_; have HB := n1_; clear n0_ n1_; (try clear hb); (try clear hb2); (try clear hk); (try clear hi); (try clear ho0)) | ((with_reducible refine gate_dst (N := 9) rfl ?_); refine box_event ?hg (N := 9) ?hd (cs := #[.slice none 0 0, .int .i64 0]) (t := 29) ?hr ?_; (case hd => rfl); (case hg => rfl); (case hr => first | (go_simp; done) | (go_simp; rfl)); intro gb225 hg w14 hbox hb; have n0_ := mk0 (Kd.N_below (Kd.N_elderB (uN HO223.out) gb225 (Nat.le_of_eq hg.symm)) hb); have n1_ := mk0 (below_step (uL HB.out) hb); have n2_ := mk0 (hbox); have n3_ := mk0 ((by rw [hg]; exact (below_size (uL HB.out)) : w.heap.size ≤ gb225)); have n4_ := mk0 ((by rw [hg]; exact (below_size (uL HB.out)) : w.heap.size ≤ gb225)); clear HO223; clear HB; have HO223 := n0_; have HB := n1_; have BK225 := n2_; have GW225 := n3_; have GE225 := n4_; clear n0_ n1_ n2_ n3_ n4_; clear hb hbox hg; obtain ⟨Ao15, co15, eo15⟩ := Kd.N_slice HO223.out; subst eo15; have hcz16_0 : w14.cell? ⟨gb225, 0, none⟩ = some (.slice none 0 0) := (blk_cell BK225.out 0).trans rfl; have hcz16_1 : w14.cell? ⟨gb225, 1, none⟩ = some (.int .i64 0) := (blk_cell BK225.out 1).trans rfl; have hfz16_0 := blk_frozen BK225.out 0; have hfz16_1 := blk_frozen BK225.out 1) | ((with_reducible refine gate_dst (N := 18) rfl ?_); refine Kd.R_lit Kd.string _ 9 ?hg (N := 18) ?hd (xs := ([(⟨#[60]⟩ : ByteArray), (⟨#[60, 61]⟩ : ByteArray), (⟨#[62]⟩ : ByteArray), (⟨#[62, 61]⟩ : ByteArray), (⟨#[61, 61]⟩ : ByteArray), (⟨#[47, 61]⟩ : ByteArray)] : List ByteArray)) (inner := [.string (⟨#[60]⟩ : ByteArray), .string (⟨#[60, 61]⟩ : ByteArray), .string (⟨#[62]⟩ : ByteArray), .string (⟨#[62, 61]⟩ : ByteArray), .string (⟨#[61, 61]⟩ : ByteArray), .string (⟨#[47, 61]⟩ : ByteArray)]) (ok := fun _ => True) (okp := fun _ => True) ?hr ?hp (fun _ hk => hk) trivial (Below.refl _ _) (Nat.le_refl _) (by simp) ?_; (case hd => rfl); (case hg => rfl); (case hr => first | (go_simp; done) | (go_simp; rfl)); (case hp => exact (Reps.one (show Kd.M Kd.string _ _ _ (⟨#[60]⟩ : ByteArray) [.string (⟨#[60]⟩ : ByteArray)] from rfl) (Reps.one (show Kd.M Kd.string _ _ _ (⟨#[60, 61]⟩ : ByteArray) [.string (⟨#[60, 61]⟩ : ByteArray)] from rfl) (Reps.one (show Kd.M Kd.string _ _ _ (⟨#[62]⟩ : ByteArray) [.string (⟨#[62]⟩ : ByteArray)] from rfl) (Reps.one (show Kd.M Kd.string _ _ _ (⟨#[62, 61]⟩ : ByteArray) [.string (⟨#[62, 61]⟩ : ByteArray)] from rfl) (Reps.one (show Kd.M Kd.string _ _ _ (⟨#[61, 61]⟩ : ByteArray) [.string (⟨#[61, 61]⟩ : ByteArray)] from rfl) (Reps.one (show Kd.M Kd.string _ _ _ (⟨#[47, 61]⟩ : ByteArray) [.string (⟨#[47, 61]⟩ : ByteArray)] from rfl) (Reps.none _ _)))))))); intro v227 w17 ho18 hb hg_ hnew_; clear hg_ hnew_; (first | rw [← Ny226.out] at ho18 | (simp only [Int.reduceToNat] at ho18; rw [← Ny226.out] at ho18)); have n0_ := mk0 (Kd.N_elder' (uN (Kd.N_mono (Kd.N_far (p := ⟨gb225, 1, none⟩) (Kd.N_far (p := ⟨gb225, 0, none⟩) (Kd.N_mono HO223.out (fun k_ hk => (⟨hk, hk.2⟩ : _ ∧ k_ ≠ gb225))) (fun _ hk => hk.2) (.slice Ao15 t221.length co15)) (fun _ hk => hk.2) (.int .i64 t224)) (fun _ h_ => h_.1))) (Kd.R_base ho18) hb); have n1_ := mk0 (Kd.R_lower ho18 (below_size (by repeat (first | (with_reducible first | exact HB.out | apply bA | apply bN | apply bD | refine bS ?_ (by assumption)) | exact HB.out)))); have n2_ := mk0 (blk_below (g := gb225) (o := .cells #[.slice Ao15 t221.length co15, .int .i64 t224] 29 (0, 0)) (by (with_reducible repeat (first | refine blk_drewN ?_ _ | refine blk_drew ?_ | refine blk_alloc ?_ _)); refine blk_put (cs := #[.slice Ao15 t221.length co15, .int .i64 0]) ?_ 1 _ rfl; (with_reducible repeat (first | refine blk_drewN ?_ _ | refine blk_drew ?_ | refine blk_alloc ?_ _)); refine blk_put (cs := #[.slice none 0 0, .int .i64 0]) ?_ 0 _ rfl; (with_reducible repeat (first | refine blk_drewN ?_ _ | refine blk_drew ?_ | refine blk_alloc ?_ _)); exact BK225.out) hb); have n3_ := mk0 (below_step (by repeat (first | (with_reducible first | exact HB.out | apply bA | apply bN | apply bD | refine bS ?_ (by assumption)) | exact HB.out)) hb); clear HO223; clear BK225; clear HB; have HO223 := n0_; have HO228 := n1_; have BK225 := n2_; have HB := n3_; clear n0_ n1_ n2_ n3_; clear hb ho18; obtain ⟨Ao19, co19, eo19⟩ := Kd.R_slice HO228.out; subst eo19; have p229 : 0 ≤ ((ji8) : Int) := of_decide_eq_true (by first | (with_reducible assumption) | assumption); have q229 : (ji8) < (y226.length : Int) := of_decide_eq_true (by first | (with_reducible assumption) | assumption); obtain ⟨ad229, e229, hx229_0⟩ := Kd.at_string (Kd.R_reads' HO228.out).2.2 (ji8) p229 q229; cases e229; replace p229 := eq_true p229; replace q229 := eq_true q229) | ((with_reducible refine gate_dst (N := 11) rfl ?_); refine box_event ?hg (N := 11) ?hd (cs := #[.string (⟨#[]⟩ : ByteArray), .int .i64 0, .int .i64 0, .string (⟨#[]⟩ : ByteArray), .slice none 0 0, .int .i64 0, .int .i64 0, .string (⟨#[]⟩ : ByteArray), .slice none 0 0]) (t := 57) ?hr ?_; (case hd => rfl); (case hg => rfl); (case hr => first | (go_simp; done) | (go_simp; rfl)); intro gb230 hg w20 hbox hb; have n0_ := mk0 (Kd.N_below (Kd.N_elderB (uN HO223.out) gb230 (Nat.le_of_eq hg.symm)) hb); have n1_ := mk0 (Kd.R_below (uR HO228.out) hb); have n2_ := mk0 (blk_below (g := gb225) (o := .cells #[.slice Ao15 t221.length co15, .int .i64 t224] 29 (0, 0)) (uB BK225.out) hb); have n3_ := mk0 (below_step (by repeat (first | (with_reducible first | exact HB.out | apply bA | apply bN | apply bD | refine bS ?_ (by assumption)) | exact HB.out)) hb); have n4_ := mk0 (hbox); have n5_ := mk0 ((by rw [hg]; exact (below_size (by repeat (first | (with_reducible first | exact HB.out | apply bA | apply bN | apply bD | refine bS ?_ (by assumption)) | exact HB.out))) : w.heap.size ≤ gb230)); have n6_ := mk0 ((by rw [hg]; exact (below_size (by repeat (first | (with_reducible first | exact HB.out | apply bA | apply bN | apply bD | refine bS ?_ (by assumption)) | exact HB.out))) : w.heap.size ≤ gb230)); have n7_ := mk0 ((by rw [hg]; exact Nat.ne_of_lt (blk_lt (g := gb225) (o := .cells #[.slice Ao15 t221.length co15, .int .i64 t224] 29 (0, 0)) (uB BK225.out)) : gb225 ≠ gb230)); have n8_ := mk0 ((by rw [hg]; exact Nat.ne_of_gt (blk_lt (g := gb225) (o := .cells #[.slice Ao15 t221.length co15, .int .i64 t224] 29 (0, 0)) (uB BK225.out)) : gb230 ≠ gb225)); clear HO223; clear HO228; clear BK225; clear HB; have HO223 := n0_; have HO228 := n1_; have BK225 := n2_; have HB := n3_; have BK230 := n4_; have GW230 := n5_; have GE230 := n6_; have NB225_230 := n7_; have NB230_225 := n8_; clear n0_ n1_ n2_ n3_ n4_ n5_ n6_ n7_ n8_; clear hb hbox hg; have hnb21 := NB230_225.out; have hnc21 := NB225_230.out; have hcz22_0 : w20.cell? ⟨gb230, 0, none⟩ = some (.string (⟨#[]⟩ : ByteArray)) := (blk_cell BK230.out 0).trans rfl; have hcz22_1 : w20.cell? ⟨gb230, 1, none⟩ = some (.int .i64 0) := (blk_cell BK230.out 1).trans rfl; have hcz22_2 : w20.cell? ⟨gb230, 2, none⟩ = some (.int .i64 0) := (blk_cell BK230.out 2).trans rfl; have hcz22_3 : w20.cell? ⟨gb230, 3, none⟩ = some (.string (⟨#[]⟩ : ByteArray)) := (blk_cell BK230.out 3).trans rfl; have hcz22_4 : w20.cell? ⟨gb230, 4, none⟩ = some (.slice none 0 0) := (blk_cell BK230.out 4).trans rfl; have hcz22_5 : w20.cell? ⟨gb230, 5, none⟩ = some (.int .i64 0) := (blk_cell BK230.out 5).trans rfl; have hcz22_6 : w20.cell? ⟨gb230, 6, none⟩ = some (.int .i64 0) := (blk_cell BK230.out 6).trans rfl; have hcz22_7 : w20.cell? ⟨gb230, 7, none⟩ = some (.string (⟨#[]⟩ : ByteArray)) := (blk_cell BK230.out 7).trans rfl; have hcz22_8 : w20.cell? ⟨gb230, 8, none⟩ = some (.slice none 0 0) := (blk_cell BK230.out 8).trans rfl; have hfz22_0 := blk_frozen BK230.out 0; have hfz22_1 := blk_frozen BK230.out 1; have hfz22_2 := blk_frozen BK230.out 2; have hfz22_3 := blk_frozen BK230.out 3; have hfz22_4 := blk_frozen BK230.out 4; have hfz22_5 := blk_frozen BK230.out 5; have hfz22_6 := blk_frozen BK230.out 6; have hfz22_7 := blk_frozen BK230.out 7; have hfz22_8 := blk_frozen BK230.out 8))
    (try simp only [Act.put, List.setIfInBounds_toArray, List.set_cons_zero, List.set_cons_succ])
    refine wgen_ (J := fun wc => Aside0 (Kd.N k71 71 wc w.heap.size (fun k_ => k_ ≠ gb225 ∧ k_ ≠ gb230) (.slice Ao15 t221.length co15) t221) ∧ Aside0 (wc.heap[gb225]? = some (.cells #[(.slice Ao15 t221.length co15), .int .i64 t224] 29 (0, 0))) ∧ Aside0 (wc.heap[gb230]? = some (.cells #[.string (rdOf ByteArray.empty y226 (ji8)), .int .i64 1, .int .i64 a0, .string (⟨#[]⟩ : ByteArray), .slice none 0 0, .int .i64 1, .int .i64 a1, .string (⟨#[]⟩ : ByteArray), .slice none 0 0] 57 (0, 0))) ∧ Aside0 (Below w.heap.size w wc)) ⟨⟨uN (Kd.N_mono (Kd.N_far (p := ⟨gb230, 8, none⟩) (Kd.N_far (p := ⟨gb230, 7, none⟩) (Kd.N_far (p := ⟨gb230, 6, none⟩) (Kd.N_far (p := ⟨gb230, 5, none⟩) (Kd.N_far (p := ⟨gb230, 4, none⟩) (Kd.N_far (p := ⟨gb230, 3, none⟩) (Kd.N_far (p := ⟨gb230, 2, none⟩) (Kd.N_far (p := ⟨gb230, 1, none⟩) (Kd.N_far (p := ⟨gb230, 0, none⟩) (Kd.N_mono HO223.out (fun k_ hk => (⟨hk, hk.2⟩ : _ ∧ k_ ≠ gb230))) (fun _ hk => hk.2) (.string (rdOf ByteArray.empty y226 (ji8)))) (fun _ hk => hk.2) (.int .i64 1)) (fun _ hk => hk.2) (.int .i64 a0)) (fun _ hk => hk.2) (.string (⟨#[]⟩ : ByteArray))) (fun _ hk => hk.2) (.slice none 0 0)) (fun _ hk => hk.2) (.int .i64 1)) (fun _ hk => hk.2) (.int .i64 a1)) (fun _ hk => hk.2) (.string (⟨#[]⟩ : ByteArray))) (fun _ hk => hk.2) (.slice none 0 0)) (fun _ hk => ⟨hk.1.1.1.2, hk.1.2⟩))⟩, ⟨by (with_reducible repeat (first | refine blk_drewN ?_ _ | refine blk_drew ?_ | refine blk_alloc ?_ _)); refine blk_far ?_ NB225_230.out _; (with_reducible repeat (first | refine blk_drewN ?_ _ | refine blk_drew ?_ | refine blk_alloc ?_ _)); refine blk_far ?_ NB225_230.out _; (with_reducible repeat (first | refine blk_drewN ?_ _ | refine blk_drew ?_ | refine blk_alloc ?_ _)); refine blk_far ?_ NB225_230.out _; (with_reducible repeat (first | refine blk_drewN ?_ _ | refine blk_drew ?_ | refine blk_alloc ?_ _)); refine blk_far ?_ NB225_230.out _; (with_reducible repeat (first | refine blk_drewN ?_ _ | refine blk_drew ?_ | refine blk_alloc ?_ _)); refine blk_far ?_ NB225_230.out _; (with_reducible repeat (first | refine blk_drewN ?_ _ | refine blk_drew ?_ | refine blk_alloc ?_ _)); refine blk_far ?_ NB225_230.out _; (with_reducible repeat (first | refine blk_drewN ?_ _ | refine blk_drew ?_ | refine blk_alloc ?_ _)); refine blk_far ?_ NB225_230.out _; (with_reducible repeat (first | refine blk_drewN ?_ _ | refine blk_drew ?_ | refine blk_alloc ?_ _)); refine blk_far ?_ NB225_230.out _; (with_reducible repeat (first | refine blk_drewN ?_ _ | refine blk_drew ?_ | refine blk_alloc ?_ _)); refine blk_far ?_ NB225_230.out _; (with_reducible repeat (first | refine blk_drewN ?_ _ | refine blk_drew ?_ | refine blk_alloc ?_ _)); exact BK225.out⟩, ⟨by (with_reducible repeat (first | refine blk_drewN ?_ _ | refine blk_drew ?_ | refine blk_alloc ?_ _)); refine blk_put (cs := #[.string (rdOf ByteArray.empty y226 (ji8)), .int .i64 1, .int .i64 a0, .string (⟨#[]⟩ : ByteArray), .slice none 0 0, .int .i64 1, .int .i64 a1, .string (⟨#[]⟩ : ByteArray), .slice none 0 0]) ?_ 8 _ rfl; (with_reducible repeat (first | refine blk_drewN ?_ _ | refine blk_drew ?_ | refine blk_alloc ?_ _)); refine blk_put (cs := #[.string (rdOf ByteArray.empty y226 (ji8)), .int .i64 1, .int .i64 a0, .string (⟨#[]⟩ : ByteArray), .slice none 0 0, .int .i64 1, .int .i64 a1, .string (⟨#[]⟩ : ByteArray), .slice none 0 0]) ?_ 7 _ rfl; (with_reducible repeat (first | refine blk_drewN ?_ _ | refine blk_drew ?_ | refine blk_alloc ?_ _)); refine blk_put (cs := #[.string (rdOf ByteArray.empty y226 (ji8)), .int .i64 1, .int .i64 a0, .string (⟨#[]⟩ : ByteArray), .slice none 0 0, .int .i64 1, .int .i64 0, .string (⟨#[]⟩ : ByteArray), .slice none 0 0]) ?_ 6 _ rfl; (with_reducible repeat (first | refine blk_drewN ?_ _ | refine blk_drew ?_ | refine blk_alloc ?_ _)); refine blk_put (cs := #[.string (rdOf ByteArray.empty y226 (ji8)), .int .i64 1, .int .i64 a0, .string (⟨#[]⟩ : ByteArray), .slice none 0 0, .int .i64 0, .int .i64 0, .string (⟨#[]⟩ : ByteArray), .slice none 0 0]) ?_ 5 _ rfl; (with_reducible repeat (first | refine blk_drewN ?_ _ | refine blk_drew ?_ | refine blk_alloc ?_ _)); refine blk_put (cs := #[.string (rdOf ByteArray.empty y226 (ji8)), .int .i64 1, .int .i64 a0, .string (⟨#[]⟩ : ByteArray), .slice none 0 0, .int .i64 0, .int .i64 0, .string (⟨#[]⟩ : ByteArray), .slice none 0 0]) ?_ 4 _ rfl; (with_reducible repeat (first | refine blk_drewN ?_ _ | refine blk_drew ?_ | refine blk_alloc ?_ _)); refine blk_put (cs := #[.string (rdOf ByteArray.empty y226 (ji8)), .int .i64 1, .int .i64 a0, .string (⟨#[]⟩ : ByteArray), .slice none 0 0, .int .i64 0, .int .i64 0, .string (⟨#[]⟩ : ByteArray), .slice none 0 0]) ?_ 3 _ rfl; (with_reducible repeat (first | refine blk_drewN ?_ _ | refine blk_drew ?_ | refine blk_alloc ?_ _)); refine blk_put (cs := #[.string (rdOf ByteArray.empty y226 (ji8)), .int .i64 1, .int .i64 0, .string (⟨#[]⟩ : ByteArray), .slice none 0 0, .int .i64 0, .int .i64 0, .string (⟨#[]⟩ : ByteArray), .slice none 0 0]) ?_ 2 _ rfl; (with_reducible repeat (first | refine blk_drewN ?_ _ | refine blk_drew ?_ | refine blk_alloc ?_ _)); refine blk_put (cs := #[.string (rdOf ByteArray.empty y226 (ji8)), .int .i64 0, .int .i64 0, .string (⟨#[]⟩ : ByteArray), .slice none 0 0, .int .i64 0, .int .i64 0, .string (⟨#[]⟩ : ByteArray), .slice none 0 0]) ?_ 1 _ rfl; (with_reducible repeat (first | refine blk_drewN ?_ _ | refine blk_drew ?_ | refine blk_alloc ?_ _)); refine blk_put (cs := #[.string (⟨#[]⟩ : ByteArray), .int .i64 0, .int .i64 0, .string (⟨#[]⟩ : ByteArray), .slice none 0 0, .int .i64 0, .int .i64 0, .string (⟨#[]⟩ : ByteArray), .slice none 0 0]) ?_ 0 _ rfl; (with_reducible repeat (first | refine blk_drewN ?_ _ | refine blk_drew ?_ | refine blk_alloc ?_ _)); exact BK230.out⟩, ⟨by repeat (first | (with_reducible first | exact HB.out | apply bA | apply bN | apply bD | refine bS ?_ (by assumption)) | exact HB.out)⟩⟩ ?_
    clear HO223 HO228 BK225 BK230 HB
    intro w20x ⟨HO223, BK225, BK230, HB⟩
    go_cut [] (fun wc => ∃ (kq : Nat) (x231001_10 : Int) (x231002_10 : Int) (x231003_10 : ByteArray) (x231004_10 : List (S24)) (u231004 : Value), Aside0 (furrowlaw9_EvalConds.j0 kq a0 a1 a2 a3 t221 t224 (rdOf ByteArray.empty y226 (ji8)) x231001_10 x231002_10 x231003_10 x231004_10 1 a1 (⟨#[]⟩ : ByteArray) = some true) ∧ Aside0 (kq ≤ k) ∧ Aside0 (Kd.N k71 71 wc w.heap.size (fun k_ => some k_ ≠ (u231004 : Value).ownBlock ∧ k_ ≠ gb225 ∧ k_ ≠ gb230) (.slice Ao15 t221.length co15) t221) ∧ Aside0 (Kd.N k24 24 wc w.heap.size (fun k_ => some k_ ≠ ((.slice Ao15 t221.length co15) : Value).ownBlock ∧ k_ ≠ gb225 ∧ k_ ≠ gb230) u231004 x231004_10) ∧ Aside0 (wc.heap[gb225]? = some (.cells #[(.slice Ao15 t221.length co15), .int .i64 t224] 29 (0, 0))) ∧ Aside0 (wc.heap[gb230]? = some (.cells #[.string (rdOf ByteArray.empty y226 (ji8)), .int .i64 x231001_10, .int .i64 x231002_10, .string x231003_10, u231004, .int .i64 1, .int .i64 a1, .string (⟨#[]⟩ : ByteArray), (.slice none 0 0)] 57 (0, 0))) ∧ Aside0 (Below w.heap.size w wc))
    case first =>
     have H := HC11.out
     clear HC11
     by_cases c23 : (Int.tmod a3 2) = 1
     ·rw [if_pos c23] at H
      have c23b0 : ((Int.tmod a3 2) == 1) = true := beq_iff_eq.mpr c23
      have c23b1 : ((Int.tmod a3 2) != 1) = false := bne_eq_false_iff_eq.mpr c23
      clear c23
      (first | rw [c23b0] | (simp only [i64_w, i32_w]; rw [c23b0]) | skip)
      obtain ⟨y231, hy231⟩ : ∃ y_ : List (S24), y_ = (([(⟨1, a0, (⟨#[]⟩ : ByteArray), ([] : List (S24))⟩ : S24), (⟨1, 0, (⟨#[]⟩ : ByteArray), ([] : List (S24))⟩ : S24)] : List (S24))) := ⟨_, rfl⟩
      replace H : (furrowlaw9_EvalConds.j0 k a0 a1 a2 a3 t221 t224 (rdOf ByteArray.empty y226 (ji8)) 8 0 (⟨#[]⟩ : ByteArray) y231 1 a1 (⟨#[]⟩ : ByteArray)) = some true := by first | (rw [hy231]; with_reducible exact H) | (have H2_ := (Option.bind_some _ _).symm.trans H; rw [hy231]; with_reducible exact H2_) | (have H2_ := (Option.bind_some _ _).symm.trans H; with_reducible exact H2_) | with_reducible exact H | (rw [hy231]; exact H) | exact H
      have Ny231 := mk0 hy231
      clear hy231
      have H' := mk0 H
      clear H
      have hnb24 := NB230_225.out
      have hnc24 := NB225_230.out
      have hcz25_0 : w20x.cell? ⟨gb230, 0, none⟩ = some (.string (rdOf ByteArray.empty y226 (ji8))) := (blk_cell BK230.out 0).trans rfl
      have hcz25_1 : w20x.cell? ⟨gb230, 1, none⟩ = some (.int .i64 1) := (blk_cell BK230.out 1).trans rfl
      have hcz25_2 : w20x.cell? ⟨gb230, 2, none⟩ = some (.int .i64 a0) := (blk_cell BK230.out 2).trans rfl
      have hcz25_3 : w20x.cell? ⟨gb230, 3, none⟩ = some (.string (⟨#[]⟩ : ByteArray)) := (blk_cell BK230.out 3).trans rfl
      have hcz25_4 : w20x.cell? ⟨gb230, 4, none⟩ = some (.slice none 0 0) := (blk_cell BK230.out 4).trans rfl
      have hcz25_5 : w20x.cell? ⟨gb230, 5, none⟩ = some (.int .i64 1) := (blk_cell BK230.out 5).trans rfl
      have hcz25_6 : w20x.cell? ⟨gb230, 6, none⟩ = some (.int .i64 a1) := (blk_cell BK230.out 6).trans rfl
      have hcz25_7 : w20x.cell? ⟨gb230, 7, none⟩ = some (.string (⟨#[]⟩ : ByteArray)) := (blk_cell BK230.out 7).trans rfl
      have hcz25_8 : w20x.cell? ⟨gb230, 8, none⟩ = some (.slice none 0 0) := (blk_cell BK230.out 8).trans rfl
      have hfz25_0 := blk_frozen BK230.out 0
      have hfz25_1 := blk_frozen BK230.out 1
      have hfz25_2 := blk_frozen BK230.out 2
      have hfz25_3 := blk_frozen BK230.out 3
      have hfz25_4 := blk_frozen BK230.out 4
      have hfz25_5 := blk_frozen BK230.out 5
      have hfz25_6 := blk_frozen BK230.out 6
      have hfz25_7 := blk_frozen BK230.out 7
      have hfz25_8 := blk_frozen BK230.out 8
      go_wp2_with (first | ((with_reducible refine gate_dst (N := 35) rfl ?_); refine Kd.N_lit k24 _ 24 ?hg (N' := 35) ?hd (xs := ([(⟨1, a0, (⟨#[]⟩ : ByteArray), ([] : List (S24))⟩ : S24), (⟨1, 0, (⟨#[]⟩ : ByteArray), ([] : List (S24))⟩ : S24)] : List (S24))) (inner := [.int .i64 1, .int .i64 a0, .string (⟨#[]⟩ : ByteArray), .slice none 0 0, .int .i64 1, .int .i64 0, .string (⟨#[]⟩ : ByteArray), .slice none 0 0]) (ok := (fun k_ => some k_ ≠ (.slice Ao15 t221.length co15 : Value).ownBlock ∧ k_ ≠ gb225 ∧ k_ ≠ gb230)) (okp := (fun k_ => some k_ ≠ (.slice Ao15 t221.length co15 : Value).ownBlock ∧ k_ ≠ gb225 ∧ k_ ≠ gb230)) ?hr ?hp (fun _ hk => hk) ((show ∀ k_, w20x.heap.size ≤ k_ → (fun k_ => some k_ ≠ (.slice Ao15 t221.length co15 : Value).ownBlock ∧ k_ ≠ gb225 ∧ k_ ≠ gb230) k_ from fun k_ hk => ⟨Kd.fresh' (Kd.N_lt (uN HO223.out)) k_ hk, Kd.freshB (uB BK225.out) k_ hk, Kd.freshB (uB BK230.out) k_ hk⟩) _ (Nat.le_refl _)) (Below.refl _ _) (Nat.le_refl _) (by simp) ?_; (case hd => rfl); (case hg => rfl); (case hr => first | (go_simp; done) | (go_simp; rfl)); (case hp => exact (Reps.c4 (show Kd.FK k24 _ _ (⟨1, a0, (⟨#[]⟩ : ByteArray), ([] : List (S24))⟩ : S24) [.int .i64 1, .int .i64 a0, .string (⟨#[]⟩ : ByteArray), .slice none 0 0] from (k24_mkF _ _ (⟨1, a0, (⟨#[]⟩ : ByteArray), ([] : List (S24))⟩ : S24) (Nat.le_refl _) (Kd.F_nil _ _ _))) (Reps.c4 (show Kd.FK k24 _ _ (⟨1, 0, (⟨#[]⟩ : ByteArray), ([] : List (S24))⟩ : S24) [.int .i64 1, .int .i64 0, .string (⟨#[]⟩ : ByteArray), .slice none 0 0] from (k24_mkF _ _ (⟨1, 0, (⟨#[]⟩ : ByteArray), ([] : List (S24))⟩ : S24) (Nat.le_refl _) (Kd.F_nil _ _ _))) (Reps.none _ _)))); intro v232 w26 ho27 hb hg_ hnew_; clear hg_ hnew_; (first | rw [← Ny231.out] at ho27 | (simp only [Int.reduceToNat] at ho27; rw [← Ny231.out] at ho27)); have n0_ := mk0 (Kd.N_elder' (uN HO223.out) (Kd.N_base ho27) hb); have n2_ := mk0 (Kd.N_lower ho27 (below_size HB.out)); have n3_ := mk0 (blk_below (uB BK225.out) hb); have n4_ := mk0 (blk_below (uB BK230.out) hb); have n5_ := mk0 (below_step HB.out hb); clear HO223 BK225 BK230 HB; have HO223 := n0_; have HO233 := n2_; have BK225 := n3_; have BK230 := n4_; have HB := n5_; clear n0_ n2_ n3_ n4_ n5_; clear hb ho27; obtain ⟨Ao28, co28, eo28⟩ := Kd.N_slice HO233.out; subst eo28; have hcz29_0 : w26.cell? ⟨gb230, 0, none⟩ = some (.string (rdOf ByteArray.empty y226 (ji8))) := (blk_cell BK230.out 0).trans rfl; have hcz29_1 : w26.cell? ⟨gb230, 1, none⟩ = some (.int .i64 1) := (blk_cell BK230.out 1).trans rfl; have hcz29_2 : w26.cell? ⟨gb230, 2, none⟩ = some (.int .i64 a0) := (blk_cell BK230.out 2).trans rfl; have hcz29_3 : w26.cell? ⟨gb230, 3, none⟩ = some (.string (⟨#[]⟩ : ByteArray)) := (blk_cell BK230.out 3).trans rfl; have hcz29_4 : w26.cell? ⟨gb230, 4, none⟩ = some (.slice none 0 0) := (blk_cell BK230.out 4).trans rfl; have hcz29_5 : w26.cell? ⟨gb230, 5, none⟩ = some (.int .i64 1) := (blk_cell BK230.out 5).trans rfl; have hcz29_6 : w26.cell? ⟨gb230, 6, none⟩ = some (.int .i64 a1) := (blk_cell BK230.out 6).trans rfl; have hcz29_7 : w26.cell? ⟨gb230, 7, none⟩ = some (.string (⟨#[]⟩ : ByteArray)) := (blk_cell BK230.out 7).trans rfl; have hcz29_8 : w26.cell? ⟨gb230, 8, none⟩ = some (.slice none 0 0) := (blk_cell BK230.out 8).trans rfl; have hfz29_0 := blk_frozen BK230.out 0; have hfz29_1 := blk_frozen BK230.out 1; have hfz29_2 := blk_frozen BK230.out 2; have hfz29_3 := blk_frozen BK230.out 3; have hfz29_4 := blk_frozen BK230.out 4; have hfz29_5 := blk_frozen BK230.out 5; have hfz29_6 := blk_frozen BK230.out 6; have hfz29_7 := blk_frozen BK230.out 7; have hfz29_8 := blk_frozen BK230.out 8))
      go_meet
      case rel => exact ⟨_, (8), (0), ((⟨#[]⟩ : ByteArray)), (y231), (.slice Ao28 y231.length co28), H', ⟨by first | omega | exact Nat.le_refl _⟩, ⟨uN (Kd.N_mono (Kd.N_far (p := ⟨gb230, 4, none⟩) (Kd.N_far (p := ⟨gb230, 3, none⟩) (Kd.N_far (p := ⟨gb230, 2, none⟩) (Kd.N_far (p := ⟨gb230, 1, none⟩) (Kd.N_mono HO223.out (fun k_ hk => (⟨hk, hk.1.2⟩ : _ ∧ k_ ≠ gb230))) (fun _ hk => hk.2) (.int .i64 8)) (fun _ hk => hk.2) (.int .i64 0)) (fun _ hk => hk.2) (.string (⟨#[]⟩ : ByteArray))) (fun _ hk => hk.2) (.slice Ao28 y231.length co28)) (fun _ hk => ⟨hk.1.2, ⟨hk.1.1.1, hk.1.1.2⟩⟩))⟩, ⟨uN (Kd.N_mono (Kd.N_far (p := ⟨gb230, 4, none⟩) (Kd.N_far (p := ⟨gb230, 3, none⟩) (Kd.N_far (p := ⟨gb230, 2, none⟩) (Kd.N_far (p := ⟨gb230, 1, none⟩) (Kd.N_mono HO233.out (fun k_ hk => (⟨hk, hk.2.2⟩ : _ ∧ k_ ≠ gb230))) (fun _ hk => hk.2) (.int .i64 8)) (fun _ hk => hk.2) (.int .i64 0)) (fun _ hk => hk.2) (.string (⟨#[]⟩ : ByteArray))) (fun _ hk => hk.2) (.slice Ao28 y231.length co28)) (fun _ hk => ⟨hk.1.1, ⟨hk.1.2.1, hk.1.2.2⟩⟩))⟩, ⟨by (with_reducible repeat (first | refine blk_drewN ?_ _ | refine blk_drew ?_ | refine blk_alloc ?_ _)); refine blk_far ?_ NB225_230.out _; (with_reducible repeat (first | refine blk_drewN ?_ _ | refine blk_drew ?_ | refine blk_alloc ?_ _)); refine blk_far ?_ NB225_230.out _; (with_reducible repeat (first | refine blk_drewN ?_ _ | refine blk_drew ?_ | refine blk_alloc ?_ _)); refine blk_far ?_ NB225_230.out _; (with_reducible repeat (first | refine blk_drewN ?_ _ | refine blk_drew ?_ | refine blk_alloc ?_ _)); refine blk_far ?_ NB225_230.out _; (with_reducible repeat (first | refine blk_drewN ?_ _ | refine blk_drew ?_ | refine blk_alloc ?_ _)); exact BK225.out⟩, ⟨by (with_reducible repeat (first | refine blk_drewN ?_ _ | refine blk_drew ?_ | refine blk_alloc ?_ _)); refine blk_put (cs := #[.string (rdOf ByteArray.empty y226 (ji8)), .int .i64 8, .int .i64 0, .string (⟨#[]⟩ : ByteArray), .slice none 0 0, .int .i64 1, .int .i64 a1, .string (⟨#[]⟩ : ByteArray), .slice none 0 0]) ?_ 4 _ rfl; (with_reducible repeat (first | refine blk_drewN ?_ _ | refine blk_drew ?_ | refine blk_alloc ?_ _)); refine blk_put (cs := #[.string (rdOf ByteArray.empty y226 (ji8)), .int .i64 8, .int .i64 0, .string (⟨#[]⟩ : ByteArray), .slice none 0 0, .int .i64 1, .int .i64 a1, .string (⟨#[]⟩ : ByteArray), .slice none 0 0]) ?_ 3 _ rfl; (with_reducible repeat (first | refine blk_drewN ?_ _ | refine blk_drew ?_ | refine blk_alloc ?_ _)); refine blk_put (cs := #[.string (rdOf ByteArray.empty y226 (ji8)), .int .i64 8, .int .i64 a0, .string (⟨#[]⟩ : ByteArray), .slice none 0 0, .int .i64 1, .int .i64 a1, .string (⟨#[]⟩ : ByteArray), .slice none 0 0]) ?_ 2 _ rfl; (with_reducible repeat (first | refine blk_drewN ?_ _ | refine blk_drew ?_ | refine blk_alloc ?_ _)); refine blk_put (cs := #[.string (rdOf ByteArray.empty y226 (ji8)), .int .i64 1, .int .i64 a0, .string (⟨#[]⟩ : ByteArray), .slice none 0 0, .int .i64 1, .int .i64 a1, .string (⟨#[]⟩ : ByteArray), .slice none 0 0]) ?_ 1 _ rfl; (with_reducible repeat (first | refine blk_drewN ?_ _ | refine blk_drew ?_ | refine blk_alloc ?_ _)); exact BK230.out⟩, ⟨by repeat (first | (with_reducible first | exact HB.out | apply bA | apply bN | apply bD | refine bS ?_ (by assumption)) | exact HB.out)⟩⟩
     ·rw [if_neg c23] at H
      have c23b0 : ((Int.tmod a3 2) == 1) = false := beq_eq_false_iff_ne.mpr c23
      have c23b1 : ((Int.tmod a3 2) != 1) = true := bne_iff_ne.mpr c23
      (first | rw [c23b0] | (simp only [i64_w, i32_w]; rw [c23b0]) | skip)
      have H' := mk0 H
      clear H
      go_wp2
      go_meet
      case rel => exact ⟨_, (1), (a0), ((⟨#[]⟩ : ByteArray)), (([] : List (S24))), (.slice none 0 0), H', ⟨by first | omega | exact Nat.le_refl _⟩, ⟨uN (Kd.N_mono HO223.out (fun _ hk => ⟨(by simp [Value.ownBlock]), hk⟩))⟩, ⟨by first | exact Kd.R_nil _ _ _ _ _ | exact Kd.N_nil _ _ _ _ _ | exact Kd.V_nil _ _ _ _ _ | exact Kd.Q_nil _ _ _ _ _ | exact Kd.S_nil _ _ _ _ _⟩, ⟨uB BK225.out⟩, ⟨uB BK230.out⟩, ⟨HB.out⟩⟩
    case rest =>
     clear HC11
     try clear c1
     try clear c2
     try clear p2
     try clear q2
     try clear hx2
     try clear c4
     try clear c6
     try clear c7
     try clear c8
     try clear c9
     try clear c9b0
     try clear c10
     try clear c10b0
     try clear c21
     try clear p22
     try clear q22
     try clear hx22
     try clear c23
     try clear c23b0
     try clear c23b1
     try clear c24
     try clear hcz16_0
     try clear hcz16_1
     try clear hcz22_0
     try clear hcz22_1
     try clear hcz22_2
     try clear hcz22_3
     try clear hcz22_4
     try clear hcz22_5
     try clear hcz22_6
     try clear hcz22_7
     try clear hcz22_8
     try clear hcz25_0
     try clear hcz25_1
     try clear hcz25_2
     try clear hcz25_3
     try clear hcz25_4
     try clear hcz25_5
     try clear hcz25_6
     try clear hcz25_7
     try clear hcz25_8
     try clear hcz29_0
     try clear hcz29_1
     try clear hcz29_2
     try clear hcz29_3
     try clear hcz29_4
     try clear hcz29_5
     try clear hcz29_6
     try clear hcz29_7
     try clear hcz29_8
     try clear hfz16_0
     try clear hfz16_1
     try clear hfz22_0
     try clear hfz22_1
     try clear hfz22_2
     try clear hfz22_3
     try clear hfz22_4
     try clear hfz22_5
     try clear hfz22_6
     try clear hfz22_7
     try clear hfz22_8
     try clear hfz25_0
     try clear hfz25_1
     try clear hfz25_2
     try clear hfz25_3
     try clear hfz25_4
     try clear hfz25_5
     try clear hfz25_6
     try clear hfz25_7
     try clear hfz25_8
     try clear hfz29_0
     try clear hfz29_1
     try clear hfz29_2
     try clear hfz29_3
     try clear hfz29_4
     try clear hfz29_5
     try clear hfz29_6
     try clear hfz29_7
     try clear hfz29_8
     try clear hx229_0
     try clear p229
     try clear q229
     obtain ⟨kq, x231001_10, x231002_10, x231003_10, x231004_10, u231004, HA, HJ10, HO_226000, HO_231004, BK225, BK230, HB⟩ := hcut
     cases kq with
     | zero => exact absurd HA.out (by simp [furrowlaw9_EvalConds.j0])
     | succ kj10 =>
      have H := HA.out
      clear HA
      simp only [furrowlaw9_EvalConds.j0] at H
      have HC30 := mk0 H
      clear H
      go_upto_if 41 with (fail)
      go_cut [] (fun wc => ∃ (kq : Nat) (x231005_29 : Int) (x231006_29 : Int) (x231007_29 : ByteArray) (x231008_29 : List (S24)) (u231008 : Value), Aside0 (furrowlaw9_EvalConds.j1 kq a0 a1 a2 a3 t221 t224 (rdOf ByteArray.empty y226 (ji8)) x231001_10 x231002_10 x231003_10 x231004_10 x231005_29 x231006_29 x231007_29 x231008_29 = some true) ∧ Aside0 (kq ≤ kj10) ∧ Aside0 (Kd.N k71 71 wc w.heap.size (fun k_ => some k_ ≠ (u231004 : Value).ownBlock ∧ some k_ ≠ (u231008 : Value).ownBlock ∧ k_ ≠ gb225 ∧ k_ ≠ gb230) (.slice Ao15 t221.length co15) t221) ∧ Aside0 (Kd.N k24 24 wc w.heap.size (fun k_ => some k_ ≠ ((.slice Ao15 t221.length co15) : Value).ownBlock ∧ some k_ ≠ (u231008 : Value).ownBlock ∧ k_ ≠ gb225 ∧ k_ ≠ gb230) u231004 x231004_10) ∧ Aside0 (Kd.N k24 24 wc w.heap.size (fun k_ => some k_ ≠ ((.slice Ao15 t221.length co15) : Value).ownBlock ∧ some k_ ≠ (u231004 : Value).ownBlock ∧ k_ ≠ gb225 ∧ k_ ≠ gb230) u231008 x231008_29) ∧ Aside0 (wc.heap[gb225]? = some (.cells #[(.slice Ao15 t221.length co15), .int .i64 t224] 29 (0, 0))) ∧ Aside0 (wc.heap[gb230]? = some (.cells #[.string (rdOf ByteArray.empty y226 (ji8)), .int .i64 x231001_10, .int .i64 x231002_10, .string x231003_10, u231004, .int .i64 x231005_29, .int .i64 x231006_29, .string x231007_29, u231008] 57 (0, 0))) ∧ Aside0 (Below w.heap.size w wc))
      case first =>
       have H := HC30.out
       clear HC30
       by_cases c31 : (((Int.tdiv a3 2) % 256) % 2) = 1
       ·rw [if_pos c31] at H
        have c31b0 : ((((Int.tdiv a3 2) % 256) % 2) == 1) = true := beq_iff_eq.mpr c31
        have c31b1 : ((((Int.tdiv a3 2) % 256) % 2) != 1) = false := bne_eq_false_iff_eq.mpr c31
        clear c31
        (first | rw [c31b0] | (simp only [i64_w, i32_w]; rw [c31b0]) | skip)
        obtain ⟨y234, hy234⟩ : ∃ y_ : List (S24), y_ = (([(⟨1, 9, (⟨#[]⟩ : ByteArray), ([] : List (S24))⟩ : S24)] : List (S24))) := ⟨_, rfl⟩
        replace H : (furrowlaw9_EvalConds.j1 kj10 a0 a1 a2 a3 t221 t224 (rdOf ByteArray.empty y226 (ji8)) x231001_10 x231002_10 x231003_10 x231004_10 3 0 (⟨#[97]⟩ : ByteArray) y234) = some true := by first | (rw [hy234]; with_reducible exact H) | (have H2_ := (Option.bind_some _ _).symm.trans H; rw [hy234]; with_reducible exact H2_) | (have H2_ := (Option.bind_some _ _).symm.trans H; with_reducible exact H2_) | with_reducible exact H | (rw [hy234]; exact H) | exact H
        have Ny234 := mk0 hy234
        clear hy234
        have H' := mk0 H
        clear H
        go_wp2_with (first | ((with_reducible refine gate_dst (N := 43) rfl ?_); refine Kd.N_lit k24 _ 24 ?hg (N' := 43) ?hd (xs := ([(⟨1, 9, (⟨#[]⟩ : ByteArray), ([] : List (S24))⟩ : S24)] : List (S24))) (inner := [.int .i64 1, .int .i64 9, .string (⟨#[]⟩ : ByteArray), .slice none 0 0]) (ok := (fun k_ => some k_ ≠ (.slice Ao15 t221.length co15 : Value).ownBlock ∧ some k_ ≠ (u231004 : Value).ownBlock ∧ k_ ≠ gb225 ∧ k_ ≠ gb230)) (okp := (fun k_ => some k_ ≠ (.slice Ao15 t221.length co15 : Value).ownBlock ∧ some k_ ≠ (u231004 : Value).ownBlock ∧ k_ ≠ gb225 ∧ k_ ≠ gb230)) ?hr ?hp (fun _ hk => hk) ((show ∀ k_, wc.heap.size ≤ k_ → (fun k_ => some k_ ≠ (.slice Ao15 t221.length co15 : Value).ownBlock ∧ some k_ ≠ (u231004 : Value).ownBlock ∧ k_ ≠ gb225 ∧ k_ ≠ gb230) k_ from fun k_ hk => ⟨Kd.fresh' (Kd.N_lt (uN HO_226000.out)) k_ hk, Kd.fresh' (Kd.N_lt (uN HO_231004.out)) k_ hk, Kd.freshB (g := gb225) (o := .cells #[.slice Ao15 t221.length co15, .int .i64 t224] 29 (0, 0)) (uB BK225.out) k_ hk, Kd.freshB (g := gb230) (o := .cells #[.string (rdOf ByteArray.empty y226 (ji8)), .int .i64 x231001_10, .int .i64 x231002_10, .string x231003_10, u231004, .int .i64 1, .int .i64 a1, .string (⟨#[]⟩ : ByteArray), .slice none 0 0] 57 (0, 0)) (uB BK230.out) k_ hk⟩) _ (Nat.le_refl _)) (Below.refl _ _) (Nat.le_refl _) (by simp) ?_; (case hd => rfl); (case hg => rfl); (case hr => first | (go_simp; done) | (go_simp; rfl)); (case hp => exact (Reps.c4 (show Kd.FK k24 _ _ (⟨1, 9, (⟨#[]⟩ : ByteArray), ([] : List (S24))⟩ : S24) [.int .i64 1, .int .i64 9, .string (⟨#[]⟩ : ByteArray), .slice none 0 0] from (k24_mkF _ _ (⟨1, 9, (⟨#[]⟩ : ByteArray), ([] : List (S24))⟩ : S24) (Nat.le_refl _) (Kd.F_nil _ _ _))) (Reps.none _ _))); intro v235 w32 ho33 hb hg_ hnew_; clear hg_ hnew_; (first | rw [← Ny234.out] at ho33 | (simp only [Int.reduceToNat] at ho33; rw [← Ny234.out] at ho33)); have n0_ := mk0 (Kd.N_elder' (uN HO_226000.out) (Kd.N_base ho33) hb); have n1_ := mk0 (Kd.N_elder' (uN HO_231004.out) (Kd.N_base ho33) hb); have n2_ := mk0 (Kd.N_lower ho33 (below_size (by repeat (first | (with_reducible first | exact HB.out | apply bA | apply bN | apply bD | refine bS ?_ (by assumption)) | exact HB.out)))); have n3_ := mk0 (blk_below (g := gb225) (o := .cells #[.slice Ao15 t221.length co15, .int .i64 t224] 29 (0, 0)) (uB BK225.out) hb); have n4_ := mk0 (blk_below (g := gb230) (o := .cells #[.string (rdOf ByteArray.empty y226 (ji8)), .int .i64 x231001_10, .int .i64 x231002_10, .string x231003_10, u231004, .int .i64 1, .int .i64 a1, .string (⟨#[]⟩ : ByteArray), .slice none 0 0] 57 (0, 0)) (uB BK230.out) hb); have n5_ := mk0 (below_step (by repeat (first | (with_reducible first | exact HB.out | apply bA | apply bN | apply bD | refine bS ?_ (by assumption)) | exact HB.out)) hb); clear HO_226000; clear HO_231004; clear BK225; clear BK230; clear HB; have HO_226000 := n0_; have HO_231004 := n1_; have HO236 := n2_; have BK225 := n3_; have BK230 := n4_; have HB := n5_; clear n0_ n1_ n2_ n3_ n4_ n5_; clear hb ho33; obtain ⟨Ao34, co34, eo34⟩ := Kd.N_slice HO236.out; subst eo34; have hnb35 := NB230_225.out; have hnc35 := NB225_230.out; have hcz36_0 : w32.cell? ⟨gb230, 0, none⟩ = some (.string (rdOf ByteArray.empty y226 (ji8))) := (blk_cell BK230.out 0).trans rfl; have hcz36_1 : w32.cell? ⟨gb230, 1, none⟩ = some (.int .i64 x231001_10) := (blk_cell BK230.out 1).trans rfl; have hcz36_2 : w32.cell? ⟨gb230, 2, none⟩ = some (.int .i64 x231002_10) := (blk_cell BK230.out 2).trans rfl; have hcz36_3 : w32.cell? ⟨gb230, 3, none⟩ = some (.string x231003_10) := (blk_cell BK230.out 3).trans rfl; have hcz36_4 : w32.cell? ⟨gb230, 4, none⟩ = some (u231004) := (blk_cell BK230.out 4).trans rfl; have hcz36_5 : w32.cell? ⟨gb230, 5, none⟩ = some (.int .i64 1) := (blk_cell BK230.out 5).trans rfl; have hcz36_6 : w32.cell? ⟨gb230, 6, none⟩ = some (.int .i64 a1) := (blk_cell BK230.out 6).trans rfl; have hcz36_7 : w32.cell? ⟨gb230, 7, none⟩ = some (.string (⟨#[]⟩ : ByteArray)) := (blk_cell BK230.out 7).trans rfl; have hcz36_8 : w32.cell? ⟨gb230, 8, none⟩ = some (.slice none 0 0) := (blk_cell BK230.out 8).trans rfl; have hfz36_0 := blk_frozen BK230.out 0; have hfz36_1 := blk_frozen BK230.out 1; have hfz36_2 := blk_frozen BK230.out 2; have hfz36_3 := blk_frozen BK230.out 3; have hfz36_4 := blk_frozen BK230.out 4; have hfz36_5 := blk_frozen BK230.out 5; have hfz36_6 := blk_frozen BK230.out 6; have hfz36_7 := blk_frozen BK230.out 7; have hfz36_8 := blk_frozen BK230.out 8))
        go_meet
        case rel => exact ⟨_, (3), (0), ((⟨#[97]⟩ : ByteArray)), (y234), (.slice Ao34 y234.length co34), H', ⟨by have := HJ10.out; first | omega | exact Nat.le_refl _⟩, ⟨uN (Kd.N_mono (Kd.N_far (p := ⟨gb230, 8, none⟩) (Kd.N_far (p := ⟨gb230, 7, none⟩) (Kd.N_far (p := ⟨gb230, 6, none⟩) (Kd.N_far (p := ⟨gb230, 5, none⟩) (Kd.N_mono HO_226000.out (fun k_ hk => (⟨hk, hk.1.2.2⟩ : _ ∧ k_ ≠ gb230))) (fun _ hk => hk.2) (.int .i64 3)) (fun _ hk => hk.2) (.int .i64 0)) (fun _ hk => hk.2) (.string (⟨#[97]⟩ : ByteArray))) (fun _ hk => hk.2) (.slice Ao34 y234.length co34)) (fun _ hk => ⟨hk.1.1.1, ⟨hk.1.2, ⟨hk.1.1.2.1, hk.1.1.2.2⟩⟩⟩))⟩, ⟨uN (Kd.N_mono (Kd.N_far (p := ⟨gb230, 8, none⟩) (Kd.N_far (p := ⟨gb230, 7, none⟩) (Kd.N_far (p := ⟨gb230, 6, none⟩) (Kd.N_far (p := ⟨gb230, 5, none⟩) (Kd.N_mono HO_231004.out (fun k_ hk => (⟨hk, hk.1.2.2⟩ : _ ∧ k_ ≠ gb230))) (fun _ hk => hk.2) (.int .i64 3)) (fun _ hk => hk.2) (.int .i64 0)) (fun _ hk => hk.2) (.string (⟨#[97]⟩ : ByteArray))) (fun _ hk => hk.2) (.slice Ao34 y234.length co34)) (fun _ hk => ⟨hk.1.1.1, ⟨hk.1.2, ⟨hk.1.1.2.1, hk.1.1.2.2⟩⟩⟩))⟩, ⟨uN (Kd.N_mono (Kd.N_far (p := ⟨gb230, 8, none⟩) (Kd.N_far (p := ⟨gb230, 7, none⟩) (Kd.N_far (p := ⟨gb230, 6, none⟩) (Kd.N_far (p := ⟨gb230, 5, none⟩) (Kd.N_mono HO236.out (fun k_ hk => (⟨hk, hk.2.2.2⟩ : _ ∧ k_ ≠ gb230))) (fun _ hk => hk.2) (.int .i64 3)) (fun _ hk => hk.2) (.int .i64 0)) (fun _ hk => hk.2) (.string (⟨#[97]⟩ : ByteArray))) (fun _ hk => hk.2) (.slice Ao34 y234.length co34)) (fun _ hk => ⟨hk.1.1, ⟨hk.1.2.1, ⟨hk.1.2.2.1, hk.1.2.2.2⟩⟩⟩))⟩, ⟨by (with_reducible repeat (first | refine blk_drewN ?_ _ | refine blk_drew ?_ | refine blk_alloc ?_ _)); refine blk_far ?_ NB225_230.out _; (with_reducible repeat (first | refine blk_drewN ?_ _ | refine blk_drew ?_ | refine blk_alloc ?_ _)); refine blk_far ?_ NB225_230.out _; (with_reducible repeat (first | refine blk_drewN ?_ _ | refine blk_drew ?_ | refine blk_alloc ?_ _)); refine blk_far ?_ NB225_230.out _; (with_reducible repeat (first | refine blk_drewN ?_ _ | refine blk_drew ?_ | refine blk_alloc ?_ _)); refine blk_far ?_ NB225_230.out _; (with_reducible repeat (first | refine blk_drewN ?_ _ | refine blk_drew ?_ | refine blk_alloc ?_ _)); exact BK225.out⟩, ⟨by (with_reducible repeat (first | refine blk_drewN ?_ _ | refine blk_drew ?_ | refine blk_alloc ?_ _)); refine blk_put (cs := #[.string (rdOf ByteArray.empty y226 (ji8)), .int .i64 x231001_10, .int .i64 x231002_10, .string x231003_10, u231004, .int .i64 3, .int .i64 0, .string (⟨#[97]⟩ : ByteArray), .slice none 0 0]) ?_ 8 _ rfl; (with_reducible repeat (first | refine blk_drewN ?_ _ | refine blk_drew ?_ | refine blk_alloc ?_ _)); refine blk_put (cs := #[.string (rdOf ByteArray.empty y226 (ji8)), .int .i64 x231001_10, .int .i64 x231002_10, .string x231003_10, u231004, .int .i64 3, .int .i64 0, .string (⟨#[]⟩ : ByteArray), .slice none 0 0]) ?_ 7 _ rfl; (with_reducible repeat (first | refine blk_drewN ?_ _ | refine blk_drew ?_ | refine blk_alloc ?_ _)); refine blk_put (cs := #[.string (rdOf ByteArray.empty y226 (ji8)), .int .i64 x231001_10, .int .i64 x231002_10, .string x231003_10, u231004, .int .i64 3, .int .i64 a1, .string (⟨#[]⟩ : ByteArray), .slice none 0 0]) ?_ 6 _ rfl; (with_reducible repeat (first | refine blk_drewN ?_ _ | refine blk_drew ?_ | refine blk_alloc ?_ _)); refine blk_put (cs := #[.string (rdOf ByteArray.empty y226 (ji8)), .int .i64 x231001_10, .int .i64 x231002_10, .string x231003_10, u231004, .int .i64 1, .int .i64 a1, .string (⟨#[]⟩ : ByteArray), .slice none 0 0]) ?_ 5 _ rfl; (with_reducible repeat (first | refine blk_drewN ?_ _ | refine blk_drew ?_ | refine blk_alloc ?_ _)); exact BK230.out⟩, ⟨by repeat (first | (with_reducible first | exact HB.out | apply bA | apply bN | apply bD | refine bS ?_ (by assumption)) | exact HB.out)⟩⟩
       ·rw [if_neg c31] at H
        have c31b0 : ((((Int.tdiv a3 2) % 256) % 2) == 1) = false := beq_eq_false_iff_ne.mpr c31
        have c31b1 : ((((Int.tdiv a3 2) % 256) % 2) != 1) = true := bne_iff_ne.mpr c31
        (first | rw [c31b0] | (simp only [i64_w, i32_w]; rw [c31b0]) | skip)
        have H' := mk0 H
        clear H
        go_wp2
        go_meet
        case rel => exact ⟨_, (1), (a1), ((⟨#[]⟩ : ByteArray)), (([] : List (S24))), (.slice none 0 0), H', ⟨by have := HJ10.out; first | omega | exact Nat.le_refl _⟩, ⟨uN (Kd.N_mono HO_226000.out (fun _ hk => ⟨hk.1, ⟨(by simp [Value.ownBlock]), ⟨hk.2.1, hk.2.2⟩⟩⟩))⟩, ⟨uN (Kd.N_mono HO_231004.out (fun _ hk => ⟨hk.1, ⟨(by simp [Value.ownBlock]), ⟨hk.2.1, hk.2.2⟩⟩⟩))⟩, ⟨by first | exact Kd.R_nil _ _ _ _ _ | exact Kd.N_nil _ _ _ _ _ | exact Kd.V_nil _ _ _ _ _ | exact Kd.Q_nil _ _ _ _ _ | exact Kd.S_nil _ _ _ _ _⟩, ⟨uB BK225.out⟩, ⟨uB BK230.out⟩, ⟨by repeat (first | (with_reducible first | exact HB.out | apply bA | apply bN | apply bD | refine bS ?_ (by assumption)) | exact HB.out)⟩⟩
      case rest =>
       clear HC30
       try clear c1
       try clear c2
       try clear p2
       try clear q2
       try clear hx2
       try clear c3
       try clear c4
       try clear c6
       try clear c7
       try clear c8
       try clear c9
       try clear c9b0
       try clear c10
       try clear c10b0
       try clear c21
       try clear p22
       try clear q22
       try clear hx22
       try clear c23
       try clear c23b0
       try clear c23b1
       try clear c24
       try clear c31
       try clear c31b0
       try clear c31b1
       try clear c35
       try clear hcz16_0
       try clear hcz16_1
       try clear hcz22_0
       try clear hcz22_1
       try clear hcz22_2
       try clear hcz22_3
       try clear hcz22_4
       try clear hcz22_5
       try clear hcz22_6
       try clear hcz22_7
       try clear hcz22_8
       try clear hcz25_0
       try clear hcz25_1
       try clear hcz25_2
       try clear hcz25_3
       try clear hcz25_4
       try clear hcz25_5
       try clear hcz25_6
       try clear hcz25_7
       try clear hcz25_8
       try clear hcz29_0
       try clear hcz29_1
       try clear hcz29_2
       try clear hcz29_3
       try clear hcz29_4
       try clear hcz29_5
       try clear hcz29_6
       try clear hcz29_7
       try clear hcz29_8
       try clear hcz36_0
       try clear hcz36_1
       try clear hcz36_2
       try clear hcz36_3
       try clear hcz36_4
       try clear hcz36_5
       try clear hcz36_6
       try clear hcz36_7
       try clear hcz36_8
       try clear hfz16_0
       try clear hfz16_1
       try clear hfz22_0
       try clear hfz22_1
       try clear hfz22_2
       try clear hfz22_3
       try clear hfz22_4
       try clear hfz22_5
       try clear hfz22_6
       try clear hfz22_7
       try clear hfz22_8
       try clear hfz25_0
       try clear hfz25_1
       try clear hfz25_2
       try clear hfz25_3
       try clear hfz25_4
       try clear hfz25_5
       try clear hfz25_6
       try clear hfz25_7
       try clear hfz25_8
       try clear hfz29_0
       try clear hfz29_1
       try clear hfz29_2
       try clear hfz29_3
       try clear hfz29_4
       try clear hfz29_5
       try clear hfz29_6
       try clear hfz29_7
       try clear hfz29_8
       try clear hfz36_0
       try clear hfz36_1
       try clear hfz36_2
       try clear hfz36_3
       try clear hfz36_4
       try clear hfz36_5
       try clear hfz36_6
       try clear hfz36_7
       try clear hfz36_8
       try clear hx229_0
       try clear p2
       try clear p22
       try clear p229
       try clear q2
       try clear q22
       try clear q229
       obtain ⟨kq, x231005_29, x231006_29, x231007_29, x231008_29, u231008, HA, HJ29, HO_226000, HO_231004, HO_231008, BK225, BK230, HB⟩ := hcut
       cases kq with
       | zero => exact absurd HA.out (by simp [furrowlaw9_EvalConds.j1])
       | succ kj29 =>
        have H := HA.out
        clear HA
        simp only [furrowlaw9_EvalConds.j1] at H
        replace H := Option.bind_eq_some_iff.mp H
        obtain ⟨⟨t237, t240⟩, A370, H⟩ := H
        replace H : ((furrowlaw9_store.f kj29 t221 t224 ([] : List Int)).bind fun t241 => ((eval_Holds.f kj29 t237 t240 t241 (rdOf ByteArray.empty y226 (ji8)) x231001_10 x231002_10 x231003_10 x231004_10 x231005_29 x231006_29 x231007_29 x231008_29).bind fun bt244 => (if (Int.tmod a3 2) = 1 then (if bt244.1 = true then (some false) else ((furrowref4_At.f (⟨#[100, 105, 118]⟩ : ByteArray) 0 13).bind fun bt248 => ((furrowlaw2_Tells.f bt244.2 bt248.1 bt248.2).bind fun t252 => (some t252)))) else (if (((Int.tdiv a3 2) % 256) % 2) = 1 then (if bt244.1 = true then (some false) else ((furrowref4_At.f (⟨#[115, 117, 98, 115, 99, 114, 105, 112, 116]⟩ : ByteArray) 0 14).bind fun bt253 => ((furrowlaw2_Tells.f bt244.2 bt253.1 bt253.2).bind fun t257 => (some t257)))) else ((some (([decide (a0 < a1), decide (a0 ≤ a1), decide (a0 > a1), decide (a0 ≥ a1), (a0 == a1), (a0 != a1)] : List Bool) : List Bool)).bind fun y258 => (if (bt244.2.length : Int) = 0 then (if 0 ≤ (Int.tmod a2 6) then (if (Int.tmod a2 6) < (y258.length : Int) then (some (bt244.1 == (rdOf false y258 (Int.tmod a2 6)))) else (none)) else (none)) else (some false))))))) = some true := H
        have A37 := mk0 A370
        clear A370
        replace H := Option.bind_eq_some_iff.mp H
        obtain ⟨t241, A380, H⟩ := H
        replace H : ((eval_Holds.f kj29 t237 t240 t241 (rdOf ByteArray.empty y226 (ji8)) x231001_10 x231002_10 x231003_10 x231004_10 x231005_29 x231006_29 x231007_29 x231008_29).bind fun bt244 => (if (Int.tmod a3 2) = 1 then (if bt244.1 = true then (some false) else ((furrowref4_At.f (⟨#[100, 105, 118]⟩ : ByteArray) 0 13).bind fun bt248 => ((furrowlaw2_Tells.f bt244.2 bt248.1 bt248.2).bind fun t252 => (some t252)))) else (if (((Int.tdiv a3 2) % 256) % 2) = 1 then (if bt244.1 = true then (some false) else ((furrowref4_At.f (⟨#[115, 117, 98, 115, 99, 114, 105, 112, 116]⟩ : ByteArray) 0 14).bind fun bt253 => ((furrowlaw2_Tells.f bt244.2 bt253.1 bt253.2).bind fun t257 => (some t257)))) else ((some (([decide (a0 < a1), decide (a0 ≤ a1), decide (a0 > a1), decide (a0 ≥ a1), (a0 == a1), (a0 != a1)] : List Bool) : List Bool)).bind fun y258 => (if (bt244.2.length : Int) = 0 then (if 0 ≤ (Int.tmod a2 6) then (if (Int.tmod a2 6) < (y258.length : Int) then (some (bt244.1 == (rdOf false y258 (Int.tmod a2 6)))) else (none)) else (none)) else (some false)))))) = some true := H
        have A38 := mk0 A380
        clear A380
        replace H := Option.bind_eq_some_iff.mp H
        obtain ⟨⟨t244, t245⟩, A390, H⟩ := H
        replace H : (if (Int.tmod a3 2) = 1 then (if t244 = true then (some false) else ((furrowref4_At.f (⟨#[100, 105, 118]⟩ : ByteArray) 0 13).bind fun bt248 => ((furrowlaw2_Tells.f t245 bt248.1 bt248.2).bind fun t252 => (some t252)))) else (if (((Int.tdiv a3 2) % 256) % 2) = 1 then (if t244 = true then (some false) else ((furrowref4_At.f (⟨#[115, 117, 98, 115, 99, 114, 105, 112, 116]⟩ : ByteArray) 0 14).bind fun bt253 => ((furrowlaw2_Tells.f t245 bt253.1 bt253.2).bind fun t257 => (some t257)))) else ((some (([decide (a0 < a1), decide (a0 ≤ a1), decide (a0 > a1), decide (a0 ≥ a1), (a0 == a1), (a0 != a1)] : List Bool) : List Bool)).bind fun y258 => (if (t245.length : Int) = 0 then (if 0 ≤ (Int.tmod a2 6) then (if (Int.tmod a2 6) < (y258.length : Int) then (some (t244 == (rdOf false y258 (Int.tmod a2 6)))) else (none)) else (none)) else (some false))))) = some true := H
        have A39 := mk0 A390
        clear A390
        by_cases c40 : (Int.tmod a3 2) = 1
        ·rw [if_pos c40] at H
         have c40b0 : ((Int.tmod a3 2) == 1) = true := beq_iff_eq.mpr c40
         have c40b1 : ((Int.tmod a3 2) != 1) = false := bne_eq_false_iff_eq.mpr c40
         clear c40
         by_cases c41 : t244 = true
         ·subst c41
          have H1 : (some false) = some true := by rw [if_pos rfl] at H; first | done | exact H
          clear H
          have H := H1
          clear H1
          exact absurd H (by simp)
         ·replace c41 := Bool.eq_false_iff.mpr c41
          subst c41
          have H1 : ((furrowref4_At.f (⟨#[100, 105, 118]⟩ : ByteArray) 0 13).bind fun bt248 => ((furrowlaw2_Tells.f t245 bt248.1 bt248.2).bind fun t252 => (some t252))) = some true := by rw [if_neg (show ¬ (false = true) by decide)] at H; first | done | exact H
          clear H
          have H := H1
          clear H1
          replace H := Option.bind_eq_some_iff.mp H
          obtain ⟨⟨t248, t251⟩, A420, H⟩ := H
          replace H : ((furrowlaw2_Tells.f t245 t248 t251).bind fun t252 => (some t252)) = some true := H
          have A42 := mk0 A420
          clear A420
          replace H := Option.bind_eq_some_iff.mp H
          obtain ⟨t252, A430, H⟩ := H
          replace H : (some t252) = some true := H
          have A43 := mk0 A430
          clear A430
          have HT := mk0 (Option.some.inj H)
          clear H
          try go_wp2
          have n0_ := mk0 (Kd.N_drew HO_226000.out)
          have n1_ := mk0 (Kd.N_drew HO_231004.out)
          have n2_ := mk0 (Kd.N_drew HO_231008.out)
          have n3_ := mk0 (blk_drew BK225.out)
          have n4_ := mk0 (blk_drew BK230.out)
          have n5_ := mk0 (below_drew1 HB.out)
          clear HO_226000
          clear HO_231004
          clear HO_231008
          clear BK225
          clear BK230
          clear HB
          have HO_226000 := n0_
          have HO_231004 := n1_
          have HO_231008 := n2_
          have BK225 := n3_
          have BK230 := n4_
          have HB := n5_
          clear n0_ n1_ n2_ n3_ n4_ n5_
          refine start_ (n := 11) (S := fun w' => w'.cell? ⟨gb225, 0, none⟩ = some (.slice Ao15 t221.length co15) ∧ w'.cell? ⟨gb225, 1, none⟩ = some (.int .i64 t224) ∧ w'.cell? ⟨gb230, 0, none⟩ = some (.string (rdOf ByteArray.empty y226 (ji8))) ∧ w'.cell? ⟨gb230, 1, none⟩ = some (.int .i64 x231001_10) ∧ w'.cell? ⟨gb230, 2, none⟩ = some (.int .i64 x231002_10) ∧ w'.cell? ⟨gb230, 3, none⟩ = some (.string x231003_10) ∧ w'.cell? ⟨gb230, 4, none⟩ = some (u231004) ∧ w'.cell? ⟨gb230, 5, none⟩ = some (.int .i64 x231005_29) ∧ w'.cell? ⟨gb230, 6, none⟩ = some (.int .i64 x231006_29) ∧ w'.cell? ⟨gb230, 7, none⟩ = some (.string x231007_29) ∧ w'.cell? ⟨gb230, 8, none⟩ = some (u231008)) (ds := []) #[false, false, false, false, false, false, false, false, false, false, false] (by kernel_rfl) rfl rfl ⟨(blk_cell BK225.out 0).trans rfl, (blk_cell BK225.out 1).trans rfl, (blk_cell BK230.out 0).trans rfl, (blk_cell BK230.out 1).trans rfl, (blk_cell BK230.out 2).trans rfl, (blk_cell BK230.out 3).trans rfl, (blk_cell BK230.out 4).trans rfl, (blk_cell BK230.out 5).trans rfl, (blk_cell BK230.out 6).trans rfl, (blk_cell BK230.out 7).trans rfl, (blk_cell BK230.out 8).trans rfl⟩ (fun hHeld => ?_); refine with_tabW furrowlaw9_EvalConds.tab10 furrowlaw9_EvalConds.bits10 (fun HT_ HW_ => ?_)
          generalize wc.drew = w44 at HO_226000 HO_231004 HO_231008 BK225 BK230 HB hHeld ⊢
          refine take_ (i := 0) (N := some 47) (v := ?_) (a' := ?_) #[true, false, false, false, false, false, false, false, false, false, false] rfl rfl (take_ofW HT_.out HW_.out (by kernel_rfl)) (fun _ _ _ h => h) (Or.inl ⟨by rfl, ?_⟩) hHeld ?_ ?_
          rotate_left
          ·rintro w' ⟨s0, s1, s2, s3, s4, s5, s6, s7, s8, s9, s10⟩
           go_simp
           with_reducible rfl
          rotate_left
          ·simp only [Act.put, List.setIfInBounds_toArray, List.set_cons_zero, List.set_cons_succ, i64_w, i32_w]
           rfl
          refine take_ (i := 2) (N := some 49) (v := ?_) (a' := ?_) #[true, false, true, false, false, false, false, false, false, false, false] rfl rfl (take_ofW HT_.out HW_.out (by kernel_rfl)) (fun _ _ _ h => h) (Or.inl ⟨by rfl, ?_⟩) hHeld ?_ ?_
          rotate_left
          ·rintro w' ⟨s0, s1, s2, s3, s4, s5, s6, s7, s8, s9, s10⟩
           go_simp
           with_reducible rfl
          rotate_left
          ·simp only [Act.put, List.setIfInBounds_toArray, List.set_cons_zero, List.set_cons_succ, i64_w, i32_w]
           rfl
          refine take_ (i := 4) (N := some 51) (v := ?_) (a' := ?_) #[true, false, true, false, true, false, false, false, false, false, false] rfl rfl (take_ofW HT_.out HW_.out (by kernel_rfl)) (fun _ _ _ h => h) (Or.inl ⟨by rfl, ?_⟩) hHeld ?_ ?_
          rotate_left
          ·rintro w' ⟨s0, s1, s2, s3, s4, s5, s6, s7, s8, s9, s10⟩
           go_simp
           with_reducible rfl
          rotate_left
          ·simp only [Act.put, List.setIfInBounds_toArray, List.set_cons_zero, List.set_cons_succ, i64_w, i32_w]
           rfl
          refine one_ (i := 1) (N := some 48) #[true, true, true, false, true, false, false, false, false, false, false] rfl rfl (one_of HT_.out (by kernel_rfl)) (by decide) (fun K hK => ?_)
          refine goes_ Tryd.func15 (by kernel_rfl) rfl #[.agg #[.slice Ao15 t221.length co15, .int .i64 t224]] (by rfl) rfl rfl (by (try simp only [List.map_toArray, List.map_cons, List.map_nil]); first | done | rfl | (simp only [List.length_drop, List.length_take]; rfl)) ?_
          with_reducible refine (furrowlaw8_To.calls kj29 (fun k_ => (some k_ ≠ (u231004 : Value).ownBlock ∧ (some k_ ≠ (u231008 : Value).ownBlock ∧ (k_ ≠ gb225 ∧ k_ ≠ gb230)))) _ _ t221 t224 t237 t240 _ ?side1 A37.out).mono ?_
          (case side1 => exact Kd.N_V (HO_226000.out))
          rintro e w45 ⟨v238, rfl, ho0, hb⟩
          refine ⟨_, rfl, ?_⟩
          have n0_ := mk0 (Kd.N_elder' (uN HO_226000.out) (Kd.N_base ho0) hb)
          have n1_ := mk0 (Kd.N_elder' (uN HO_231004.out) (Kd.N_base ho0) hb)
          have n2_ := mk0 (Kd.N_elder' (uN HO_231008.out) (Kd.N_base ho0) hb)
          have n3_ := mk0 (Kd.N_lower (Kd.N_mono (ok' := fun k_ => some k_ ≠ (u231004 : Value).ownBlock ∧ some k_ ≠ (u231008 : Value).ownBlock ∧ k_ ≠ gb225 ∧ k_ ≠ gb230) ho0 (fun k_ hk_ => ⟨Or.elim hk_ (fun hs_ => hs_.1) (fun hn_ => (Kd.fresh' (Kd.N_lt (uN HO_231004.out)) k_ hn_)), Or.elim hk_ (fun hs_ => hs_.2.1) (fun hn_ => (Kd.fresh' (Kd.N_lt (uN HO_231008.out)) k_ hn_)), Or.elim hk_ (fun hs_ => hs_.2.2.1) (fun hn_ => (Kd.freshB (g := gb225) (o := .cells #[.slice Ao15 t221.length co15, .int .i64 t224] 29 (0, 0)) (uB BK225.out) k_ hn_)), Or.elim hk_ (fun hs_ => hs_.2.2.2) (fun hn_ => (Kd.freshB (g := gb230) (o := .cells #[.string (rdOf ByteArray.empty y226 (ji8)), .int .i64 x231001_10, .int .i64 x231002_10, .string x231003_10, u231004, .int .i64 x231005_29, .int .i64 x231006_29, .string x231007_29, u231008] 57 (0, 0)) (uB BK230.out) k_ hn_))⟩)) (below_size (by repeat (first | (with_reducible first | exact HB.out | apply bA | apply bN | apply bD | refine bS ?_ (by assumption)) | exact HB.out))))
          have n4_ := mk0 (blk_below (g := gb225) (o := .cells #[.slice Ao15 t221.length co15, .int .i64 t224] 29 (0, 0)) (uB BK225.out) hb)
          have n5_ := mk0 (blk_below (g := gb230) (o := .cells #[.string (rdOf ByteArray.empty y226 (ji8)), .int .i64 x231001_10, .int .i64 x231002_10, .string x231003_10, u231004, .int .i64 x231005_29, .int .i64 x231006_29, .string x231007_29, u231008] 57 (0, 0)) (uB BK230.out) hb)
          have n6_ := mk0 (below_step (by repeat (first | (with_reducible first | exact HB.out | apply bA | apply bN | apply bD | refine bS ?_ (by assumption)) | exact HB.out)) hb)
          clear HO_226000
          clear HO_231004
          clear HO_231008
          clear BK225
          clear BK230
          clear HB
          have HO_226000 := n0_
          have HO_231004 := n1_
          have HO_231008 := n2_
          have HO239 := n3_
          have BK225 := n4_
          have BK230 := n5_
          have HB := n6_
          clear n0_ n1_ n2_ n3_ n4_ n5_ n6_
          (try clear hb)
          (try clear hb2)
          (try clear hk)
          (try clear hi)
          (try clear ho0)
          refine hK.out _ _ ⟨(blk_cell BK225.out 0).trans rfl, (blk_cell BK225.out 1).trans rfl, (blk_cell BK230.out 0).trans rfl, (blk_cell BK230.out 1).trans rfl, (blk_cell BK230.out 2).trans rfl, (blk_cell BK230.out 3).trans rfl, (blk_cell BK230.out 4).trans rfl, (blk_cell BK230.out 5).trans rfl, (blk_cell BK230.out 6).trans rfl, (blk_cell BK230.out 7).trans rfl, (blk_cell BK230.out 8).trans rfl⟩ (fun hHeld => ?_)
          clear hK K
          refine norm_ (a' := ?_) ?_ ?_
          rotate_left
          ·show Act.put _ (some 48) _ = _
           simp only [Act.put, List.setIfInBounds_toArray, List.set_cons_zero, List.set_cons_succ, i64_w, i32_w]
           rfl
          refine one_ (i := 3) (N := some 50) #[true, true, true, true, true, false, false, false, false, false, false] rfl rfl (one_of HT_.out (by kernel_rfl)) (by decide) (fun K hK => ?_)
          refine goes_ Tryd.func13 (by kernel_rfl) rfl #[.agg #[.slice Ao15 t221.length co15, .int .i64 t224], .slice none 0 0] (by rfl) rfl rfl (by (try simp only [List.map_toArray, List.map_cons, List.map_nil]); first | done | rfl | (simp only [List.length_drop, List.length_take]; rfl)) ?_
          refine (furrowlaw9_store.calls kj29 _ _ t221 t224 _ _ ([] : List Int) t241 _ ?side1 ?side2 ?side3 ?side4 A38.out).mono ?_
          (case side1 => repeat (first | exact (Kd.N_reads' HO_226000.out).2.2 | (with_reducible refine Kd.C_alloc ?_ _) | (with_reducible refine Kd.C_drewN ?_ _) | (with_reducible refine Kd.C_drew ?_)))
          (case side2 => exact (Kd.N_reads' HO_226000.out).2.1)
          (case side3 => exact Kd.C_nil _ _)
          (case side4 => exact Nat.le_refl _)
          rintro e w46 ⟨v242, rfl, ho0, hb⟩
          refine ⟨_, rfl, ?_⟩
          have n0_ := mk0 (Kd.N_elder' (uN HO_226000.out) (Kd.R_base ho0) hb)
          have n1_ := mk0 (Kd.N_elder' (uN HO_231004.out) (Kd.R_base ho0) hb)
          have n2_ := mk0 (Kd.N_elder' (uN HO_231008.out) (Kd.R_base ho0) hb)
          have n3_ := mk0 (Kd.N_elder' (uN HO239.out) (Kd.R_base ho0) hb)
          have n4_ := mk0 (Kd.R_lower ho0 (below_size (by repeat (first | (with_reducible first | exact HB.out | apply bA | apply bN | apply bD | refine bS ?_ (by assumption)) | exact HB.out))))
          have n5_ := mk0 (blk_below (g := gb225) (o := .cells #[.slice Ao15 t221.length co15, .int .i64 t224] 29 (0, 0)) (uB BK225.out) hb)
          have n6_ := mk0 (blk_below (g := gb230) (o := .cells #[.string (rdOf ByteArray.empty y226 (ji8)), .int .i64 x231001_10, .int .i64 x231002_10, .string x231003_10, u231004, .int .i64 x231005_29, .int .i64 x231006_29, .string x231007_29, u231008] 57 (0, 0)) (uB BK230.out) hb)
          have n7_ := mk0 (below_step (by repeat (first | (with_reducible first | exact HB.out | apply bA | apply bN | apply bD | refine bS ?_ (by assumption)) | exact HB.out)) hb)
          clear HO_226000
          clear HO_231004
          clear HO_231008
          clear HO239
          clear BK225
          clear BK230
          clear HB
          have HO_226000 := n0_
          have HO_231004 := n1_
          have HO_231008 := n2_
          have HO239 := n3_
          have HO243 := n4_
          have BK225 := n5_
          have BK230 := n6_
          have HB := n7_
          clear n0_ n1_ n2_ n3_ n4_ n5_ n6_ n7_
          (try clear hb)
          (try clear hb2)
          (try clear hk)
          (try clear hi)
          (try clear ho0)
          obtain ⟨Ao47, co47, eo47⟩ := Kd.N_slice HO239.out
          (first | subst eo47 | (injection eo47 with f1_ f2_ f3_; have f4_ := f1_.symm; have f5_ := f3_.symm; clear f1_ f2_ f3_; subst f4_; subst f5_))
          obtain ⟨Ao48, co48, eo48⟩ := Kd.R_slice HO243.out
          (first | subst eo48 | (injection eo48 with f1_ f2_ f3_; have f4_ := f1_.symm; have f5_ := f3_.symm; clear f1_ f2_ f3_; subst f4_; subst f5_))
          obtain ⟨Ao49, co49, eo49⟩ := Kd.N_slice HO_231004.out
          (first | subst eo49 | (injection eo49 with f1_ f2_ f3_; have f4_ := f1_.symm; have f5_ := f3_.symm; clear f1_ f2_ f3_; subst f4_; subst f5_))
          obtain ⟨Ao50, co50, eo50⟩ := Kd.N_slice HO_231008.out
          (first | subst eo50 | (injection eo50 with f1_ f2_ f3_; have f4_ := f1_.symm; have f5_ := f3_.symm; clear f1_ f2_ f3_; subst f4_; subst f5_))
          refine hK.out _ _ ⟨(blk_cell BK225.out 0).trans rfl, (blk_cell BK225.out 1).trans rfl, (blk_cell BK230.out 0).trans rfl, (blk_cell BK230.out 1).trans rfl, (blk_cell BK230.out 2).trans rfl, (blk_cell BK230.out 3).trans rfl, (blk_cell BK230.out 4).trans rfl, (blk_cell BK230.out 5).trans rfl, (blk_cell BK230.out 6).trans rfl, (blk_cell BK230.out 7).trans rfl, (blk_cell BK230.out 8).trans rfl⟩ (fun hHeld => ?_)
          clear hK K
          refine norm_ (a' := ?_) ?_ ?_
          rotate_left
          ·show Act.put _ (some 50) _ = _
           simp only [Act.put, List.setIfInBounds_toArray, List.set_cons_zero, List.set_cons_succ, i64_w, i32_w]
           rfl
          refine one_ (i := 5) (N := some 52) #[true, true, true, true, true, true, false, false, false, false, false] rfl rfl (one_of HT_.out (by kernel_rfl)) (by decide) (fun K hK => ?_)
          refine goes_ Tryd.func20 (by kernel_rfl) rfl #[.agg #[.slice Ao47 t237.length co47, .int .i64 t240], .slice Ao48 t241.length co48, .agg #[.string (rdOf ByteArray.empty y226 (ji8)), .int .i64 x231001_10, .int .i64 x231002_10, .string x231003_10, .slice Ao49 x231004_10.length co49, .int .i64 x231005_29, .int .i64 x231006_29, .string x231007_29, .slice Ao50 x231008_29.length co50]] (by rfl) rfl rfl (by (try simp only [List.map_toArray, List.map_cons, List.map_nil]); first | done | (simp only [hji8]; rfl) | rfl | (simp only [List.length_drop, List.length_take]; rfl)) ?_
          with_reducible refine (eval_Holds.calls kj29 _ _ t237 t240 _ _ t241 (rdOf ByteArray.empty y226 (ji8)) x231001_10 x231002_10 x231003_10 _ _ x231004_10 x231005_29 x231006_29 x231007_29 _ _ x231008_29 false t245 _ ?side1 ?side2 ?side3 ?side4 ?side5 ?side6 ?side7 ?side8 A39.out).mono ?_
          (case side1 => repeat (first | exact (Kd.N_reads' HO239.out).2.2 | (with_reducible refine Kd.C_alloc ?_ _) | (with_reducible refine Kd.C_drewN ?_ _) | (with_reducible refine Kd.C_drew ?_)))
          (case side2 => exact (Kd.N_reads' HO239.out).2.1)
          (case side3 => repeat (first | exact (Kd.R_reads' HO243.out).2.2 | (with_reducible refine Kd.C_alloc ?_ _) | (with_reducible refine Kd.C_drewN ?_ _) | (with_reducible refine Kd.C_drew ?_)))
          (case side4 => exact (Kd.R_reads' HO243.out).2.1)
          (case side5 => repeat (first | exact (Kd.N_reads' HO_231004.out).2.2 | (with_reducible refine Kd.C_alloc ?_ _) | (with_reducible refine Kd.C_drewN ?_ _) | (with_reducible refine Kd.C_drew ?_)))
          (case side6 => exact (Kd.N_reads' HO_231004.out).2.1)
          (case side7 => repeat (first | exact (Kd.N_reads' HO_231008.out).2.2 | (with_reducible refine Kd.C_alloc ?_ _) | (with_reducible refine Kd.C_drewN ?_ _) | (with_reducible refine Kd.C_drew ?_)))
          (case side8 => exact (Kd.N_reads' HO_231008.out).2.1)
          rintro e w51 ⟨v246, rfl, ho0, hb⟩
          refine ⟨_, rfl, ?_⟩
          have n0_ := mk0 (Kd.N_elder' (uN HO_226000.out) (Kd.R_base ho0) hb)
          have n1_ := mk0 (Kd.N_elder' (uN HO_231004.out) (Kd.R_base ho0) hb)
          have n2_ := mk0 (Kd.N_elder' (uN HO_231008.out) (Kd.R_base ho0) hb)
          have n3_ := mk0 (Kd.N_elder' (uN HO239.out) (Kd.R_base ho0) hb)
          have n4_ := mk0 (Kd.R_below (uR HO243.out) hb)
          have n5_ := mk0 (Kd.R_lower ho0 (below_size (by repeat (first | (with_reducible first | exact HB.out | apply bA | apply bN | apply bD | refine bS ?_ (by assumption)) | exact HB.out))))
          have n6_ := mk0 (blk_below (g := gb225) (o := .cells #[.slice Ao15 t221.length co15, .int .i64 t224] 29 (0, 0)) (uB BK225.out) hb)
          have n7_ := mk0 (blk_below (g := gb230) (o := .cells #[.string (rdOf ByteArray.empty y226 (ji8)), .int .i64 x231001_10, .int .i64 x231002_10, .string x231003_10, .slice Ao49 x231004_10.length co49, .int .i64 x231005_29, .int .i64 x231006_29, .string x231007_29, .slice Ao50 x231008_29.length co50] 57 (0, 0)) (uB BK230.out) hb)
          have n8_ := mk0 (below_step (by repeat (first | (with_reducible first | exact HB.out | apply bA | apply bN | apply bD | refine bS ?_ (by assumption)) | exact HB.out)) hb)
          clear HO_226000
          clear HO_231004
          clear HO_231008
          clear HO239
          clear HO243
          clear BK225
          clear BK230
          clear HB
          have HO_226000 := n0_
          have HO_231004 := n1_
          have HO_231008 := n2_
          have HO239 := n3_
          have HO243 := n4_
          have HO247 := n5_
          have BK225 := n6_
          have BK230 := n7_
          have HB := n8_
          clear n0_ n1_ n2_ n3_ n4_ n5_ n6_ n7_ n8_
          (try clear hb)
          (try clear hb2)
          (try clear hk)
          (try clear hi)
          (try clear ho0)
          (first | (have EHO247 := cmpV_no HO247.out (by with_reducible assumption)) | (have EHO247 := cmpV_yes HO247.out (by with_reducible assumption)) | skip)
          refine hK.out _ _ ⟨(blk_cell BK225.out 0).trans rfl, (blk_cell BK225.out 1).trans rfl, (blk_cell BK230.out 0).trans rfl, (blk_cell BK230.out 1).trans rfl, (blk_cell BK230.out 2).trans rfl, (blk_cell BK230.out 3).trans rfl, (blk_cell BK230.out 4).trans rfl, (blk_cell BK230.out 5).trans rfl, (blk_cell BK230.out 6).trans rfl, (blk_cell BK230.out 7).trans rfl, (blk_cell BK230.out 8).trans rfl⟩ (fun hHeld => ?_)
          clear hK K
          refine norm_ (a' := ?_) ?_ ?_
          rotate_left
          ·show Act.put _ (some 52) _ = _
           simp only [Act.put, List.setIfInBounds_toArray, List.set_cons_zero, List.set_cons_succ, i64_w, i32_w]
           rfl
          refine pure_ (i := 6) (N := some 46) (v := ?_) (a' := ?_) #[true, true, true, true, true, true, true, false, false, false, false] rfl rfl (any_of HT_.out (by kernel_rfl)) (fun _ _ _ h => h) (Or.inl ⟨by rfl, ?_⟩) ?_ ?_
          rotate_left
          ·intro w'
           go_simp
           with_reducible rfl
          rotate_left
          ·simp only [Act.put, List.setIfInBounds_toArray, List.set_cons_zero, List.set_cons_succ, i64_w, i32_w]
           rfl
          refine pure_ (i := 7) (N := some 53) (v := ?_) (a' := ?_) #[true, true, true, true, true, true, true, true, false, false, false] rfl rfl (any_of HT_.out (by kernel_rfl)) (fun _ _ _ h => h) (Or.inl ⟨by rfl, ?_⟩) ?_ ?_
          rotate_left
          ·intro w'
           go_simp
           with_reducible rfl
          rotate_left
          ·simp only [Act.put, List.setIfInBounds_toArray, List.set_cons_zero, List.set_cons_succ, i64_w, i32_w]
           rfl
          refine pure_ (i := 8) (N := some 54) (v := ?_) (a' := ?_) #[true, true, true, true, true, true, true, true, true, false, false] rfl rfl (any_of HT_.out (by kernel_rfl)) (fun _ _ _ h => h) (Or.inl ⟨by rfl, ?_⟩) ?_ ?_
          rotate_left
          ·intro w'
           go_simp
           with_reducible rfl
          rotate_left
          ·simp only [Act.put, List.setIfInBounds_toArray, List.set_cons_zero, List.set_cons_succ, i64_w, i32_w]
           rfl
          refine pure_ (i := 9) (N := some 12) (v := ?_) (a' := ?_) #[true, true, true, true, true, true, true, true, true, true, false] rfl rfl (any_of HT_.out (by kernel_rfl)) (fun _ _ _ h => h) (Or.inl ⟨by rfl, ?_⟩) ?_ ?_
          rotate_left
          ·intro w'
           go_simp
           with_reducible rfl
          rotate_left
          ·simp only [Act.put, List.setIfInBounds_toArray, List.set_cons_zero, List.set_cons_succ, i64_w, i32_w]
           rfl
          refine pure_ (i := 10) (N := some 13) (v := ?_) (a' := ?_) #[true, true, true, true, true, true, true, true, true, true, true] rfl rfl (any_of HT_.out (by kernel_rfl)) (fun _ _ _ h => h) (Or.inl ⟨by rfl, ?_⟩) ?_ ?_
          rotate_left
          ·intro w'
           go_simp
           with_reducible rfl
          rotate_left
          ·simp only [Act.put, List.setIfInBounds_toArray, List.set_cons_zero, List.set_cons_succ, i64_w, i32_w]
           rfl
          refine done_ (done_of HT_.out (by kernel_rfl)) ?_
          try go_wp2_with (first | (go_at_call 21; (with_reducible refine (furrowref4_At.calls (⟨#[100, 105, 118]⟩ : ByteArray) 0 13 t248 t251 _ A42.out).mono ?_); rintro e w52 ⟨v249, rfl, ho0, hb⟩; have n0_ := mk0 (Kd.N_elder' (uN HO_226000.out) (Kd.R_base ho0) hb); have n1_ := mk0 (Kd.N_elder' (uN HO_231004.out) (Kd.R_base ho0) hb); have n2_ := mk0 (Kd.N_elder' (uN HO_231008.out) (Kd.R_base ho0) hb); have n3_ := mk0 (Kd.N_elder' (uN HO239.out) (Kd.R_base ho0) hb); have n4_ := mk0 (Kd.R_below (uR HO243.out) hb); have n5_ := mk0 (Kd.R_below (uR HO247.out) hb); have n6_ := mk0 (Kd.R_lower ho0 (below_size (by repeat (first | (with_reducible first | exact HB.out | apply bA | apply bN | apply bD | refine bS ?_ (by assumption)) | exact HB.out)))); have n7_ := mk0 (blk_below (g := gb225) (o := .cells #[.slice Ao15 t221.length co15, .int .i64 t224] 29 (0, 0)) (uB BK225.out) hb); have n8_ := mk0 (blk_below (g := gb230) (o := .cells #[.string (rdOf ByteArray.empty y226 (ji8)), .int .i64 x231001_10, .int .i64 x231002_10, .string x231003_10, .slice Ao49 x231004_10.length co49, .int .i64 x231005_29, .int .i64 x231006_29, .string x231007_29, .slice Ao50 x231008_29.length co50] 57 (0, 0)) (uB BK230.out) hb); have n9_ := mk0 (below_step (by repeat (first | (with_reducible first | exact HB.out | apply bA | apply bN | apply bD | refine bS ?_ (by assumption)) | exact HB.out)) hb); clear HO_226000; clear HO_231004; clear HO_231008; clear HO239; clear HO243; clear HO247; clear BK225; clear BK230; clear HB; have HO_226000 := n0_; have HO_231004 := n1_; have HO_231008 := n2_; have HO239 := n3_; have HO243 := n4_; have HO247 := n5_; have HO250 := n6_; have BK225 := n7_; have BK230 := n8_; have HB := n9_; clear n0_ n1_ n2_ n3_ n4_ n5_ n6_ n7_ n8_ n9_; (try clear hb); (try clear hb2); (try clear hk); (try clear hi); (try clear ho0); obtain ⟨Ao53, co53, eo53⟩ := Kd.R_slice HO247.out; subst eo53; obtain ⟨Ao54, co54, eo54⟩ := Kd.R_slice HO250.out; subst eo54) | (go_at_call 17; (with_reducible refine (furrowlaw2_Tells.calls _ _ t245 _ _ t248 t251 t252 _ ?side1 ?side2 ?side3 ?side4 ?side5 A43.out).mono ?_); (case side1 => repeat (first | exact (Kd.R_reads' HO247.out).2.2 | (with_reducible refine Kd.C_alloc ?_ _) | (with_reducible refine Kd.C_drewN ?_ _) | (with_reducible refine Kd.C_drew ?_))); (case side2 => exact (Kd.R_reads' HO247.out).2.1); (case side3 => repeat (first | exact (Kd.R_reads' HO250.out).2.2 | (with_reducible refine Kd.C_alloc ?_ _) | (with_reducible refine Kd.C_drewN ?_ _) | (with_reducible refine Kd.C_drew ?_))); (case side4 => exact (Kd.R_reads' HO250.out).2.1); (case side5 => exact Glob.below HG.out (by repeat (first | (with_reducible first | exact HB.out | apply bA | apply bN | apply bD | refine bS ?_ (by assumption)) | exact HB.out))); rintro e w55 ⟨rfl, hb⟩; have n0_ := mk0 (Kd.N_below (uN HO_226000.out) hb); have n1_ := mk0 (Kd.N_below (uN HO_231004.out) hb); have n2_ := mk0 (Kd.N_below (uN HO_231008.out) hb); have n3_ := mk0 (Kd.N_below (uN HO239.out) hb); have n4_ := mk0 (Kd.R_below (uR HO243.out) hb); have n5_ := mk0 (Kd.R_below (uR HO247.out) hb); have n6_ := mk0 (Kd.R_below (uR HO250.out) hb); have n7_ := mk0 (blk_below (g := gb225) (o := .cells #[.slice Ao15 t221.length co15, .int .i64 t224] 29 (0, 0)) (uB BK225.out) hb); have n8_ := mk0 (blk_below (g := gb230) (o := .cells #[.string (rdOf ByteArray.empty y226 (ji8)), .int .i64 x231001_10, .int .i64 x231002_10, .string x231003_10, .slice Ao49 x231004_10.length co49, .int .i64 x231005_29, .int .i64 x231006_29, .string x231007_29, .slice Ao50 x231008_29.length co50] 57 (0, 0)) (uB BK230.out) hb); have n9_ := mk0 (below_step (by repeat (first | (with_reducible first | exact HB.out | apply bA | apply bN | apply bD | refine bS ?_ (by assumption)) | exact HB.out)) hb); clear HO_226000; clear HO_231004; clear HO_231008; clear HO239; clear HO243; clear HO247; clear HO250; clear BK225; clear BK230; clear HB; have HO_226000 := n0_; have HO_231004 := n1_; have HO_231008 := n2_; have HO239 := n3_; have HO243 := n4_; have HO247 := n5_; have HO250 := n6_; have BK225 := n7_; have BK230 := n8_; have HB := n9_; clear n0_ n1_ n2_ n3_ n4_ n5_ n6_ n7_ n8_ n9_; (try clear hb); (try clear hb2); (try clear hk); (try clear hi)))
          go_ret
          exact ⟨by first | rfl | (simp [errW_none, errW_some] <;> rfl) | (simp only [← hji8]; first | rfl | (simp [errW_none, errW_some] <;> rfl)) | (exact congrArg (fun b_ => Ending.returned (Value.bool b_)) HT.out) | (rw [show _ = _ from HT.out]) | (simp [HT.out]; done) | (simp [show _ = _ from HT.out]; done) | (simp [*, errW_none, errW_some] <;> rfl), by repeat (first | (with_reducible first | exact HB.out | apply bA | apply bN | apply bD | refine bS ?_ (by assumption)) | exact HB.out)⟩
        ·rw [if_neg c40] at H
         have c40b0 : ((Int.tmod a3 2) == 1) = false := beq_eq_false_iff_ne.mpr c40
         have c40b1 : ((Int.tmod a3 2) != 1) = true := bne_iff_ne.mpr c40
         by_cases c56 : (((Int.tdiv a3 2) % 256) % 2) = 1
         ·rw [if_pos c56] at H
          have c56b0 : ((((Int.tdiv a3 2) % 256) % 2) == 1) = true := beq_iff_eq.mpr c56
          have c56b1 : ((((Int.tdiv a3 2) % 256) % 2) != 1) = false := bne_eq_false_iff_eq.mpr c56
          clear c56
          by_cases c57 : t244 = true
          ·subst c57
           have H1 : (some false) = some true := by rw [if_pos rfl] at H; first | done | exact H
           clear H
           have H := H1
           clear H1
           exact absurd H (by simp)
          ·replace c57 := Bool.eq_false_iff.mpr c57
           subst c57
           have H1 : ((furrowref4_At.f (⟨#[115, 117, 98, 115, 99, 114, 105, 112, 116]⟩ : ByteArray) 0 14).bind fun bt253 => ((furrowlaw2_Tells.f t245 bt253.1 bt253.2).bind fun t257 => (some t257))) = some true := by rw [if_neg (show ¬ (false = true) by decide)] at H; first | done | exact H
           clear H
           have H := H1
           clear H1
           replace H := Option.bind_eq_some_iff.mp H
           obtain ⟨⟨t253, t256⟩, A580, H⟩ := H
           replace H : ((furrowlaw2_Tells.f t245 t253 t256).bind fun t257 => (some t257)) = some true := H
           have A58 := mk0 A580
           clear A580
           replace H := Option.bind_eq_some_iff.mp H
           obtain ⟨t257, A590, H⟩ := H
           replace H : (some t257) = some true := H
           have A59 := mk0 A590
           clear A590
           have HT := mk0 (Option.some.inj H)
           clear H
           try go_wp2
           have n0_ := mk0 (Kd.N_drew HO_226000.out)
           have n1_ := mk0 (Kd.N_drew HO_231004.out)
           have n2_ := mk0 (Kd.N_drew HO_231008.out)
           have n3_ := mk0 (blk_drew BK225.out)
           have n4_ := mk0 (blk_drew BK230.out)
           have n5_ := mk0 (below_drew1 HB.out)
           clear HO_226000
           clear HO_231004
           clear HO_231008
           clear BK225
           clear BK230
           clear HB
           have HO_226000 := n0_
           have HO_231004 := n1_
           have HO_231008 := n2_
           have BK225 := n3_
           have BK230 := n4_
           have HB := n5_
           clear n0_ n1_ n2_ n3_ n4_ n5_
           refine start_ (n := 11) (S := fun w' => w'.cell? ⟨gb225, 0, none⟩ = some (.slice Ao15 t221.length co15) ∧ w'.cell? ⟨gb225, 1, none⟩ = some (.int .i64 t224) ∧ w'.cell? ⟨gb230, 0, none⟩ = some (.string (rdOf ByteArray.empty y226 (ji8))) ∧ w'.cell? ⟨gb230, 1, none⟩ = some (.int .i64 x231001_10) ∧ w'.cell? ⟨gb230, 2, none⟩ = some (.int .i64 x231002_10) ∧ w'.cell? ⟨gb230, 3, none⟩ = some (.string x231003_10) ∧ w'.cell? ⟨gb230, 4, none⟩ = some (u231004) ∧ w'.cell? ⟨gb230, 5, none⟩ = some (.int .i64 x231005_29) ∧ w'.cell? ⟨gb230, 6, none⟩ = some (.int .i64 x231006_29) ∧ w'.cell? ⟨gb230, 7, none⟩ = some (.string x231007_29) ∧ w'.cell? ⟨gb230, 8, none⟩ = some (u231008)) (ds := []) #[false, false, false, false, false, false, false, false, false, false, false] (by kernel_rfl) rfl rfl ⟨(blk_cell BK225.out 0).trans rfl, (blk_cell BK225.out 1).trans rfl, (blk_cell BK230.out 0).trans rfl, (blk_cell BK230.out 1).trans rfl, (blk_cell BK230.out 2).trans rfl, (blk_cell BK230.out 3).trans rfl, (blk_cell BK230.out 4).trans rfl, (blk_cell BK230.out 5).trans rfl, (blk_cell BK230.out 6).trans rfl, (blk_cell BK230.out 7).trans rfl, (blk_cell BK230.out 8).trans rfl⟩ (fun hHeld => ?_); refine with_tabW furrowlaw9_EvalConds.tab10 furrowlaw9_EvalConds.bits10 (fun HT_ HW_ => ?_)
           generalize wc.drew = w60 at HO_226000 HO_231004 HO_231008 BK225 BK230 HB hHeld ⊢
           refine take_ (i := 0) (N := some 47) (v := ?_) (a' := ?_) #[true, false, false, false, false, false, false, false, false, false, false] rfl rfl (take_ofW HT_.out HW_.out (by kernel_rfl)) (fun _ _ _ h => h) (Or.inl ⟨by rfl, ?_⟩) hHeld ?_ ?_
           rotate_left
           ·rintro w' ⟨s0, s1, s2, s3, s4, s5, s6, s7, s8, s9, s10⟩
            go_simp
            with_reducible rfl
           rotate_left
           ·simp only [Act.put, List.setIfInBounds_toArray, List.set_cons_zero, List.set_cons_succ, i64_w, i32_w]
            rfl
           refine take_ (i := 2) (N := some 49) (v := ?_) (a' := ?_) #[true, false, true, false, false, false, false, false, false, false, false] rfl rfl (take_ofW HT_.out HW_.out (by kernel_rfl)) (fun _ _ _ h => h) (Or.inl ⟨by rfl, ?_⟩) hHeld ?_ ?_
           rotate_left
           ·rintro w' ⟨s0, s1, s2, s3, s4, s5, s6, s7, s8, s9, s10⟩
            go_simp
            with_reducible rfl
           rotate_left
           ·simp only [Act.put, List.setIfInBounds_toArray, List.set_cons_zero, List.set_cons_succ, i64_w, i32_w]
            rfl
           refine take_ (i := 4) (N := some 51) (v := ?_) (a' := ?_) #[true, false, true, false, true, false, false, false, false, false, false] rfl rfl (take_ofW HT_.out HW_.out (by kernel_rfl)) (fun _ _ _ h => h) (Or.inl ⟨by rfl, ?_⟩) hHeld ?_ ?_
           rotate_left
           ·rintro w' ⟨s0, s1, s2, s3, s4, s5, s6, s7, s8, s9, s10⟩
            go_simp
            with_reducible rfl
           rotate_left
           ·simp only [Act.put, List.setIfInBounds_toArray, List.set_cons_zero, List.set_cons_succ, i64_w, i32_w]
            rfl
           refine one_ (i := 1) (N := some 48) #[true, true, true, false, true, false, false, false, false, false, false] rfl rfl (one_of HT_.out (by kernel_rfl)) (by decide) (fun K hK => ?_)
           refine goes_ Tryd.func15 (by kernel_rfl) rfl #[.agg #[.slice Ao15 t221.length co15, .int .i64 t224]] (by rfl) rfl rfl (by (try simp only [List.map_toArray, List.map_cons, List.map_nil]); first | done | rfl | (simp only [List.length_drop, List.length_take]; rfl)) ?_
           with_reducible refine (furrowlaw8_To.calls kj29 (fun k_ => (some k_ ≠ (u231004 : Value).ownBlock ∧ (some k_ ≠ (u231008 : Value).ownBlock ∧ (k_ ≠ gb225 ∧ k_ ≠ gb230)))) _ _ t221 t224 t237 t240 _ ?side1 A37.out).mono ?_
           (case side1 => exact Kd.N_V (HO_226000.out))
           rintro e w61 ⟨v238, rfl, ho0, hb⟩
           refine ⟨_, rfl, ?_⟩
           have n0_ := mk0 (Kd.N_elder' (uN HO_226000.out) (Kd.N_base ho0) hb)
           have n1_ := mk0 (Kd.N_elder' (uN HO_231004.out) (Kd.N_base ho0) hb)
           have n2_ := mk0 (Kd.N_elder' (uN HO_231008.out) (Kd.N_base ho0) hb)
           have n3_ := mk0 (Kd.N_lower (Kd.N_mono (ok' := fun k_ => some k_ ≠ (u231004 : Value).ownBlock ∧ some k_ ≠ (u231008 : Value).ownBlock ∧ k_ ≠ gb225 ∧ k_ ≠ gb230) ho0 (fun k_ hk_ => ⟨Or.elim hk_ (fun hs_ => hs_.1) (fun hn_ => (Kd.fresh' (Kd.N_lt (uN HO_231004.out)) k_ hn_)), Or.elim hk_ (fun hs_ => hs_.2.1) (fun hn_ => (Kd.fresh' (Kd.N_lt (uN HO_231008.out)) k_ hn_)), Or.elim hk_ (fun hs_ => hs_.2.2.1) (fun hn_ => (Kd.freshB (g := gb225) (o := .cells #[.slice Ao15 t221.length co15, .int .i64 t224] 29 (0, 0)) (uB BK225.out) k_ hn_)), Or.elim hk_ (fun hs_ => hs_.2.2.2) (fun hn_ => (Kd.freshB (g := gb230) (o := .cells #[.string (rdOf ByteArray.empty y226 (ji8)), .int .i64 x231001_10, .int .i64 x231002_10, .string x231003_10, u231004, .int .i64 x231005_29, .int .i64 x231006_29, .string x231007_29, u231008] 57 (0, 0)) (uB BK230.out) k_ hn_))⟩)) (below_size (by repeat (first | (with_reducible first | exact HB.out | apply bA | apply bN | apply bD | refine bS ?_ (by assumption)) | exact HB.out))))
           have n4_ := mk0 (blk_below (g := gb225) (o := .cells #[.slice Ao15 t221.length co15, .int .i64 t224] 29 (0, 0)) (uB BK225.out) hb)
           have n5_ := mk0 (blk_below (g := gb230) (o := .cells #[.string (rdOf ByteArray.empty y226 (ji8)), .int .i64 x231001_10, .int .i64 x231002_10, .string x231003_10, u231004, .int .i64 x231005_29, .int .i64 x231006_29, .string x231007_29, u231008] 57 (0, 0)) (uB BK230.out) hb)
           have n6_ := mk0 (below_step (by repeat (first | (with_reducible first | exact HB.out | apply bA | apply bN | apply bD | refine bS ?_ (by assumption)) | exact HB.out)) hb)
           clear HO_226000
           clear HO_231004
           clear HO_231008
           clear BK225
           clear BK230
           clear HB
           have HO_226000 := n0_
           have HO_231004 := n1_
           have HO_231008 := n2_
           have HO239 := n3_
           have BK225 := n4_
           have BK230 := n5_
           have HB := n6_
           clear n0_ n1_ n2_ n3_ n4_ n5_ n6_
           (try clear hb)
           (try clear hb2)
           (try clear hk)
           (try clear hi)
           (try clear ho0)
           refine hK.out _ _ ⟨(blk_cell BK225.out 0).trans rfl, (blk_cell BK225.out 1).trans rfl, (blk_cell BK230.out 0).trans rfl, (blk_cell BK230.out 1).trans rfl, (blk_cell BK230.out 2).trans rfl, (blk_cell BK230.out 3).trans rfl, (blk_cell BK230.out 4).trans rfl, (blk_cell BK230.out 5).trans rfl, (blk_cell BK230.out 6).trans rfl, (blk_cell BK230.out 7).trans rfl, (blk_cell BK230.out 8).trans rfl⟩ (fun hHeld => ?_)
           clear hK K
           refine norm_ (a' := ?_) ?_ ?_
           rotate_left
           ·show Act.put _ (some 48) _ = _
            simp only [Act.put, List.setIfInBounds_toArray, List.set_cons_zero, List.set_cons_succ, i64_w, i32_w]
            rfl
           refine one_ (i := 3) (N := some 50) #[true, true, true, true, true, false, false, false, false, false, false] rfl rfl (one_of HT_.out (by kernel_rfl)) (by decide) (fun K hK => ?_)
           refine goes_ Tryd.func13 (by kernel_rfl) rfl #[.agg #[.slice Ao15 t221.length co15, .int .i64 t224], .slice none 0 0] (by rfl) rfl rfl (by (try simp only [List.map_toArray, List.map_cons, List.map_nil]); first | done | rfl | (simp only [List.length_drop, List.length_take]; rfl)) ?_
           refine (furrowlaw9_store.calls kj29 _ _ t221 t224 _ _ ([] : List Int) t241 _ ?side1 ?side2 ?side3 ?side4 A38.out).mono ?_
           (case side1 => repeat (first | exact (Kd.N_reads' HO_226000.out).2.2 | (with_reducible refine Kd.C_alloc ?_ _) | (with_reducible refine Kd.C_drewN ?_ _) | (with_reducible refine Kd.C_drew ?_)))
           (case side2 => exact (Kd.N_reads' HO_226000.out).2.1)
           (case side3 => exact Kd.C_nil _ _)
           (case side4 => exact Nat.le_refl _)
           rintro e w62 ⟨v242, rfl, ho0, hb⟩
           refine ⟨_, rfl, ?_⟩
           have n0_ := mk0 (Kd.N_elder' (uN HO_226000.out) (Kd.R_base ho0) hb)
           have n1_ := mk0 (Kd.N_elder' (uN HO_231004.out) (Kd.R_base ho0) hb)
           have n2_ := mk0 (Kd.N_elder' (uN HO_231008.out) (Kd.R_base ho0) hb)
           have n3_ := mk0 (Kd.N_elder' (uN HO239.out) (Kd.R_base ho0) hb)
           have n4_ := mk0 (Kd.R_lower ho0 (below_size (by repeat (first | (with_reducible first | exact HB.out | apply bA | apply bN | apply bD | refine bS ?_ (by assumption)) | exact HB.out))))
           have n5_ := mk0 (blk_below (g := gb225) (o := .cells #[.slice Ao15 t221.length co15, .int .i64 t224] 29 (0, 0)) (uB BK225.out) hb)
           have n6_ := mk0 (blk_below (g := gb230) (o := .cells #[.string (rdOf ByteArray.empty y226 (ji8)), .int .i64 x231001_10, .int .i64 x231002_10, .string x231003_10, u231004, .int .i64 x231005_29, .int .i64 x231006_29, .string x231007_29, u231008] 57 (0, 0)) (uB BK230.out) hb)
           have n7_ := mk0 (below_step (by repeat (first | (with_reducible first | exact HB.out | apply bA | apply bN | apply bD | refine bS ?_ (by assumption)) | exact HB.out)) hb)
           clear HO_226000
           clear HO_231004
           clear HO_231008
           clear HO239
           clear BK225
           clear BK230
           clear HB
           have HO_226000 := n0_
           have HO_231004 := n1_
           have HO_231008 := n2_
           have HO239 := n3_
           have HO243 := n4_
           have BK225 := n5_
           have BK230 := n6_
           have HB := n7_
           clear n0_ n1_ n2_ n3_ n4_ n5_ n6_ n7_
           (try clear hb)
           (try clear hb2)
           (try clear hk)
           (try clear hi)
           (try clear ho0)
           obtain ⟨Ao63, co63, eo63⟩ := Kd.N_slice HO239.out
           (first | subst eo63 | (injection eo63 with f1_ f2_ f3_; have f4_ := f1_.symm; have f5_ := f3_.symm; clear f1_ f2_ f3_; subst f4_; subst f5_))
           obtain ⟨Ao64, co64, eo64⟩ := Kd.R_slice HO243.out
           (first | subst eo64 | (injection eo64 with f1_ f2_ f3_; have f4_ := f1_.symm; have f5_ := f3_.symm; clear f1_ f2_ f3_; subst f4_; subst f5_))
           obtain ⟨Ao65, co65, eo65⟩ := Kd.N_slice HO_231004.out
           (first | subst eo65 | (injection eo65 with f1_ f2_ f3_; have f4_ := f1_.symm; have f5_ := f3_.symm; clear f1_ f2_ f3_; subst f4_; subst f5_))
           obtain ⟨Ao66, co66, eo66⟩ := Kd.N_slice HO_231008.out
           (first | subst eo66 | (injection eo66 with f1_ f2_ f3_; have f4_ := f1_.symm; have f5_ := f3_.symm; clear f1_ f2_ f3_; subst f4_; subst f5_))
           refine hK.out _ _ ⟨(blk_cell BK225.out 0).trans rfl, (blk_cell BK225.out 1).trans rfl, (blk_cell BK230.out 0).trans rfl, (blk_cell BK230.out 1).trans rfl, (blk_cell BK230.out 2).trans rfl, (blk_cell BK230.out 3).trans rfl, (blk_cell BK230.out 4).trans rfl, (blk_cell BK230.out 5).trans rfl, (blk_cell BK230.out 6).trans rfl, (blk_cell BK230.out 7).trans rfl, (blk_cell BK230.out 8).trans rfl⟩ (fun hHeld => ?_)
           clear hK K
           refine norm_ (a' := ?_) ?_ ?_
           rotate_left
           ·show Act.put _ (some 50) _ = _
            simp only [Act.put, List.setIfInBounds_toArray, List.set_cons_zero, List.set_cons_succ, i64_w, i32_w]
            rfl
           refine one_ (i := 5) (N := some 52) #[true, true, true, true, true, true, false, false, false, false, false] rfl rfl (one_of HT_.out (by kernel_rfl)) (by decide) (fun K hK => ?_)
           refine goes_ Tryd.func20 (by kernel_rfl) rfl #[.agg #[.slice Ao63 t237.length co63, .int .i64 t240], .slice Ao64 t241.length co64, .agg #[.string (rdOf ByteArray.empty y226 (ji8)), .int .i64 x231001_10, .int .i64 x231002_10, .string x231003_10, .slice Ao65 x231004_10.length co65, .int .i64 x231005_29, .int .i64 x231006_29, .string x231007_29, .slice Ao66 x231008_29.length co66]] (by rfl) rfl rfl (by (try simp only [List.map_toArray, List.map_cons, List.map_nil]); first | done | (simp only [hji8]; rfl) | rfl | (simp only [List.length_drop, List.length_take]; rfl)) ?_
           with_reducible refine (eval_Holds.calls kj29 _ _ t237 t240 _ _ t241 (rdOf ByteArray.empty y226 (ji8)) x231001_10 x231002_10 x231003_10 _ _ x231004_10 x231005_29 x231006_29 x231007_29 _ _ x231008_29 false t245 _ ?side1 ?side2 ?side3 ?side4 ?side5 ?side6 ?side7 ?side8 A39.out).mono ?_
           (case side1 => repeat (first | exact (Kd.N_reads' HO239.out).2.2 | (with_reducible refine Kd.C_alloc ?_ _) | (with_reducible refine Kd.C_drewN ?_ _) | (with_reducible refine Kd.C_drew ?_)))
           (case side2 => exact (Kd.N_reads' HO239.out).2.1)
           (case side3 => repeat (first | exact (Kd.R_reads' HO243.out).2.2 | (with_reducible refine Kd.C_alloc ?_ _) | (with_reducible refine Kd.C_drewN ?_ _) | (with_reducible refine Kd.C_drew ?_)))
           (case side4 => exact (Kd.R_reads' HO243.out).2.1)
           (case side5 => repeat (first | exact (Kd.N_reads' HO_231004.out).2.2 | (with_reducible refine Kd.C_alloc ?_ _) | (with_reducible refine Kd.C_drewN ?_ _) | (with_reducible refine Kd.C_drew ?_)))
           (case side6 => exact (Kd.N_reads' HO_231004.out).2.1)
           (case side7 => repeat (first | exact (Kd.N_reads' HO_231008.out).2.2 | (with_reducible refine Kd.C_alloc ?_ _) | (with_reducible refine Kd.C_drewN ?_ _) | (with_reducible refine Kd.C_drew ?_)))
           (case side8 => exact (Kd.N_reads' HO_231008.out).2.1)
           rintro e w67 ⟨v246, rfl, ho0, hb⟩
           refine ⟨_, rfl, ?_⟩
           have n0_ := mk0 (Kd.N_elder' (uN HO_226000.out) (Kd.R_base ho0) hb)
           have n1_ := mk0 (Kd.N_elder' (uN HO_231004.out) (Kd.R_base ho0) hb)
           have n2_ := mk0 (Kd.N_elder' (uN HO_231008.out) (Kd.R_base ho0) hb)
           have n3_ := mk0 (Kd.N_elder' (uN HO239.out) (Kd.R_base ho0) hb)
           have n4_ := mk0 (Kd.R_below (uR HO243.out) hb)
           have n5_ := mk0 (Kd.R_lower ho0 (below_size (by repeat (first | (with_reducible first | exact HB.out | apply bA | apply bN | apply bD | refine bS ?_ (by assumption)) | exact HB.out))))
           have n6_ := mk0 (blk_below (g := gb225) (o := .cells #[.slice Ao15 t221.length co15, .int .i64 t224] 29 (0, 0)) (uB BK225.out) hb)
           have n7_ := mk0 (blk_below (g := gb230) (o := .cells #[.string (rdOf ByteArray.empty y226 (ji8)), .int .i64 x231001_10, .int .i64 x231002_10, .string x231003_10, .slice Ao65 x231004_10.length co65, .int .i64 x231005_29, .int .i64 x231006_29, .string x231007_29, .slice Ao66 x231008_29.length co66] 57 (0, 0)) (uB BK230.out) hb)
           have n8_ := mk0 (below_step (by repeat (first | (with_reducible first | exact HB.out | apply bA | apply bN | apply bD | refine bS ?_ (by assumption)) | exact HB.out)) hb)
           clear HO_226000
           clear HO_231004
           clear HO_231008
           clear HO239
           clear HO243
           clear BK225
           clear BK230
           clear HB
           have HO_226000 := n0_
           have HO_231004 := n1_
           have HO_231008 := n2_
           have HO239 := n3_
           have HO243 := n4_
           have HO247 := n5_
           have BK225 := n6_
           have BK230 := n7_
           have HB := n8_
           clear n0_ n1_ n2_ n3_ n4_ n5_ n6_ n7_ n8_
           (try clear hb)
           (try clear hb2)
           (try clear hk)
           (try clear hi)
           (try clear ho0)
           (first | (have EHO247 := cmpV_no HO247.out (by with_reducible assumption)) | (have EHO247 := cmpV_yes HO247.out (by with_reducible assumption)) | skip)
           refine hK.out _ _ ⟨(blk_cell BK225.out 0).trans rfl, (blk_cell BK225.out 1).trans rfl, (blk_cell BK230.out 0).trans rfl, (blk_cell BK230.out 1).trans rfl, (blk_cell BK230.out 2).trans rfl, (blk_cell BK230.out 3).trans rfl, (blk_cell BK230.out 4).trans rfl, (blk_cell BK230.out 5).trans rfl, (blk_cell BK230.out 6).trans rfl, (blk_cell BK230.out 7).trans rfl, (blk_cell BK230.out 8).trans rfl⟩ (fun hHeld => ?_)
           clear hK K
           refine norm_ (a' := ?_) ?_ ?_
           rotate_left
           ·show Act.put _ (some 52) _ = _
            simp only [Act.put, List.setIfInBounds_toArray, List.set_cons_zero, List.set_cons_succ, i64_w, i32_w]
            rfl
           refine pure_ (i := 6) (N := some 46) (v := ?_) (a' := ?_) #[true, true, true, true, true, true, true, false, false, false, false] rfl rfl (any_of HT_.out (by kernel_rfl)) (fun _ _ _ h => h) (Or.inl ⟨by rfl, ?_⟩) ?_ ?_
           rotate_left
           ·intro w'
            go_simp
            with_reducible rfl
           rotate_left
           ·simp only [Act.put, List.setIfInBounds_toArray, List.set_cons_zero, List.set_cons_succ, i64_w, i32_w]
            rfl
           refine pure_ (i := 7) (N := some 53) (v := ?_) (a' := ?_) #[true, true, true, true, true, true, true, true, false, false, false] rfl rfl (any_of HT_.out (by kernel_rfl)) (fun _ _ _ h => h) (Or.inl ⟨by rfl, ?_⟩) ?_ ?_
           rotate_left
           ·intro w'
            go_simp
            with_reducible rfl
           rotate_left
           ·simp only [Act.put, List.setIfInBounds_toArray, List.set_cons_zero, List.set_cons_succ, i64_w, i32_w]
            rfl
           refine pure_ (i := 8) (N := some 54) (v := ?_) (a' := ?_) #[true, true, true, true, true, true, true, true, true, false, false] rfl rfl (any_of HT_.out (by kernel_rfl)) (fun _ _ _ h => h) (Or.inl ⟨by rfl, ?_⟩) ?_ ?_
           rotate_left
           ·intro w'
            go_simp
            with_reducible rfl
           rotate_left
           ·simp only [Act.put, List.setIfInBounds_toArray, List.set_cons_zero, List.set_cons_succ, i64_w, i32_w]
            rfl
           refine pure_ (i := 9) (N := some 12) (v := ?_) (a' := ?_) #[true, true, true, true, true, true, true, true, true, true, false] rfl rfl (any_of HT_.out (by kernel_rfl)) (fun _ _ _ h => h) (Or.inl ⟨by rfl, ?_⟩) ?_ ?_
           rotate_left
           ·intro w'
            go_simp
            with_reducible rfl
           rotate_left
           ·simp only [Act.put, List.setIfInBounds_toArray, List.set_cons_zero, List.set_cons_succ, i64_w, i32_w]
            rfl
           refine pure_ (i := 10) (N := some 13) (v := ?_) (a' := ?_) #[true, true, true, true, true, true, true, true, true, true, true] rfl rfl (any_of HT_.out (by kernel_rfl)) (fun _ _ _ h => h) (Or.inl ⟨by rfl, ?_⟩) ?_ ?_
           rotate_left
           ·intro w'
            go_simp
            with_reducible rfl
           rotate_left
           ·simp only [Act.put, List.setIfInBounds_toArray, List.set_cons_zero, List.set_cons_succ, i64_w, i32_w]
            rfl
           refine done_ (done_of HT_.out (by kernel_rfl)) ?_
           try go_wp2_with (first | (go_at_call 21; (with_reducible refine (furrowref4_At.calls (⟨#[115, 117, 98, 115, 99, 114, 105, 112, 116]⟩ : ByteArray) 0 14 t253 t256 _ A58.out).mono ?_); rintro e w68 ⟨v254, rfl, ho0, hb⟩; have n0_ := mk0 (Kd.N_elder' (uN HO_226000.out) (Kd.R_base ho0) hb); have n1_ := mk0 (Kd.N_elder' (uN HO_231004.out) (Kd.R_base ho0) hb); have n2_ := mk0 (Kd.N_elder' (uN HO_231008.out) (Kd.R_base ho0) hb); have n3_ := mk0 (Kd.N_elder' (uN HO239.out) (Kd.R_base ho0) hb); have n4_ := mk0 (Kd.R_below (uR HO243.out) hb); have n5_ := mk0 (Kd.R_below (uR HO247.out) hb); have n6_ := mk0 (Kd.R_lower ho0 (below_size (by repeat (first | (with_reducible first | exact HB.out | apply bA | apply bN | apply bD | refine bS ?_ (by assumption)) | exact HB.out)))); have n7_ := mk0 (blk_below (g := gb225) (o := .cells #[.slice Ao15 t221.length co15, .int .i64 t224] 29 (0, 0)) (uB BK225.out) hb); have n8_ := mk0 (blk_below (g := gb230) (o := .cells #[.string (rdOf ByteArray.empty y226 (ji8)), .int .i64 x231001_10, .int .i64 x231002_10, .string x231003_10, .slice Ao65 x231004_10.length co65, .int .i64 x231005_29, .int .i64 x231006_29, .string x231007_29, .slice Ao66 x231008_29.length co66] 57 (0, 0)) (uB BK230.out) hb); have n9_ := mk0 (below_step (by repeat (first | (with_reducible first | exact HB.out | apply bA | apply bN | apply bD | refine bS ?_ (by assumption)) | exact HB.out)) hb); clear HO_226000; clear HO_231004; clear HO_231008; clear HO239; clear HO243; clear HO247; clear BK225; clear BK230; clear HB; have HO_226000 := n0_; have HO_231004 := n1_; have HO_231008 := n2_; have HO239 := n3_; have HO243 := n4_; have HO247 := n5_; have HO255 := n6_; have BK225 := n7_; have BK230 := n8_; have HB := n9_; clear n0_ n1_ n2_ n3_ n4_ n5_ n6_ n7_ n8_ n9_; (try clear hb); (try clear hb2); (try clear hk); (try clear hi); (try clear ho0); obtain ⟨Ao69, co69, eo69⟩ := Kd.R_slice HO247.out; subst eo69; obtain ⟨Ao70, co70, eo70⟩ := Kd.R_slice HO255.out; subst eo70) | (go_at_call 17; (with_reducible refine (furrowlaw2_Tells.calls _ _ t245 _ _ t253 t256 t257 _ ?side1 ?side2 ?side3 ?side4 ?side5 A59.out).mono ?_); (case side1 => repeat (first | exact (Kd.R_reads' HO247.out).2.2 | (with_reducible refine Kd.C_alloc ?_ _) | (with_reducible refine Kd.C_drewN ?_ _) | (with_reducible refine Kd.C_drew ?_))); (case side2 => exact (Kd.R_reads' HO247.out).2.1); (case side3 => repeat (first | exact (Kd.R_reads' HO255.out).2.2 | (with_reducible refine Kd.C_alloc ?_ _) | (with_reducible refine Kd.C_drewN ?_ _) | (with_reducible refine Kd.C_drew ?_))); (case side4 => exact (Kd.R_reads' HO255.out).2.1); (case side5 => exact Glob.below HG.out (by repeat (first | (with_reducible first | exact HB.out | apply bA | apply bN | apply bD | refine bS ?_ (by assumption)) | exact HB.out))); rintro e w71 ⟨rfl, hb⟩; have n0_ := mk0 (Kd.N_below (uN HO_226000.out) hb); have n1_ := mk0 (Kd.N_below (uN HO_231004.out) hb); have n2_ := mk0 (Kd.N_below (uN HO_231008.out) hb); have n3_ := mk0 (Kd.N_below (uN HO239.out) hb); have n4_ := mk0 (Kd.R_below (uR HO243.out) hb); have n5_ := mk0 (Kd.R_below (uR HO247.out) hb); have n6_ := mk0 (Kd.R_below (uR HO255.out) hb); have n7_ := mk0 (blk_below (g := gb225) (o := .cells #[.slice Ao15 t221.length co15, .int .i64 t224] 29 (0, 0)) (uB BK225.out) hb); have n8_ := mk0 (blk_below (g := gb230) (o := .cells #[.string (rdOf ByteArray.empty y226 (ji8)), .int .i64 x231001_10, .int .i64 x231002_10, .string x231003_10, .slice Ao65 x231004_10.length co65, .int .i64 x231005_29, .int .i64 x231006_29, .string x231007_29, .slice Ao66 x231008_29.length co66] 57 (0, 0)) (uB BK230.out) hb); have n9_ := mk0 (below_step (by repeat (first | (with_reducible first | exact HB.out | apply bA | apply bN | apply bD | refine bS ?_ (by assumption)) | exact HB.out)) hb); clear HO_226000; clear HO_231004; clear HO_231008; clear HO239; clear HO243; clear HO247; clear HO255; clear BK225; clear BK230; clear HB; have HO_226000 := n0_; have HO_231004 := n1_; have HO_231008 := n2_; have HO239 := n3_; have HO243 := n4_; have HO247 := n5_; have HO255 := n6_; have BK225 := n7_; have BK230 := n8_; have HB := n9_; clear n0_ n1_ n2_ n3_ n4_ n5_ n6_ n7_ n8_ n9_; (try clear hb); (try clear hb2); (try clear hk); (try clear hi)))
           go_ret
           exact ⟨by first | rfl | (simp [errW_none, errW_some] <;> rfl) | (simp only [← hji8]; first | rfl | (simp [errW_none, errW_some] <;> rfl)) | (exact congrArg (fun b_ => Ending.returned (Value.bool b_)) HT.out) | (rw [show _ = _ from HT.out]) | (simp [HT.out]; done) | (simp [show _ = _ from HT.out]; done) | (simp [*, errW_none, errW_some] <;> rfl), by repeat (first | (with_reducible first | exact HB.out | apply bA | apply bN | apply bD | refine bS ?_ (by assumption)) | exact HB.out)⟩
         ·rw [if_neg c56] at H
          have c56b0 : ((((Int.tdiv a3 2) % 256) % 2) == 1) = false := beq_eq_false_iff_ne.mpr c56
          have c56b1 : ((((Int.tdiv a3 2) % 256) % 2) != 1) = true := bne_iff_ne.mpr c56
          obtain ⟨y258, hy258⟩ : ∃ y_ : List Bool, y_ = (([decide (a0 < a1), decide (a0 ≤ a1), decide (a0 > a1), decide (a0 ≥ a1), (a0 == a1), (a0 != a1)] : List Bool)) := ⟨_, rfl⟩
          replace H : (if (t245.length : Int) = 0 then (if 0 ≤ (Int.tmod a2 6) then (if (Int.tmod a2 6) < (y258.length : Int) then (some (t244 == (rdOf false y258 (Int.tmod a2 6)))) else (none)) else (none)) else (some false)) = some true := by first | (rw [hy258]; with_reducible exact H) | (have H2_ := (Option.bind_some _ _).symm.trans H; rw [hy258]; with_reducible exact H2_) | (have H2_ := (Option.bind_some _ _).symm.trans H; with_reducible exact H2_) | with_reducible exact H | (rw [hy258]; exact H) | exact H
          have Ny258 := mk0 hy258
          clear hy258
          by_cases c72 : (t245.length : Int) = 0
          ·rw [if_pos c72] at H
           have c72b0 : ((t245.length : Int) == 0) = true := beq_iff_eq.mpr c72
           have c72b1 : ((t245.length : Int) != 0) = false := bne_eq_false_iff_eq.mpr c72
           clear c72
           replace H : (if 0 ≤ (ji8) then (if (ji8) < (y258.length : Int) then (some (t244 == (rdOf false y258 (ji8)))) else (none)) else (none)) = some true := by first | (rw [hji8] at H; exact H) | (simp only [hji8] at H ⊢; exact H)
           (try rw [hji8] at A37)
           (try rw [hji8] at A38)
           (try rw [hji8] at A39)
           by_cases c74 : 0 ≤ (ji8)
           ·rw [if_pos c74] at H
            have c74b0 : decide (0 ≤ (ji8)) = true := decide_eq_true c74
            clear c74
            by_cases c75 : (ji8) < (y258.length : Int)
            ·rw [if_pos c75] at H
             have c75b0 : decide ((ji8) < (y258.length : Int)) = true := decide_eq_true c75
             clear c75
             have HT := mk0 (Option.some.inj H)
             clear H
             try go_wp2
             have n0_ := mk0 (Kd.N_drew HO_226000.out)
             have n1_ := mk0 (Kd.N_drew HO_231004.out)
             have n2_ := mk0 (Kd.N_drew HO_231008.out)
             have n3_ := mk0 (blk_drew BK225.out)
             have n4_ := mk0 (blk_drew BK230.out)
             have n5_ := mk0 (below_drew1 HB.out)
             clear HO_226000
             clear HO_231004
             clear HO_231008
             clear BK225
             clear BK230
             clear HB
             have HO_226000 := n0_
             have HO_231004 := n1_
             have HO_231008 := n2_
             have BK225 := n3_
             have BK230 := n4_
             have HB := n5_
             clear n0_ n1_ n2_ n3_ n4_ n5_
             refine start_ (n := 11) (S := fun w' => w'.cell? ⟨gb225, 0, none⟩ = some (.slice Ao15 t221.length co15) ∧ w'.cell? ⟨gb225, 1, none⟩ = some (.int .i64 t224) ∧ w'.cell? ⟨gb230, 0, none⟩ = some (.string (rdOf ByteArray.empty y226 (ji8))) ∧ w'.cell? ⟨gb230, 1, none⟩ = some (.int .i64 x231001_10) ∧ w'.cell? ⟨gb230, 2, none⟩ = some (.int .i64 x231002_10) ∧ w'.cell? ⟨gb230, 3, none⟩ = some (.string x231003_10) ∧ w'.cell? ⟨gb230, 4, none⟩ = some (u231004) ∧ w'.cell? ⟨gb230, 5, none⟩ = some (.int .i64 x231005_29) ∧ w'.cell? ⟨gb230, 6, none⟩ = some (.int .i64 x231006_29) ∧ w'.cell? ⟨gb230, 7, none⟩ = some (.string x231007_29) ∧ w'.cell? ⟨gb230, 8, none⟩ = some (u231008)) (ds := []) #[false, false, false, false, false, false, false, false, false, false, false] (by kernel_rfl) rfl rfl ⟨(blk_cell BK225.out 0).trans rfl, (blk_cell BK225.out 1).trans rfl, (blk_cell BK230.out 0).trans rfl, (blk_cell BK230.out 1).trans rfl, (blk_cell BK230.out 2).trans rfl, (blk_cell BK230.out 3).trans rfl, (blk_cell BK230.out 4).trans rfl, (blk_cell BK230.out 5).trans rfl, (blk_cell BK230.out 6).trans rfl, (blk_cell BK230.out 7).trans rfl, (blk_cell BK230.out 8).trans rfl⟩ (fun hHeld => ?_); refine with_tabW furrowlaw9_EvalConds.tab10 furrowlaw9_EvalConds.bits10 (fun HT_ HW_ => ?_)
             generalize wc.drew = w76 at HO_226000 HO_231004 HO_231008 BK225 BK230 HB hHeld ⊢
             refine take_ (i := 0) (N := some 47) (v := ?_) (a' := ?_) #[true, false, false, false, false, false, false, false, false, false, false] rfl rfl (take_ofW HT_.out HW_.out (by kernel_rfl)) (fun _ _ _ h => h) (Or.inl ⟨by rfl, ?_⟩) hHeld ?_ ?_
             rotate_left
             ·rintro w' ⟨s0, s1, s2, s3, s4, s5, s6, s7, s8, s9, s10⟩
              go_simp
              with_reducible rfl
             rotate_left
             ·simp only [Act.put, List.setIfInBounds_toArray, List.set_cons_zero, List.set_cons_succ, i64_w, i32_w]
              rfl
             refine take_ (i := 2) (N := some 49) (v := ?_) (a' := ?_) #[true, false, true, false, false, false, false, false, false, false, false] rfl rfl (take_ofW HT_.out HW_.out (by kernel_rfl)) (fun _ _ _ h => h) (Or.inl ⟨by rfl, ?_⟩) hHeld ?_ ?_
             rotate_left
             ·rintro w' ⟨s0, s1, s2, s3, s4, s5, s6, s7, s8, s9, s10⟩
              go_simp
              with_reducible rfl
             rotate_left
             ·simp only [Act.put, List.setIfInBounds_toArray, List.set_cons_zero, List.set_cons_succ, i64_w, i32_w]
              rfl
             refine take_ (i := 4) (N := some 51) (v := ?_) (a' := ?_) #[true, false, true, false, true, false, false, false, false, false, false] rfl rfl (take_ofW HT_.out HW_.out (by kernel_rfl)) (fun _ _ _ h => h) (Or.inl ⟨by rfl, ?_⟩) hHeld ?_ ?_
             rotate_left
             ·rintro w' ⟨s0, s1, s2, s3, s4, s5, s6, s7, s8, s9, s10⟩
              go_simp
              with_reducible rfl
             rotate_left
             ·simp only [Act.put, List.setIfInBounds_toArray, List.set_cons_zero, List.set_cons_succ, i64_w, i32_w]
              rfl
             refine one_ (i := 1) (N := some 48) #[true, true, true, false, true, false, false, false, false, false, false] rfl rfl (one_of HT_.out (by kernel_rfl)) (by decide) (fun K hK => ?_)
             refine goes_ Tryd.func15 (by kernel_rfl) rfl #[.agg #[.slice Ao15 t221.length co15, .int .i64 t224]] (by rfl) rfl rfl (by (try simp only [List.map_toArray, List.map_cons, List.map_nil]); first | done | rfl | (simp only [List.length_drop, List.length_take]; rfl)) ?_
             with_reducible refine (furrowlaw8_To.calls kj29 (fun k_ => (some k_ ≠ (u231004 : Value).ownBlock ∧ (some k_ ≠ (u231008 : Value).ownBlock ∧ (k_ ≠ gb225 ∧ k_ ≠ gb230)))) _ _ t221 t224 t237 t240 _ ?side1 A37.out).mono ?_
             (case side1 => exact Kd.N_V (HO_226000.out))
             rintro e w77 ⟨v238, rfl, ho0, hb⟩
             refine ⟨_, rfl, ?_⟩
             have n0_ := mk0 (Kd.N_elder' (uN HO_226000.out) (Kd.N_base ho0) hb)
             have n1_ := mk0 (Kd.N_elder' (uN HO_231004.out) (Kd.N_base ho0) hb)
             have n2_ := mk0 (Kd.N_elder' (uN HO_231008.out) (Kd.N_base ho0) hb)
             have n3_ := mk0 (Kd.N_lower (Kd.N_mono (ok' := fun k_ => some k_ ≠ (u231004 : Value).ownBlock ∧ some k_ ≠ (u231008 : Value).ownBlock ∧ k_ ≠ gb225 ∧ k_ ≠ gb230) ho0 (fun k_ hk_ => ⟨Or.elim hk_ (fun hs_ => hs_.1) (fun hn_ => (Kd.fresh' (Kd.N_lt (uN HO_231004.out)) k_ hn_)), Or.elim hk_ (fun hs_ => hs_.2.1) (fun hn_ => (Kd.fresh' (Kd.N_lt (uN HO_231008.out)) k_ hn_)), Or.elim hk_ (fun hs_ => hs_.2.2.1) (fun hn_ => (Kd.freshB (g := gb225) (o := .cells #[.slice Ao15 t221.length co15, .int .i64 t224] 29 (0, 0)) (uB BK225.out) k_ hn_)), Or.elim hk_ (fun hs_ => hs_.2.2.2) (fun hn_ => (Kd.freshB (g := gb230) (o := .cells #[.string (rdOf ByteArray.empty y226 (ji8)), .int .i64 x231001_10, .int .i64 x231002_10, .string x231003_10, u231004, .int .i64 x231005_29, .int .i64 x231006_29, .string x231007_29, u231008] 57 (0, 0)) (uB BK230.out) k_ hn_))⟩)) (below_size (by repeat (first | (with_reducible first | exact HB.out | apply bA | apply bN | apply bD | refine bS ?_ (by assumption)) | exact HB.out))))
             have n4_ := mk0 (blk_below (g := gb225) (o := .cells #[.slice Ao15 t221.length co15, .int .i64 t224] 29 (0, 0)) (uB BK225.out) hb)
             have n5_ := mk0 (blk_below (g := gb230) (o := .cells #[.string (rdOf ByteArray.empty y226 (ji8)), .int .i64 x231001_10, .int .i64 x231002_10, .string x231003_10, u231004, .int .i64 x231005_29, .int .i64 x231006_29, .string x231007_29, u231008] 57 (0, 0)) (uB BK230.out) hb)
             have n6_ := mk0 (below_step (by repeat (first | (with_reducible first | exact HB.out | apply bA | apply bN | apply bD | refine bS ?_ (by assumption)) | exact HB.out)) hb)
             clear HO_226000
             clear HO_231004
             clear HO_231008
             clear BK225
             clear BK230
             clear HB
             have HO_226000 := n0_
             have HO_231004 := n1_
             have HO_231008 := n2_
             have HO239 := n3_
             have BK225 := n4_
             have BK230 := n5_
             have HB := n6_
             clear n0_ n1_ n2_ n3_ n4_ n5_ n6_
             (try clear hb)
             (try clear hb2)
             (try clear hk)
             (try clear hi)
             (try clear ho0)
             refine hK.out _ _ ⟨(blk_cell BK225.out 0).trans rfl, (blk_cell BK225.out 1).trans rfl, (blk_cell BK230.out 0).trans rfl, (blk_cell BK230.out 1).trans rfl, (blk_cell BK230.out 2).trans rfl, (blk_cell BK230.out 3).trans rfl, (blk_cell BK230.out 4).trans rfl, (blk_cell BK230.out 5).trans rfl, (blk_cell BK230.out 6).trans rfl, (blk_cell BK230.out 7).trans rfl, (blk_cell BK230.out 8).trans rfl⟩ (fun hHeld => ?_)
             clear hK K
             refine norm_ (a' := ?_) ?_ ?_
             rotate_left
             ·show Act.put _ (some 48) _ = _
              simp only [Act.put, List.setIfInBounds_toArray, List.set_cons_zero, List.set_cons_succ, i64_w, i32_w]
              rfl
             refine one_ (i := 3) (N := some 50) #[true, true, true, true, true, false, false, false, false, false, false] rfl rfl (one_of HT_.out (by kernel_rfl)) (by decide) (fun K hK => ?_)
             refine goes_ Tryd.func13 (by kernel_rfl) rfl #[.agg #[.slice Ao15 t221.length co15, .int .i64 t224], .slice none 0 0] (by rfl) rfl rfl (by (try simp only [List.map_toArray, List.map_cons, List.map_nil]); first | done | rfl | (simp only [List.length_drop, List.length_take]; rfl)) ?_
             refine (furrowlaw9_store.calls kj29 _ _ t221 t224 _ _ ([] : List Int) t241 _ ?side1 ?side2 ?side3 ?side4 A38.out).mono ?_
             (case side1 => repeat (first | exact (Kd.N_reads' HO_226000.out).2.2 | (with_reducible refine Kd.C_alloc ?_ _) | (with_reducible refine Kd.C_drewN ?_ _) | (with_reducible refine Kd.C_drew ?_)))
             (case side2 => exact (Kd.N_reads' HO_226000.out).2.1)
             (case side3 => exact Kd.C_nil _ _)
             (case side4 => exact Nat.le_refl _)
             rintro e w78 ⟨v242, rfl, ho0, hb⟩
             refine ⟨_, rfl, ?_⟩
             have n0_ := mk0 (Kd.N_elder' (uN HO_226000.out) (Kd.R_base ho0) hb)
             have n1_ := mk0 (Kd.N_elder' (uN HO_231004.out) (Kd.R_base ho0) hb)
             have n2_ := mk0 (Kd.N_elder' (uN HO_231008.out) (Kd.R_base ho0) hb)
             have n3_ := mk0 (Kd.N_elder' (uN HO239.out) (Kd.R_base ho0) hb)
             have n4_ := mk0 (Kd.R_lower ho0 (below_size (by repeat (first | (with_reducible first | exact HB.out | apply bA | apply bN | apply bD | refine bS ?_ (by assumption)) | exact HB.out))))
             have n5_ := mk0 (blk_below (g := gb225) (o := .cells #[.slice Ao15 t221.length co15, .int .i64 t224] 29 (0, 0)) (uB BK225.out) hb)
             have n6_ := mk0 (blk_below (g := gb230) (o := .cells #[.string (rdOf ByteArray.empty y226 (ji8)), .int .i64 x231001_10, .int .i64 x231002_10, .string x231003_10, u231004, .int .i64 x231005_29, .int .i64 x231006_29, .string x231007_29, u231008] 57 (0, 0)) (uB BK230.out) hb)
             have n7_ := mk0 (below_step (by repeat (first | (with_reducible first | exact HB.out | apply bA | apply bN | apply bD | refine bS ?_ (by assumption)) | exact HB.out)) hb)
             clear HO_226000
             clear HO_231004
             clear HO_231008
             clear HO239
             clear BK225
             clear BK230
             clear HB
             have HO_226000 := n0_
             have HO_231004 := n1_
             have HO_231008 := n2_
             have HO239 := n3_
             have HO243 := n4_
             have BK225 := n5_
             have BK230 := n6_
             have HB := n7_
             clear n0_ n1_ n2_ n3_ n4_ n5_ n6_ n7_
             (try clear hb)
             (try clear hb2)
             (try clear hk)
             (try clear hi)
             (try clear ho0)
             obtain ⟨Ao79, co79, eo79⟩ := Kd.N_slice HO239.out
             (first | subst eo79 | (injection eo79 with f1_ f2_ f3_; have f4_ := f1_.symm; have f5_ := f3_.symm; clear f1_ f2_ f3_; subst f4_; subst f5_))
             obtain ⟨Ao80, co80, eo80⟩ := Kd.R_slice HO243.out
             (first | subst eo80 | (injection eo80 with f1_ f2_ f3_; have f4_ := f1_.symm; have f5_ := f3_.symm; clear f1_ f2_ f3_; subst f4_; subst f5_))
             obtain ⟨Ao81, co81, eo81⟩ := Kd.N_slice HO_231004.out
             (first | subst eo81 | (injection eo81 with f1_ f2_ f3_; have f4_ := f1_.symm; have f5_ := f3_.symm; clear f1_ f2_ f3_; subst f4_; subst f5_))
             obtain ⟨Ao82, co82, eo82⟩ := Kd.N_slice HO_231008.out
             (first | subst eo82 | (injection eo82 with f1_ f2_ f3_; have f4_ := f1_.symm; have f5_ := f3_.symm; clear f1_ f2_ f3_; subst f4_; subst f5_))
             refine hK.out _ _ ⟨(blk_cell BK225.out 0).trans rfl, (blk_cell BK225.out 1).trans rfl, (blk_cell BK230.out 0).trans rfl, (blk_cell BK230.out 1).trans rfl, (blk_cell BK230.out 2).trans rfl, (blk_cell BK230.out 3).trans rfl, (blk_cell BK230.out 4).trans rfl, (blk_cell BK230.out 5).trans rfl, (blk_cell BK230.out 6).trans rfl, (blk_cell BK230.out 7).trans rfl, (blk_cell BK230.out 8).trans rfl⟩ (fun hHeld => ?_)
             clear hK K
             refine norm_ (a' := ?_) ?_ ?_
             rotate_left
             ·show Act.put _ (some 50) _ = _
              simp only [Act.put, List.setIfInBounds_toArray, List.set_cons_zero, List.set_cons_succ, i64_w, i32_w]
              rfl
             refine one_ (i := 5) (N := some 52) #[true, true, true, true, true, true, false, false, false, false, false] rfl rfl (one_of HT_.out (by kernel_rfl)) (by decide) (fun K hK => ?_)
             refine goes_ Tryd.func20 (by kernel_rfl) rfl #[.agg #[.slice Ao79 t237.length co79, .int .i64 t240], .slice Ao80 t241.length co80, .agg #[.string (rdOf ByteArray.empty y226 (ji8)), .int .i64 x231001_10, .int .i64 x231002_10, .string x231003_10, .slice Ao81 x231004_10.length co81, .int .i64 x231005_29, .int .i64 x231006_29, .string x231007_29, .slice Ao82 x231008_29.length co82]] (by rfl) rfl rfl (by (try simp only [List.map_toArray, List.map_cons, List.map_nil]); first | done | (simp only [hji8]; rfl) | rfl | (simp only [List.length_drop, List.length_take]; rfl)) ?_
             with_reducible refine (eval_Holds.calls kj29 _ _ t237 t240 _ _ t241 (rdOf ByteArray.empty y226 (ji8)) x231001_10 x231002_10 x231003_10 _ _ x231004_10 x231005_29 x231006_29 x231007_29 _ _ x231008_29 t244 t245 _ ?side1 ?side2 ?side3 ?side4 ?side5 ?side6 ?side7 ?side8 A39.out).mono ?_
             (case side1 => repeat (first | exact (Kd.N_reads' HO239.out).2.2 | (with_reducible refine Kd.C_alloc ?_ _) | (with_reducible refine Kd.C_drewN ?_ _) | (with_reducible refine Kd.C_drew ?_)))
             (case side2 => exact (Kd.N_reads' HO239.out).2.1)
             (case side3 => repeat (first | exact (Kd.R_reads' HO243.out).2.2 | (with_reducible refine Kd.C_alloc ?_ _) | (with_reducible refine Kd.C_drewN ?_ _) | (with_reducible refine Kd.C_drew ?_)))
             (case side4 => exact (Kd.R_reads' HO243.out).2.1)
             (case side5 => repeat (first | exact (Kd.N_reads' HO_231004.out).2.2 | (with_reducible refine Kd.C_alloc ?_ _) | (with_reducible refine Kd.C_drewN ?_ _) | (with_reducible refine Kd.C_drew ?_)))
             (case side6 => exact (Kd.N_reads' HO_231004.out).2.1)
             (case side7 => repeat (first | exact (Kd.N_reads' HO_231008.out).2.2 | (with_reducible refine Kd.C_alloc ?_ _) | (with_reducible refine Kd.C_drewN ?_ _) | (with_reducible refine Kd.C_drew ?_)))
             (case side8 => exact (Kd.N_reads' HO_231008.out).2.1)
             rintro e w83 ⟨v246, rfl, ho0, hb⟩
             refine ⟨_, rfl, ?_⟩
             have n0_ := mk0 (Kd.N_elder' (uN HO_226000.out) (Kd.R_base ho0) hb)
             have n1_ := mk0 (Kd.N_elder' (uN HO_231004.out) (Kd.R_base ho0) hb)
             have n2_ := mk0 (Kd.N_elder' (uN HO_231008.out) (Kd.R_base ho0) hb)
             have n3_ := mk0 (Kd.N_elder' (uN HO239.out) (Kd.R_base ho0) hb)
             have n4_ := mk0 (Kd.R_below (uR HO243.out) hb)
             have n5_ := mk0 (Kd.R_lower ho0 (below_size (by repeat (first | (with_reducible first | exact HB.out | apply bA | apply bN | apply bD | refine bS ?_ (by assumption)) | exact HB.out))))
             have n6_ := mk0 (blk_below (g := gb225) (o := .cells #[.slice Ao15 t221.length co15, .int .i64 t224] 29 (0, 0)) (uB BK225.out) hb)
             have n7_ := mk0 (blk_below (g := gb230) (o := .cells #[.string (rdOf ByteArray.empty y226 (ji8)), .int .i64 x231001_10, .int .i64 x231002_10, .string x231003_10, .slice Ao81 x231004_10.length co81, .int .i64 x231005_29, .int .i64 x231006_29, .string x231007_29, .slice Ao82 x231008_29.length co82] 57 (0, 0)) (uB BK230.out) hb)
             have n8_ := mk0 (below_step (by repeat (first | (with_reducible first | exact HB.out | apply bA | apply bN | apply bD | refine bS ?_ (by assumption)) | exact HB.out)) hb)
             clear HO_226000
             clear HO_231004
             clear HO_231008
             clear HO239
             clear HO243
             clear BK225
             clear BK230
             clear HB
             have HO_226000 := n0_
             have HO_231004 := n1_
             have HO_231008 := n2_
             have HO239 := n3_
             have HO243 := n4_
             have HO247 := n5_
             have BK225 := n6_
             have BK230 := n7_
             have HB := n8_
             clear n0_ n1_ n2_ n3_ n4_ n5_ n6_ n7_ n8_
             (try clear hb)
             (try clear hb2)
             (try clear hk)
             (try clear hi)
             (try clear ho0)
             (first | (have EHO247 := cmpV_no HO247.out (by with_reducible assumption)) | (have EHO247 := cmpV_yes HO247.out (by with_reducible assumption)) | skip)
             refine hK.out _ _ ⟨(blk_cell BK225.out 0).trans rfl, (blk_cell BK225.out 1).trans rfl, (blk_cell BK230.out 0).trans rfl, (blk_cell BK230.out 1).trans rfl, (blk_cell BK230.out 2).trans rfl, (blk_cell BK230.out 3).trans rfl, (blk_cell BK230.out 4).trans rfl, (blk_cell BK230.out 5).trans rfl, (blk_cell BK230.out 6).trans rfl, (blk_cell BK230.out 7).trans rfl, (blk_cell BK230.out 8).trans rfl⟩ (fun hHeld => ?_)
             clear hK K
             refine norm_ (a' := ?_) ?_ ?_
             rotate_left
             ·show Act.put _ (some 52) _ = _
              simp only [Act.put, List.setIfInBounds_toArray, List.set_cons_zero, List.set_cons_succ, i64_w, i32_w]
              rfl
             refine pure_ (i := 6) (N := some 46) (v := ?_) (a' := ?_) #[true, true, true, true, true, true, true, false, false, false, false] rfl rfl (any_of HT_.out (by kernel_rfl)) (fun _ _ _ h => h) (Or.inl ⟨by rfl, ?_⟩) ?_ ?_
             rotate_left
             ·intro w'
              go_simp
              with_reducible rfl
             rotate_left
             ·simp only [Act.put, List.setIfInBounds_toArray, List.set_cons_zero, List.set_cons_succ, i64_w, i32_w]
              rfl
             refine pure_ (i := 7) (N := some 53) (v := ?_) (a' := ?_) #[true, true, true, true, true, true, true, true, false, false, false] rfl rfl (any_of HT_.out (by kernel_rfl)) (fun _ _ _ h => h) (Or.inl ⟨by rfl, ?_⟩) ?_ ?_
             rotate_left
             ·intro w'
              go_simp
              with_reducible rfl
             rotate_left
             ·simp only [Act.put, List.setIfInBounds_toArray, List.set_cons_zero, List.set_cons_succ, i64_w, i32_w]
              rfl
             refine pure_ (i := 8) (N := some 54) (v := ?_) (a' := ?_) #[true, true, true, true, true, true, true, true, true, false, false] rfl rfl (any_of HT_.out (by kernel_rfl)) (fun _ _ _ h => h) (Or.inl ⟨by rfl, ?_⟩) ?_ ?_
             rotate_left
             ·intro w'
              go_simp
              with_reducible rfl
             rotate_left
             ·simp only [Act.put, List.setIfInBounds_toArray, List.set_cons_zero, List.set_cons_succ, i64_w, i32_w]
              rfl
             refine pure_ (i := 9) (N := some 12) (v := ?_) (a' := ?_) #[true, true, true, true, true, true, true, true, true, true, false] rfl rfl (any_of HT_.out (by kernel_rfl)) (fun _ _ _ h => h) (Or.inl ⟨by rfl, ?_⟩) ?_ ?_
             rotate_left
             ·intro w'
              go_simp
              with_reducible rfl
             rotate_left
             ·simp only [Act.put, List.setIfInBounds_toArray, List.set_cons_zero, List.set_cons_succ, i64_w, i32_w]
              rfl
             refine pure_ (i := 10) (N := some 13) (v := ?_) (a' := ?_) #[true, true, true, true, true, true, true, true, true, true, true] rfl rfl (any_of HT_.out (by kernel_rfl)) (fun _ _ _ h => h) (Or.inl ⟨by rfl, ?_⟩) ?_ ?_
             rotate_left
             ·intro w'
              go_simp
              with_reducible rfl
             rotate_left
             ·simp only [Act.put, List.setIfInBounds_toArray, List.set_cons_zero, List.set_cons_succ, i64_w, i32_w]
              rfl
             refine done_ (done_of HT_.out (by kernel_rfl)) ?_
             try go_wp2_with (first | ((with_reducible refine gate_dst (N := 96) rfl ?_); refine Kd.R_lit Kd.bool _ 4 ?hg (N := 96) ?hd (xs := ([decide (a0 < a1), decide (a0 ≤ a1), decide (a0 > a1), decide (a0 ≥ a1), (a0 == a1), (a0 != a1)] : List Bool)) (inner := [.bool (decide (a0 < a1)), .bool (decide (a0 ≤ a1)), .bool (decide (a0 > a1)), .bool (decide (a0 ≥ a1)), .bool (a0 == a1), .bool (a0 != a1)]) (ok := fun _ => True) (okp := fun _ => True) ?hr ?hp (fun _ hk => hk) trivial (Below.refl _ _) (Nat.le_refl _) (by simp) ?_; (case hd => rfl); (case hg => rfl); (case hr => first | (go_simp; done) | (go_simp; rfl)); (case hp => exact (Reps.one (show Kd.M Kd.bool _ _ _ (decide (a0 < a1)) [.bool (decide (a0 < a1))] from rfl) (Reps.one (show Kd.M Kd.bool _ _ _ (decide (a0 ≤ a1)) [.bool (decide (a0 ≤ a1))] from rfl) (Reps.one (show Kd.M Kd.bool _ _ _ (decide (a0 > a1)) [.bool (decide (a0 > a1))] from rfl) (Reps.one (show Kd.M Kd.bool _ _ _ (decide (a0 ≥ a1)) [.bool (decide (a0 ≥ a1))] from rfl) (Reps.one (show Kd.M Kd.bool _ _ _ (a0 == a1) [.bool (a0 == a1)] from rfl) (Reps.one (show Kd.M Kd.bool _ _ _ (a0 != a1) [.bool (a0 != a1)] from rfl) (Reps.none _ _)))))))); intro v259 w84 ho85 hb hg_ hnew_; clear hg_ hnew_; (first | rw [← Ny258.out] at ho85 | (simp only [Int.reduceToNat] at ho85; rw [← Ny258.out] at ho85)); have n0_ := mk0 (Kd.N_elder' (uN HO_226000.out) (Kd.R_base ho85) hb); have n1_ := mk0 (Kd.N_elder' (uN HO_231004.out) (Kd.R_base ho85) hb); have n2_ := mk0 (Kd.N_elder' (uN HO_231008.out) (Kd.R_base ho85) hb); have n3_ := mk0 (Kd.N_elder' (uN HO239.out) (Kd.R_base ho85) hb); have n4_ := mk0 (Kd.R_below (uR HO243.out) hb); have n5_ := mk0 (Kd.R_below (uR HO247.out) hb); have n6_ := mk0 (Kd.R_lower ho85 (below_size (by repeat (first | (with_reducible first | exact HB.out | apply bA | apply bN | apply bD | refine bS ?_ (by assumption)) | exact HB.out)))); have n7_ := mk0 (blk_below (g := gb225) (o := .cells #[.slice Ao15 t221.length co15, .int .i64 t224] 29 (0, 0)) (uB BK225.out) hb); have n8_ := mk0 (blk_below (g := gb230) (o := .cells #[.string (rdOf ByteArray.empty y226 (ji8)), .int .i64 x231001_10, .int .i64 x231002_10, .string x231003_10, .slice Ao81 x231004_10.length co81, .int .i64 x231005_29, .int .i64 x231006_29, .string x231007_29, .slice Ao82 x231008_29.length co82] 57 (0, 0)) (uB BK230.out) hb); have n9_ := mk0 (below_step (by repeat (first | (with_reducible first | exact HB.out | apply bA | apply bN | apply bD | refine bS ?_ (by assumption)) | exact HB.out)) hb); clear HO_226000; clear HO_231004; clear HO_231008; clear HO239; clear HO243; clear HO247; clear BK225; clear BK230; clear HB; have HO_226000 := n0_; have HO_231004 := n1_; have HO_231008 := n2_; have HO239 := n3_; have HO243 := n4_; have HO247 := n5_; have HO260 := n6_; have BK225 := n7_; have BK230 := n8_; have HB := n9_; clear n0_ n1_ n2_ n3_ n4_ n5_ n6_ n7_ n8_ n9_; clear hb ho85; obtain ⟨Ao86, co86, eo86⟩ := Kd.R_slice HO260.out; subst eo86; have p261 : 0 ≤ ((ji8) : Int) := of_decide_eq_true (by first | (with_reducible assumption) | assumption); have q261 : (ji8) < (y258.length : Int) := of_decide_eq_true (by first | (with_reducible assumption) | assumption); obtain ⟨ad261, e261, hx261_0⟩ := Kd.at_bool (Kd.R_reads' HO260.out).2.2 (ji8) p261 q261; cases e261; replace p261 := eq_true p261; replace q261 := eq_true q261))
             go_ret
             exact ⟨by first | rfl | (simp [errW_none, errW_some] <;> rfl) | (simp only [← hji8]; first | rfl | (simp [errW_none, errW_some] <;> rfl)) | (exact congrArg (fun b_ => Ending.returned (Value.bool b_)) HT.out) | (rw [show _ = _ from HT.out]) | (simp [HT.out]; done) | (simp [show _ = _ from HT.out]; done) | (simp [*, errW_none, errW_some] <;> rfl), by repeat (first | (with_reducible first | exact HB.out | apply bA | apply bN | apply bD | refine bS ?_ (by assumption)) | exact HB.out)⟩
            ·rw [if_neg c75] at H
             exact absurd H (by simp)
           ·rw [if_neg c74] at H
            exact absurd H (by simp)
          ·rw [if_neg c72] at H
           have c72b0 : ((t245.length : Int) == 0) = false := beq_eq_false_iff_ne.mpr c72
           have c72b1 : ((t245.length : Int) != 0) = true := bne_iff_ne.mpr c72
           have c72b2 : ¬ (t245 = []) := fun h_ => c72 (by rw [h_]; rfl)
           exact absurd H (by simp)
   ·rw [if_neg c10] at H
    exact absurd H (by simp)
  ·rw [if_neg c9] at H
   exact absurd H (by simp)
 ·replace c6 := Bool.eq_false_iff.mpr c6
  subst c6
  have H1 : (some false) = some true := by rw [if_neg (show ¬ (false = true) by decide)] at H; first | done | exact H
  clear H
  have H := H1
  clear H1
  exact absurd H (by simp)

/-- THE ONE PURE STATEMENT of furrowlaw9_EvalConds: yours. -/
def furrowlaw9_EvalConds.Pure : Prop := ∀ (a0 : Int) (a1 : Int) (a2 : Int) (a3 : Int), (Lit.int .i64 a0).wf = true → (Lit.int .i64 a1).wf = true → (Lit.int .u8 a2).wf = true → (Lit.int .u8 a3).wf = true → ∃ k, furrowlaw9_EvalConds.f k a0 a1 a2 a3 = some true
theorem furrowlaw9_EvalConds.walk (P : furrowlaw9_EvalConds.Pure) (a0 : Int) (a1 : Int) (a2 : Int) (a3 : Int) (w : World) (w0 : (Lit.int .i64 a0).wf = true) (w1 : (Lit.int .i64 a1).wf = true) (w2 : (Lit.int .u8 a2).wf = true) (w3 : (Lit.int .u8 a3).wf = true) (hG : Glob w) :
  Calls Tryd.prog 4 #[.int .i64 a0, .int .i64 a1, .int .u8 a2, .int .u8 a3] w fun e w' => e = .returned (.bool true) ∧ Below w.heap.size w w' := by
 obtain ⟨k, h⟩ := P a0 a1 a2 a3 w0 w1 w2 w3
 refine (furrowlaw9_EvalConds.calls k a0 a1 a2 a3  w hG h).mono ?_
 rintro e w' ⟨rfl, hd⟩
 exact ⟨rfl, hd⟩

end Go.Proofs.YtmhkijidnpihmaaDoor.X
