-- PRINTED by print.py (a twelfth state) out of the translation. Not trusted: Lean checks it.
import Derived.Test.YteeeoblpfepepaaDoorXx0
import Derived.Test.YteeeoblpfepepaaDoorXx1
import Derived.Test.YteeeoblpfepepaaDoorXx11
import Derived.Test.YteeeoblpfepepaaDoorXx12
import Derived.Test.YteeeoblpfepepaaDoorXx14
import Derived.Test.YteeeoblpfepepaaDoorXx3
import Derived.Test.YteeeoblpfepepaaDoorXx4
import Derived.Test.YteeeoblpfepepaaDoorXx6
import Derived.Test.YteeeoblpfepepaaDoorXx7
import Derived.Test.YteeeoblpfepepaaDoorXx8
import Derived.Test.YteeeoblpfepepaaDoorXx9
import Derived.Test.YteeeoblpfepepaaDoorHandB
import Derived.Test.YteeeoblpfepepaaDoorHandE
namespace Go.Proofs.YteeeoblpfepepaaDoor.X
open Go.Proofs.YteeeoblpfepepaaDoor.Flt Go.Proofs.YteeeoblpfepepaaDoor.H Go.RowKit Go.Proofs.YteeeoblpfepepaaDoorW.PrintWords Go.Proofs.YteeeoblpfepepaaDoorW.PrintLast Go.Proofs.YteeeoblpfepepaaDoorW.PrintMore
attribute [local go_sem] max2_int min2_int max_two min_two max_three min_three max_four min_four   -- for this text's walks alone
set_option linter.unusedVariables false
set_option linter.unusedSimpArgs false

/-! ### furrowlaw3_EditAny: function 7 -/
def furrowlaw3_EditAny.f (k : Nat) (l0 : List ByteArray) (l1 : List (S38)) : Option (Bool) := (furrowlaw3_known.f k).bind fun t374 => (if t374 = true then ((furrowlaw3_few.f k l0 l1).bind fun t375 => (if t375 = true then ((furrowlaw3_Of.f k l1).bind fun t376 => ((furrowref4_CheckEdits.f k (l0.length : Int) t376).bind fun bt379 => ((edit_Apply.f k l0 l1).bind fun bt384 => ((furrowref4_Apply.f k l0 t376).bind fun bt390 => ((edit_Back.f k l0 l1).bind fun bt398 => ((furrowref4_Back.f k l0 t376).bind fun bt404 => ((edit_Check.f k (l0.length : Int) l1).bind fun t412 => ((furrowlaw2_Tells.f t412 bt379.1 bt379.2).bind fun t415 => (if t415 = true then ((furrowlaw2_Tells.f bt384.2 bt379.1 bt379.2).bind fun t416 => (if t416 = true then ((furrowlaw2_Tells.f bt398.2 bt379.1 bt379.2).bind fun t417 => (if t417 = true then ((furrowref4_SameLines.f k bt384.1 bt390.1).bind fun t418 => (if t418 = true then ((furrowlaw3_Same.f k bt398.1 bt404.1).bind fun t419 => (some t419)) else (some false))) else (some false))) else (some false))) else (some false)))))))))) else (some true))) else (some false))
theorem furrowlaw3_EditAny.mono : ∀ a0 a1 k, LeO (furrowlaw3_EditAny.f k a0 a1) (furrowlaw3_EditAny.f (k + 1) a0 a1) := by
 intro a0 a1 k
 unfold furrowlaw3_EditAny.f
 repeat' first
   | (with_reducible exact edit_Apply.mono _ _ _)
   | (with_reducible exact edit_Back.mono _ _ _)
   | (with_reducible exact edit_Check.mono _ _ _)
   | (with_reducible exact furrowlaw3_Of.mono _ _)
   | (with_reducible exact furrowlaw3_Same.mono _ _ _)
   | (with_reducible exact furrowlaw3_few.mono _ _ _)
   | (with_reducible exact furrowlaw3_known.mono _)
   | (with_reducible exact furrowref4_Apply.mono _ _ _)
   | (with_reducible exact furrowref4_Back.mono _ _ _)
   | (with_reducible exact furrowref4_CheckEdits.mono _ _ _)
   | (with_reducible exact furrowref4_SameLines.mono _ _ _)
   | (with_reducible exact LeO.refl _)
   | (with_reducible exact LeO.none _)
   | (with_reducible refine LeO.ite ?_ ?_)
   | (with_reducible refine LeO.bind ?_ (fun _ => ?_))
   | exact edit_Apply.mono _ _ _
   | exact edit_Back.mono _ _ _
   | exact edit_Check.mono _ _ _
   | exact furrowlaw3_Of.mono _ _
   | exact furrowlaw3_Same.mono _ _ _
   | exact furrowlaw3_few.mono _ _ _
   | exact furrowlaw3_known.mono _
   | exact furrowref4_Apply.mono _ _ _
   | exact furrowref4_Back.mono _ _ _
   | exact furrowref4_CheckEdits.mono _ _ _
   | exact furrowref4_SameLines.mono _ _ _
   | exact LeO.none _
   | refine LeO.ite ?_ ?_
   | refine LeO.bind ?_ (fun _ => ?_)
def furrowlaw3_EditAny.T11 : Bool × List (List Nat × List Nat) := (true, [([], []), ([0], [0]), ([], []), ([1, 2], [1, 2]), ([], []), ([3, 4, 3], [3, 4]), ([5, 5], [5]), ([6], [6]), ([6], [6]), ([7, 8, 6, 6], [6, 7, 8]), ([6, 9], [6, 9]), ([10, 9], [10]), ([11], [11]), ([11], [11]), ([12, 13, 11, 11], [11, 12, 13]), ([11, 14], [11, 14]), ([15, 14], [15]), ([16], [16]), ([16], [16]), ([17, 18, 16, 16], [16, 17, 18]), ([16, 19], [16, 19]), ([20, 19], [20]), ([21], [21]), ([21], [21]), ([22, 23, 21, 21], [21, 22, 23]), ([21, 24], [21, 24]), ([25, 24, 0, 1, 2, 3, 4, 5, 6, 7, 8, 9, 10, 11, 12, 13, 14, 15, 16, 17, 18, 19, 20, 21, 22, 23, 24, 25], [25])])
def furrowlaw3_EditAny.B11 : List Nat := [0, 1, 0, 7, 0, 31, 63, 127, 127, 511, 1023, 2047, 4095, 4095, 16383, 32767, 65535, 131071, 131071, 524287, 1048575, 2097151, 4194303, 4194303, 16777215, 33554431, 67108863]
theorem furrowlaw3_EditAny.tab11 : rtab .any (opsOf Tryd.f7 11) = furrowlaw3_EditAny.T11 := by kernel_rfl
theorem furrowlaw3_EditAny.bits11 : waitsOk furrowlaw3_EditAny.T11.2 furrowlaw3_EditAny.B11 = true := by kernel_rfl
set_option maxHeartbeats 8000000 in
set_option maxRecDepth 100000 in
theorem furrowlaw3_EditAny.calls (k : Nat) (A0 : Option Addr) (c0 : Nat) (l0 : List ByteArray) (A1 : Option Addr) (c1 : Nat) (l1 : List (S38)) (w : World) (hr0 : Kd.C Kd.string w A0 l0.length l0) (hc0 : l0.length ≤ c0) (hr1 : Kd.C k38 w A1 l1.length l1) (hc1 : l1.length ≤ c1) (hG : Glob w) (h : furrowlaw3_EditAny.f k l0 l1 = some true) :
  Calls Tryd.prog 7 #[.slice A0 l0.length c0, .slice A1 l1.length c1] w fun e w' => e = .returned (.bool true) ∧ Below w.heap.size w w' := by
 have hu43 := Tryd.underlying43
 have HR0 := mk0 hr0
 have HC0 := mk0 hc0
 clear hr0 hc0
 have HR1 := mk0 hr1
 have HC1 := mk0 hc1
 clear hr1 hc1
 have HG := mk0 hG
 clear hG
 have HB := mk0 (Below.refl w.heap.size w)
 have H : ((furrowlaw3_known.f k).bind fun t374 => (if t374 = true then ((furrowlaw3_few.f k l0 l1).bind fun t375 => (if t375 = true then ((furrowlaw3_Of.f k l1).bind fun t376 => ((furrowref4_CheckEdits.f k (l0.length : Int) t376).bind fun bt379 => ((edit_Apply.f k l0 l1).bind fun bt384 => ((furrowref4_Apply.f k l0 t376).bind fun bt390 => ((edit_Back.f k l0 l1).bind fun bt398 => ((furrowref4_Back.f k l0 t376).bind fun bt404 => ((edit_Check.f k (l0.length : Int) l1).bind fun t412 => ((furrowlaw2_Tells.f t412 bt379.1 bt379.2).bind fun t415 => (if t415 = true then ((furrowlaw2_Tells.f bt384.2 bt379.1 bt379.2).bind fun t416 => (if t416 = true then ((furrowlaw2_Tells.f bt398.2 bt379.1 bt379.2).bind fun t417 => (if t417 = true then ((furrowref4_SameLines.f k bt384.1 bt390.1).bind fun t418 => (if t418 = true then ((furrowlaw3_Same.f k bt398.1 bt404.1).bind fun t419 => (some t419)) else (some false))) else (some false))) else (some false))) else (some false)))))))))) else (some true))) else (some false))) = some true := h
 clear h
 replace H := Option.bind_eq_some_iff.mp H
 obtain ⟨t374, A30, H⟩ := H
 replace H : (if t374 = true then ((furrowlaw3_few.f k l0 l1).bind fun t375 => (if t375 = true then ((furrowlaw3_Of.f k l1).bind fun t376 => ((furrowref4_CheckEdits.f k (l0.length : Int) t376).bind fun bt379 => ((edit_Apply.f k l0 l1).bind fun bt384 => ((furrowref4_Apply.f k l0 t376).bind fun bt390 => ((edit_Back.f k l0 l1).bind fun bt398 => ((furrowref4_Back.f k l0 t376).bind fun bt404 => ((edit_Check.f k (l0.length : Int) l1).bind fun t412 => ((furrowlaw2_Tells.f t412 bt379.1 bt379.2).bind fun t415 => (if t415 = true then ((furrowlaw2_Tells.f bt384.2 bt379.1 bt379.2).bind fun t416 => (if t416 = true then ((furrowlaw2_Tells.f bt398.2 bt379.1 bt379.2).bind fun t417 => (if t417 = true then ((furrowref4_SameLines.f k bt384.1 bt390.1).bind fun t418 => (if t418 = true then ((furrowlaw3_Same.f k bt398.1 bt404.1).bind fun t419 => (some t419)) else (some false))) else (some false))) else (some false))) else (some false)))))))))) else (some true))) else (some false)) = some true := H
 have A3 := mk0 A30
 clear A30
 by_cases c4 : t374 = true
 ·subst c4
  have H1 : ((furrowlaw3_few.f k l0 l1).bind fun t375 => (if t375 = true then ((furrowlaw3_Of.f k l1).bind fun t376 => ((furrowref4_CheckEdits.f k (l0.length : Int) t376).bind fun bt379 => ((edit_Apply.f k l0 l1).bind fun bt384 => ((furrowref4_Apply.f k l0 t376).bind fun bt390 => ((edit_Back.f k l0 l1).bind fun bt398 => ((furrowref4_Back.f k l0 t376).bind fun bt404 => ((edit_Check.f k (l0.length : Int) l1).bind fun t412 => ((furrowlaw2_Tells.f t412 bt379.1 bt379.2).bind fun t415 => (if t415 = true then ((furrowlaw2_Tells.f bt384.2 bt379.1 bt379.2).bind fun t416 => (if t416 = true then ((furrowlaw2_Tells.f bt398.2 bt379.1 bt379.2).bind fun t417 => (if t417 = true then ((furrowref4_SameLines.f k bt384.1 bt390.1).bind fun t418 => (if t418 = true then ((furrowlaw3_Same.f k bt398.1 bt404.1).bind fun t419 => (some t419)) else (some false))) else (some false))) else (some false))) else (some false)))))))))) else (some true))) = some true := by rw [if_pos rfl] at H; first | done | exact H
  clear H
  have H := H1
  clear H1
  replace H := Option.bind_eq_some_iff.mp H
  obtain ⟨t375, A50, H⟩ := H
  replace H : (if t375 = true then ((furrowlaw3_Of.f k l1).bind fun t376 => ((furrowref4_CheckEdits.f k (l0.length : Int) t376).bind fun bt379 => ((edit_Apply.f k l0 l1).bind fun bt384 => ((furrowref4_Apply.f k l0 t376).bind fun bt390 => ((edit_Back.f k l0 l1).bind fun bt398 => ((furrowref4_Back.f k l0 t376).bind fun bt404 => ((edit_Check.f k (l0.length : Int) l1).bind fun t412 => ((furrowlaw2_Tells.f t412 bt379.1 bt379.2).bind fun t415 => (if t415 = true then ((furrowlaw2_Tells.f bt384.2 bt379.1 bt379.2).bind fun t416 => (if t416 = true then ((furrowlaw2_Tells.f bt398.2 bt379.1 bt379.2).bind fun t417 => (if t417 = true then ((furrowref4_SameLines.f k bt384.1 bt390.1).bind fun t418 => (if t418 = true then ((furrowlaw3_Same.f k bt398.1 bt404.1).bind fun t419 => (some t419)) else (some false))) else (some false))) else (some false))) else (some false)))))))))) else (some true)) = some true := H
  have A5 := mk0 A50
  clear A50
  by_cases c6 : t375 = true
  ·subst c6
   have H1 : ((furrowlaw3_Of.f k l1).bind fun t376 => ((furrowref4_CheckEdits.f k (l0.length : Int) t376).bind fun bt379 => ((edit_Apply.f k l0 l1).bind fun bt384 => ((furrowref4_Apply.f k l0 t376).bind fun bt390 => ((edit_Back.f k l0 l1).bind fun bt398 => ((furrowref4_Back.f k l0 t376).bind fun bt404 => ((edit_Check.f k (l0.length : Int) l1).bind fun t412 => ((furrowlaw2_Tells.f t412 bt379.1 bt379.2).bind fun t415 => (if t415 = true then ((furrowlaw2_Tells.f bt384.2 bt379.1 bt379.2).bind fun t416 => (if t416 = true then ((furrowlaw2_Tells.f bt398.2 bt379.1 bt379.2).bind fun t417 => (if t417 = true then ((furrowref4_SameLines.f k bt384.1 bt390.1).bind fun t418 => (if t418 = true then ((furrowlaw3_Same.f k bt398.1 bt404.1).bind fun t419 => (some t419)) else (some false))) else (some false))) else (some false))) else (some false)))))))))) = some true := by rw [if_pos rfl] at H; first | done | exact H
   clear H
   have H := H1
   clear H1
   replace H := Option.bind_eq_some_iff.mp H
   obtain ⟨t376, A70, H⟩ := H
   replace H : ((furrowref4_CheckEdits.f k (l0.length : Int) t376).bind fun bt379 => ((edit_Apply.f k l0 l1).bind fun bt384 => ((furrowref4_Apply.f k l0 t376).bind fun bt390 => ((edit_Back.f k l0 l1).bind fun bt398 => ((furrowref4_Back.f k l0 t376).bind fun bt404 => ((edit_Check.f k (l0.length : Int) l1).bind fun t412 => ((furrowlaw2_Tells.f t412 bt379.1 bt379.2).bind fun t415 => (if t415 = true then ((furrowlaw2_Tells.f bt384.2 bt379.1 bt379.2).bind fun t416 => (if t416 = true then ((furrowlaw2_Tells.f bt398.2 bt379.1 bt379.2).bind fun t417 => (if t417 = true then ((furrowref4_SameLines.f k bt384.1 bt390.1).bind fun t418 => (if t418 = true then ((furrowlaw3_Same.f k bt398.1 bt404.1).bind fun t419 => (some t419)) else (some false))) else (some false))) else (some false))) else (some false))))))))) = some true := H
   have A7 := mk0 A70
   clear A70
   replace H := Option.bind_eq_some_iff.mp H
   obtain ⟨⟨t379, t382⟩, A80, H⟩ := H
   replace H : ((edit_Apply.f k l0 l1).bind fun bt384 => ((furrowref4_Apply.f k l0 t376).bind fun bt390 => ((edit_Back.f k l0 l1).bind fun bt398 => ((furrowref4_Back.f k l0 t376).bind fun bt404 => ((edit_Check.f k (l0.length : Int) l1).bind fun t412 => ((furrowlaw2_Tells.f t412 t379 t382).bind fun t415 => (if t415 = true then ((furrowlaw2_Tells.f bt384.2 t379 t382).bind fun t416 => (if t416 = true then ((furrowlaw2_Tells.f bt398.2 t379 t382).bind fun t417 => (if t417 = true then ((furrowref4_SameLines.f k bt384.1 bt390.1).bind fun t418 => (if t418 = true then ((furrowlaw3_Same.f k bt398.1 bt404.1).bind fun t419 => (some t419)) else (some false))) else (some false))) else (some false))) else (some false)))))))) = some true := H
   have A8 := mk0 A80
   clear A80
   replace H := Option.bind_eq_some_iff.mp H
   obtain ⟨⟨t384, t385⟩, A90, H⟩ := H
   replace H : ((furrowref4_Apply.f k l0 t376).bind fun bt390 => ((edit_Back.f k l0 l1).bind fun bt398 => ((furrowref4_Back.f k l0 t376).bind fun bt404 => ((edit_Check.f k (l0.length : Int) l1).bind fun t412 => ((furrowlaw2_Tells.f t412 t379 t382).bind fun t415 => (if t415 = true then ((furrowlaw2_Tells.f t385 t379 t382).bind fun t416 => (if t416 = true then ((furrowlaw2_Tells.f bt398.2 t379 t382).bind fun t417 => (if t417 = true then ((furrowref4_SameLines.f k t384 bt390.1).bind fun t418 => (if t418 = true then ((furrowlaw3_Same.f k bt398.1 bt404.1).bind fun t419 => (some t419)) else (some false))) else (some false))) else (some false))) else (some false))))))) = some true := H
   have A9 := mk0 A90
   clear A90
   replace H := Option.bind_eq_some_iff.mp H
   obtain ⟨⟨t390, t393, t396⟩, A100, H⟩ := H
   replace H : ((edit_Back.f k l0 l1).bind fun bt398 => ((furrowref4_Back.f k l0 t376).bind fun bt404 => ((edit_Check.f k (l0.length : Int) l1).bind fun t412 => ((furrowlaw2_Tells.f t412 t379 t382).bind fun t415 => (if t415 = true then ((furrowlaw2_Tells.f t385 t379 t382).bind fun t416 => (if t416 = true then ((furrowlaw2_Tells.f bt398.2 t379 t382).bind fun t417 => (if t417 = true then ((furrowref4_SameLines.f k t384 t390).bind fun t418 => (if t418 = true then ((furrowlaw3_Same.f k bt398.1 bt404.1).bind fun t419 => (some t419)) else (some false))) else (some false))) else (some false))) else (some false)))))) = some true := H
   have A10 := mk0 A100
   clear A100
   replace H := Option.bind_eq_some_iff.mp H
   obtain ⟨⟨t398, t399⟩, A110, H⟩ := H
   replace H : ((furrowref4_Back.f k l0 t376).bind fun bt404 => ((edit_Check.f k (l0.length : Int) l1).bind fun t412 => ((furrowlaw2_Tells.f t412 t379 t382).bind fun t415 => (if t415 = true then ((furrowlaw2_Tells.f t385 t379 t382).bind fun t416 => (if t416 = true then ((furrowlaw2_Tells.f t399 t379 t382).bind fun t417 => (if t417 = true then ((furrowref4_SameLines.f k t384 t390).bind fun t418 => (if t418 = true then ((furrowlaw3_Same.f k t398 bt404.1).bind fun t419 => (some t419)) else (some false))) else (some false))) else (some false))) else (some false))))) = some true := H
   have A11 := mk0 A110
   clear A110
   replace H := Option.bind_eq_some_iff.mp H
   obtain ⟨⟨t404, t407, t410⟩, A120, H⟩ := H
   replace H : ((edit_Check.f k (l0.length : Int) l1).bind fun t412 => ((furrowlaw2_Tells.f t412 t379 t382).bind fun t415 => (if t415 = true then ((furrowlaw2_Tells.f t385 t379 t382).bind fun t416 => (if t416 = true then ((furrowlaw2_Tells.f t399 t379 t382).bind fun t417 => (if t417 = true then ((furrowref4_SameLines.f k t384 t390).bind fun t418 => (if t418 = true then ((furrowlaw3_Same.f k t398 t404).bind fun t419 => (some t419)) else (some false))) else (some false))) else (some false))) else (some false)))) = some true := H
   have A12 := mk0 A120
   clear A120
   replace H := Option.bind_eq_some_iff.mp H
   obtain ⟨t412, A130, H⟩ := H
   replace H : ((furrowlaw2_Tells.f t412 t379 t382).bind fun t415 => (if t415 = true then ((furrowlaw2_Tells.f t385 t379 t382).bind fun t416 => (if t416 = true then ((furrowlaw2_Tells.f t399 t379 t382).bind fun t417 => (if t417 = true then ((furrowref4_SameLines.f k t384 t390).bind fun t418 => (if t418 = true then ((furrowlaw3_Same.f k t398 t404).bind fun t419 => (some t419)) else (some false))) else (some false))) else (some false))) else (some false))) = some true := H
   have A13 := mk0 A130
   clear A130
   replace H := Option.bind_eq_some_iff.mp H
   obtain ⟨t415, A140, H⟩ := H
   replace H : (if t415 = true then ((furrowlaw2_Tells.f t385 t379 t382).bind fun t416 => (if t416 = true then ((furrowlaw2_Tells.f t399 t379 t382).bind fun t417 => (if t417 = true then ((furrowref4_SameLines.f k t384 t390).bind fun t418 => (if t418 = true then ((furrowlaw3_Same.f k t398 t404).bind fun t419 => (some t419)) else (some false))) else (some false))) else (some false))) else (some false)) = some true := H
   have A14 := mk0 A140
   clear A140
   by_cases c15 : t415 = true
   ·subst c15
    have H1 : ((furrowlaw2_Tells.f t385 t379 t382).bind fun t416 => (if t416 = true then ((furrowlaw2_Tells.f t399 t379 t382).bind fun t417 => (if t417 = true then ((furrowref4_SameLines.f k t384 t390).bind fun t418 => (if t418 = true then ((furrowlaw3_Same.f k t398 t404).bind fun t419 => (some t419)) else (some false))) else (some false))) else (some false))) = some true := by rw [if_pos rfl] at H; first | done | exact H
    clear H
    have H := H1
    clear H1
    replace H := Option.bind_eq_some_iff.mp H
    obtain ⟨t416, A160, H⟩ := H
    replace H : (if t416 = true then ((furrowlaw2_Tells.f t399 t379 t382).bind fun t417 => (if t417 = true then ((furrowref4_SameLines.f k t384 t390).bind fun t418 => (if t418 = true then ((furrowlaw3_Same.f k t398 t404).bind fun t419 => (some t419)) else (some false))) else (some false))) else (some false)) = some true := H
    have A16 := mk0 A160
    clear A160
    by_cases c17 : t416 = true
    ·subst c17
     have H1 : ((furrowlaw2_Tells.f t399 t379 t382).bind fun t417 => (if t417 = true then ((furrowref4_SameLines.f k t384 t390).bind fun t418 => (if t418 = true then ((furrowlaw3_Same.f k t398 t404).bind fun t419 => (some t419)) else (some false))) else (some false))) = some true := by rw [if_pos rfl] at H; first | done | exact H
     clear H
     have H := H1
     clear H1
     replace H := Option.bind_eq_some_iff.mp H
     obtain ⟨t417, A180, H⟩ := H
     replace H : (if t417 = true then ((furrowref4_SameLines.f k t384 t390).bind fun t418 => (if t418 = true then ((furrowlaw3_Same.f k t398 t404).bind fun t419 => (some t419)) else (some false))) else (some false)) = some true := H
     have A18 := mk0 A180
     clear A180
     by_cases c19 : t417 = true
     ·subst c19
      have H1 : ((furrowref4_SameLines.f k t384 t390).bind fun t418 => (if t418 = true then ((furrowlaw3_Same.f k t398 t404).bind fun t419 => (some t419)) else (some false))) = some true := by rw [if_pos rfl] at H; first | done | exact H
      clear H
      have H := H1
      clear H1
      replace H := Option.bind_eq_some_iff.mp H
      obtain ⟨t418, A200, H⟩ := H
      replace H : (if t418 = true then ((furrowlaw3_Same.f k t398 t404).bind fun t419 => (some t419)) else (some false)) = some true := H
      have A20 := mk0 A200
      clear A200
      by_cases c21 : t418 = true
      ·subst c21
       have H1 : ((furrowlaw3_Same.f k t398 t404).bind fun t419 => (some t419)) = some true := by rw [if_pos rfl] at H; first | done | exact H
       clear H
       have H := H1
       clear H1
       replace H := Option.bind_eq_some_iff.mp H
       obtain ⟨t419, A220, H⟩ := H
       replace H : (some t419) = some true := H
       have A22 := mk0 A220
       clear A220
       have HT := mk0 (Option.some.inj H)
       clear H
       go_enter Tryd.func7, Tryd.ntmps7
       try go_wp2_with (first | ((with_reducible refine gate_callee (f := 10) rfl ?_); refine goesL_ (some 15) rfl rfl Tryd.func10 (by kernel_rfl) rfl #[] rfl (by (try simp only [List.map_toArray, List.map_cons, List.map_nil]); first | done | rfl | (simp only [List.length_drop, List.length_take]; rfl)) ?_; (with_reducible refine (furrowlaw3_known.calls k   _ ?side1 A3.out).mono ?_); (case side1 => exact Glob.below HG.out (uL HB.out)); rintro e w23 ⟨rfl, hb⟩; refine ⟨_, rfl, ?_⟩; have n0_ := mk0 (below_step (uL HB.out) hb); clear HB; have HB := n0_; clear n0_; (try clear hb); (try clear hb2); (try clear hk); (try clear hi)) | ((with_reducible refine gate_callee (f := 11) rfl ?_); refine goesL_ (some 19) rfl rfl Tryd.func11 (by kernel_rfl) rfl #[.slice A0 l0.length c0, .slice A1 l1.length c1] rfl (by (try simp only [List.map_toArray, List.map_cons, List.map_nil]); first | done | rfl | (simp only [List.length_drop, List.length_take]; rfl)) ?_; (with_reducible refine (furrowlaw3_few.calls k _ _ l0 _ _ l1 true _ ?side1 ?side2 ?side3 ?side4 A5.out).mono ?_); (case side1 => repeat (first | exact (Kd.C_below HR0.out HB.out) | (with_reducible refine Kd.C_alloc ?_ _) | (with_reducible refine Kd.C_drewN ?_ _) | (with_reducible refine Kd.C_drew ?_))); (case side2 => exact HC0.out); (case side3 => repeat (first | exact (Kd.C_below HR1.out HB.out) | (with_reducible refine Kd.C_alloc ?_ _) | (with_reducible refine Kd.C_drewN ?_ _) | (with_reducible refine Kd.C_drew ?_))); (case side4 => exact HC1.out); rintro e w' ⟨rfl, ⟨nd, rfl⟩⟩; refine ⟨_, rfl, ?_⟩; (try (rw [drewN_self w23]; generalize hq_ : World.drewN w23 _ = w23; have n0_ : Aside0 (Below w.heap.size w w23) := ⟨by rw [← hq_]; exact (uL HB.out)⟩; clear HB hq_; have HB := n0_; clear n0_))) | ((with_reducible refine gate_callee (f := 18) rfl ?_); refine goesL_ (some 22) rfl rfl Tryd.func18 (by kernel_rfl) rfl #[.slice A1 l1.length c1] rfl (by (try simp only [List.map_toArray, List.map_cons, List.map_nil]); first | done | rfl | (simp only [List.length_drop, List.length_take]; rfl)) ?_; (with_reducible refine (furrowlaw3_Of.calls k (fun k_ => k_ < w.heap.size) _ _ l1 t376 _ ?side1 A7.out).mono ?_); (case side1 => exact Kd.V_mk HC1.out (Kd.F_below (Kd.C_F k38_heap HR1.out) (uL HB.out))); rintro e w24 ⟨v377, rfl, ho0, hb⟩; refine ⟨_, rfl, ?_⟩; have n0_ := mk0 (Kd.N_lower (Kd.N_mono (ok' := fun k_ => True) ho0 (fun k_ hk_ => trivial)) (below_size (uL HB.out))); have n1_ := mk0 (below_step (uL HB.out) hb); clear HB; have HO378 := n0_; have HB := n1_; clear n0_ n1_; (try clear hb); (try clear hb2); (try clear hk); (try clear hi); (try clear ho0); obtain ⟨Ao25, co25, eo25⟩ := Kd.N_slice HO378.out; subst eo25) | ((with_reducible refine gate_callee (f := 19) rfl ?_); refine goesL_ (some 26) rfl rfl Tryd.func19 (by kernel_rfl) rfl #[.int .i64 (l0.length : Int), .slice Ao25 t376.length co25] rfl (by (try simp only [List.map_toArray, List.map_cons, List.map_nil]); first | done | rfl | (simp only [List.length_drop, List.length_take]; rfl)) ?_; (with_reducible refine (furrowref4_CheckEdits.calls k (l0.length : Int) _ _ t376 t379 t382 _ ?side1 ?side2 A8.out).mono ?_); (case side1 => repeat (first | exact (Kd.N_reads' HO378.out).2.2 | (with_reducible refine Kd.C_alloc ?_ _) | (with_reducible refine Kd.C_drewN ?_ _) | (with_reducible refine Kd.C_drew ?_))); (case side2 => exact (Kd.N_reads' HO378.out).2.1); rintro e w26 ⟨v380, rfl, ho0, hb⟩; refine ⟨_, rfl, ?_⟩; have n0_ := mk0 (Kd.N_elder' (uN HO378.out) (Kd.R_base ho0) hb); have n1_ := mk0 (Kd.R_lower ho0 (below_size (uL HB.out))); have n2_ := mk0 (below_step (uL HB.out) hb); clear HO378; clear HB; have HO378 := n0_; have HO381 := n1_; have HB := n2_; clear n0_ n1_ n2_; (try clear hb); (try clear hb2); (try clear hk); (try clear hi); (try clear ho0)) | ((with_reducible refine gate_dst (N := 6) rfl ?_); refine box_event ?hg (N := 6) ?hd (cs := #[.slice none 0 0, .int .i64 0]) (t := 43) ?hr ?_; (case hd => rfl); (case hg => rfl); (case hr => first | (go_simp; done) | (go_simp; rfl)); intro gb383 hg w27 hbox hb; have n0_ := mk0 (Kd.N_below (Kd.N_elderB (uN HO378.out) gb383 (Nat.le_of_eq hg.symm)) hb); have n1_ := mk0 (Kd.R_below (uR HO381.out) hb); have n2_ := mk0 (below_step (uL HB.out) hb); have n3_ := mk0 (hbox); have n4_ := mk0 ((by rw [hg]; exact (below_size (uL HB.out)) : w.heap.size ≤ gb383)); have n5_ := mk0 ((by rw [hg]; exact (below_size (uL HB.out)) : w.heap.size ≤ gb383)); clear HO378; clear HO381; clear HB; have HO378 := n0_; have HO381 := n1_; have HB := n2_; have BK383 := n3_; have GW383 := n4_; have GE383 := n5_; clear n0_ n1_ n2_ n3_ n4_ n5_; clear hb hbox hg; obtain ⟨Ao28, co28, eo28⟩ := Kd.R_slice HO381.out; subst eo28; have hcz29_0 : w27.cell? ⟨gb383, 0, none⟩ = some (.slice none 0 0) := (blk_cell BK383.out 0).trans rfl; have hcz29_1 : w27.cell? ⟨gb383, 1, none⟩ = some (.int .i64 0) := (blk_cell BK383.out 1).trans rfl; have hfz29_0 := blk_frozen BK383.out 0; have hfz29_1 := blk_frozen BK383.out 1) | ((with_reducible refine gate_callee (f := 12) rfl ?_); refine goesL_ (some 30) rfl rfl Tryd.func12 (by kernel_rfl) rfl #[.slice A0 l0.length c0, .slice A1 l1.length c1] rfl (by (try simp only [List.map_toArray, List.map_cons, List.map_nil]); first | done | rfl | (simp only [List.length_drop, List.length_take]; rfl)) ?_; (with_reducible refine (edit_Apply.calls k _ _ l0 _ _ l1 t384 t385 _ ?side1 ?side2 ?side3 ?side4 A9.out).mono ?_); (case side1 => exact Kd.C_below HR0.out (by repeat (first | (with_reducible first | exact HB.out | apply bA | apply bN | apply bD | refine bS ?_ (by assumption)) | exact HB.out))); (case side2 => exact HC0.out); (case side3 => exact Kd.C_below HR1.out (by repeat (first | (with_reducible first | exact HB.out | apply bA | apply bN | apply bD | refine bS ?_ (by assumption)) | exact HB.out))); (case side4 => exact HC1.out); rintro e w30 ⟨v386, v388, rfl, ho0, ho1, hb⟩; refine ⟨_, rfl, ?_⟩; have n0_ := mk0 (Kd.N_mono (Kd.N_told (Kd.N_told (Kd.N_old (uN (Kd.N_mono (Kd.N_far (p := ⟨gb383, 1, none⟩) (Kd.N_far (p := ⟨gb383, 0, none⟩) (Kd.N_mono HO378.out (fun k_ hk => (⟨hk, hk.2⟩ : _ ∧ k_ ≠ gb383))) (fun _ hk => hk.2) (.slice Ao28 t379.length co28)) (fun _ hk => hk.2) (.int .i64 t382)) (fun _ h_ => h_.1))) hb) (Kd.R_base ho0)) (Kd.R_base ho1)) (fun _ h_ => h_.1)); have n1_ := mk0 (Kd.R_below (uR (Kd.R_mono (Kd.R_far (p := ⟨gb383, 1, none⟩) (Kd.R_far (p := ⟨gb383, 0, none⟩) (Kd.R_types HO381.out BK383.out (by decide)) (fun _ hk => hk.2) (.slice Ao28 t379.length co28)) (fun _ hk => hk.2) (.int .i64 t382)) (fun _ h_ => h_.1))) hb); have n2_ := mk0 (Kd.R_lower ho0 (below_size (by repeat (first | (with_reducible first | exact HB.out | apply bA | apply bN | apply bD | refine bS ?_ (by assumption)) | exact HB.out)))); have n3_ := mk0 (Kd.R_lower ho1 (below_size (by repeat (first | (with_reducible first | exact HB.out | apply bA | apply bN | apply bD | refine bS ?_ (by assumption)) | exact HB.out)))); have n4_ := mk0 (blk_below (g := gb383) (o := .cells #[.slice Ao28 t379.length co28, .int .i64 t382] 43 (0, 0)) (by (with_reducible repeat (first | refine blk_drewN ?_ _ | refine blk_drew ?_ | refine blk_alloc ?_ _)); refine blk_put (cs := #[.slice Ao28 t379.length co28, .int .i64 0]) ?_ 1 _ rfl; (with_reducible repeat (first | refine blk_drewN ?_ _ | refine blk_drew ?_ | refine blk_alloc ?_ _)); refine blk_put (cs := #[.slice none 0 0, .int .i64 0]) ?_ 0 _ rfl; (with_reducible repeat (first | refine blk_drewN ?_ _ | refine blk_drew ?_ | refine blk_alloc ?_ _)); exact BK383.out) hb); have n5_ := mk0 (below_step (by repeat (first | (with_reducible first | exact HB.out | apply bA | apply bN | apply bD | refine bS ?_ (by assumption)) | exact HB.out)) hb); clear HO378; clear HO381; clear BK383; clear HB; have HO378 := n0_; have HO381 := n1_; have HO387 := n2_; have HO389 := n3_; have BK383 := n4_; have HB := n5_; clear n0_ n1_ n2_ n3_ n4_ n5_; (try clear hb); (try clear hb2); (try clear hk); (try clear hi); (try clear ho0); (try clear ho1); (first | (have EHO389 := cmpV_no HO389.out (by with_reducible assumption)) | (have EHO389 := cmpV_yes HO389.out (by with_reducible assumption)) | skip)) | ((with_reducible refine gate_callee (f := 20) rfl ?_); refine goesL_ (some 36) rfl rfl Tryd.func20 (by kernel_rfl) rfl #[.slice A0 l0.length c0, .slice Ao25 t376.length co25] rfl (by (try simp only [List.map_toArray, List.map_cons, List.map_nil]); first | done | rfl | (simp only [List.length_drop, List.length_take]; rfl)) ?_; (with_reducible refine (furrowref4_Apply.calls k _ _ l0 _ _ t376 t390 t393 t396 _ ?side1 ?side2 ?side3 ?side4 A10.out).mono ?_); (case side1 => repeat (first | exact (Kd.C_below HR0.out HB.out) | (with_reducible refine Kd.C_alloc ?_ _) | (with_reducible refine Kd.C_drewN ?_ _) | (with_reducible refine Kd.C_drew ?_))); (case side2 => exact HC0.out); (case side3 => repeat (first | exact (Kd.N_reads' HO378.out).2.2 | (with_reducible refine Kd.C_alloc ?_ _) | (with_reducible refine Kd.C_drewN ?_ _) | (with_reducible refine Kd.C_drew ?_))); (case side4 => exact (Kd.N_reads' HO378.out).2.1); rintro e w31 ⟨v391, v394, rfl, ho0, ho1, hb⟩; refine ⟨_, rfl, ?_⟩; have n0_ := mk0 (Kd.N_mono (Kd.N_told (Kd.N_told (Kd.N_old (uN HO378.out) hb) (Kd.R_base ho0)) (Kd.R_base ho1)) (fun _ h_ => h_.1)); have n1_ := mk0 (Kd.R_elder' (uR HO381.out) (Kd.R_base ho1) hb); have n2_ := mk0 (Kd.R_elder' (uR HO387.out) (Kd.R_base ho0) hb); have n3_ := mk0 (Kd.R_below (uR HO389.out) hb); have n4_ := mk0 (Kd.R_lower (Kd.R_new' ho0 (Kd.R_lt (uR HO387.out))) (below_size (by repeat (first | (with_reducible first | exact HB.out | apply bA | apply bN | apply bD | refine bS ?_ (by assumption)) | exact HB.out)))); have n5_ := mk0 (Kd.R_lower (Kd.R_new' ho1 (Kd.R_lt (uR HO381.out))) (below_size (by repeat (first | (with_reducible first | exact HB.out | apply bA | apply bN | apply bD | refine bS ?_ (by assumption)) | exact HB.out)))); have n6_ := mk0 (blk_below (g := gb383) (o := .cells #[.slice Ao28 t379.length co28, .int .i64 t382] 43 (0, 0)) (uB BK383.out) hb); have n7_ := mk0 (below_step (by repeat (first | (with_reducible first | exact HB.out | apply bA | apply bN | apply bD | refine bS ?_ (by assumption)) | exact HB.out)) hb); clear HO378; clear HO381; clear HO387; clear HO389; clear BK383; clear HB; have HO378 := n0_; have HO381 := n1_; have HO387 := n2_; have HO389 := n3_; have HO392 := n4_; have HO395 := n5_; have BK383 := n6_; have HB := n7_; clear n0_ n1_ n2_ n3_ n4_ n5_ n6_ n7_; (try clear hb); (try clear hb2); (try clear hk); (try clear hi); (try clear ho0); (try clear ho1)) | ((with_reducible refine gate_dst (N := 10) rfl ?_); refine box_event ?hg (N := 10) ?hd (cs := #[.slice none 0 0, .int .i64 0]) (t := 43) ?hr ?_; (case hd => rfl); (case hg => rfl); (case hr => first | (go_simp; done) | (go_simp; rfl)); intro gb397 hg w32 hbox hb; have n0_ := mk0 (Kd.N_below (Kd.N_elderB (uN HO378.out) gb397 (Nat.le_of_eq hg.symm)) hb); have n1_ := mk0 (Kd.R_below (uR HO381.out) hb); have n2_ := mk0 (Kd.R_below (uR HO387.out) hb); have n3_ := mk0 (Kd.R_below (uR HO389.out) hb); have n4_ := mk0 (Kd.R_below (uR HO392.out) hb); have n5_ := mk0 (Kd.R_below (uR HO395.out) hb); have n6_ := mk0 (blk_below (g := gb383) (o := .cells #[.slice Ao28 t379.length co28, .int .i64 t382] 43 (0, 0)) (uB BK383.out) hb); have n7_ := mk0 (below_step (by repeat (first | (with_reducible first | exact HB.out | apply bA | apply bN | apply bD | refine bS ?_ (by assumption)) | exact HB.out)) hb); have n8_ := mk0 (hbox); have n9_ := mk0 ((by rw [hg]; exact (below_size (by repeat (first | (with_reducible first | exact HB.out | apply bA | apply bN | apply bD | refine bS ?_ (by assumption)) | exact HB.out))) : w.heap.size ≤ gb397)); have n10_ := mk0 ((by rw [hg]; exact (below_size (by repeat (first | (with_reducible first | exact HB.out | apply bA | apply bN | apply bD | refine bS ?_ (by assumption)) | exact HB.out))) : w.heap.size ≤ gb397)); have n11_ := mk0 ((by rw [hg]; exact Nat.ne_of_lt (blk_lt (g := gb383) (o := .cells #[.slice Ao28 t379.length co28, .int .i64 t382] 43 (0, 0)) (uB BK383.out)) : gb383 ≠ gb397)); have n12_ := mk0 ((by rw [hg]; exact Nat.ne_of_gt (blk_lt (g := gb383) (o := .cells #[.slice Ao28 t379.length co28, .int .i64 t382] 43 (0, 0)) (uB BK383.out)) : gb397 ≠ gb383)); clear HO378; clear HO381; clear HO387; clear HO389; clear HO392; clear HO395; clear BK383; clear HB; have HO378 := n0_; have HO381 := n1_; have HO387 := n2_; have HO389 := n3_; have HO392 := n4_; have HO395 := n5_; have BK383 := n6_; have HB := n7_; have BK397 := n8_; have GW397 := n9_; have GE397 := n10_; have NB383_397 := n11_; have NB397_383 := n12_; clear n0_ n1_ n2_ n3_ n4_ n5_ n6_ n7_ n8_ n9_ n10_ n11_ n12_; clear hb hbox hg; obtain ⟨Ao33, co33, eo33⟩ := Kd.R_slice HO395.out; subst eo33; have hnb34 := NB397_383.out; have hnc34 := NB383_397.out; have hcz35_0 : w32.cell? ⟨gb397, 0, none⟩ = some (.slice none 0 0) := (blk_cell BK397.out 0).trans rfl; have hcz35_1 : w32.cell? ⟨gb397, 1, none⟩ = some (.int .i64 0) := (blk_cell BK397.out 1).trans rfl; have hfz35_0 := blk_frozen BK397.out 0; have hfz35_1 := blk_frozen BK397.out 1) | ((with_reducible refine gate_callee (f := 13) rfl ?_); refine goesL_ (some 42) rfl rfl Tryd.func13 (by kernel_rfl) rfl #[.slice A0 l0.length c0, .slice A1 l1.length c1] rfl (by (try simp only [List.map_toArray, List.map_cons, List.map_nil]); first | done | rfl | (simp only [List.length_drop, List.length_take]; rfl)) ?_; (with_reducible refine (edit_Back.calls k _ _ l0 _ _ l1 t398 t399 _ ?side1 ?side2 ?side3 ?side4 ?side5 A11.out).mono ?_); (case side1 => exact Kd.C_below HR0.out (by repeat (first | (with_reducible first | exact HB.out | apply bA | apply bN | apply bD | refine bS ?_ (by assumption)) | exact HB.out))); (case side2 => exact HC0.out); (case side3 => exact Kd.C_below HR1.out (by repeat (first | (with_reducible first | exact HB.out | apply bA | apply bN | apply bD | refine bS ?_ (by assumption)) | exact HB.out))); (case side4 => exact HC1.out); (case side5 => exact Glob.below HG.out (by repeat (first | (with_reducible first | exact HB.out | apply bA | apply bN | apply bD | refine bS ?_ (by assumption)) | exact HB.out))); rintro e w36 ⟨v400, v402, rfl, ho0, ho1, hb⟩; refine ⟨_, rfl, ?_⟩; have n0_ := mk0 (Kd.N_mono (Kd.N_told (Kd.N_told (Kd.N_old (uN (Kd.N_mono (Kd.N_far (p := ⟨gb397, 1, none⟩) (Kd.N_far (p := ⟨gb397, 0, none⟩) (Kd.N_mono HO378.out (fun k_ hk => (⟨hk, hk.2⟩ : _ ∧ k_ ≠ gb397))) (fun _ hk => hk.2) (.slice Ao33 t393.length co33)) (fun _ hk => hk.2) (.int .i64 t396)) (fun _ h_ => h_.1))) hb) (Kd.S_base ho0)) (Kd.R_base ho1)) (fun _ h_ => h_.1)); have n1_ := mk0 (Kd.R_below (uR (Kd.R_mono (Kd.R_far (p := ⟨gb397, 1, none⟩) (Kd.R_far (p := ⟨gb397, 0, none⟩) (Kd.R_types HO381.out BK397.out (by decide)) (fun _ hk => hk.2) (.slice Ao33 t393.length co33)) (fun _ hk => hk.2) (.int .i64 t396)) (fun _ h_ => h_.1))) hb); have n2_ := mk0 (Kd.R_below (uR (Kd.R_mono (Kd.R_far (p := ⟨gb397, 1, none⟩) (Kd.R_far (p := ⟨gb397, 0, none⟩) (Kd.R_types HO387.out BK397.out (by decide)) (fun _ hk => hk.2) (.slice Ao33 t393.length co33)) (fun _ hk => hk.2) (.int .i64 t396)) (fun _ h_ => h_.1))) hb); have n3_ := mk0 (Kd.R_elder' (uR (Kd.R_mono (Kd.R_far (p := ⟨gb397, 1, none⟩) (Kd.R_far (p := ⟨gb397, 0, none⟩) (Kd.R_types HO389.out BK397.out (by decide)) (fun _ hk => hk.2) (.slice Ao33 t393.length co33)) (fun _ hk => hk.2) (.int .i64 t396)) (fun _ h_ => h_.1))) (Kd.R_base ho1) hb); have n4_ := mk0 (Kd.R_below (uR (Kd.R_mono (Kd.R_far (p := ⟨gb397, 1, none⟩) (Kd.R_far (p := ⟨gb397, 0, none⟩) (Kd.R_types HO392.out BK397.out (by decide)) (fun _ hk => hk.2) (.slice Ao33 t393.length co33)) (fun _ hk => hk.2) (.int .i64 t396)) (fun _ h_ => h_.1))) hb); have n5_ := mk0 (Kd.R_below (uR (Kd.R_mono (Kd.R_far (p := ⟨gb397, 1, none⟩) (Kd.R_far (p := ⟨gb397, 0, none⟩) (Kd.R_types HO395.out BK397.out (by decide)) (fun _ hk => hk.2) (.slice Ao33 t393.length co33)) (fun _ hk => hk.2) (.int .i64 t396)) (fun _ h_ => h_.1))) hb); have n6_ := mk0 (Kd.N_lower (Kd.N_mono (ok' := fun k_ => some k_ ≠ (v402 : Value).ownBlock ∧ some k_ ≠ (.slice Ao25 t376.length co25 : Value).ownBlock ∧ some k_ ≠ (.slice Ao28 t379.length co28 : Value).ownBlock ∧ some k_ ≠ (v386 : Value).ownBlock ∧ some k_ ≠ (v388 : Value).ownBlock ∧ some k_ ≠ (v391 : Value).ownBlock ∧ some k_ ≠ (.slice Ao33 t393.length co33 : Value).ownBlock ∧ k_ ≠ gb383 ∧ k_ ≠ gb397) (Kd.S_N (Kd.S_bound (Kd.S_apart' ho0 (Kd.R_typed ho1) (by decide)))) (fun k_ hk_ => ⟨hk_.1.2, (Kd.fresh' (Kd.N_lt (uN (Kd.N_mono (Kd.N_far (p := ⟨gb397, 1, none⟩) (Kd.N_far (p := ⟨gb397, 0, none⟩) (Kd.N_mono HO378.out (fun k_ hk => (⟨hk, hk.2⟩ : _ ∧ k_ ≠ gb397))) (fun _ hk => hk.2) (.slice Ao33 t393.length co33)) (fun _ hk => hk.2) (.int .i64 t396)) (fun _ h_ => h_.1)))) k_ hk_.2.1), (Kd.fresh' (Kd.R_lt (uR (Kd.R_mono (Kd.R_far (p := ⟨gb397, 1, none⟩) (Kd.R_far (p := ⟨gb397, 0, none⟩) (Kd.R_types HO381.out BK397.out (by decide)) (fun _ hk => hk.2) (.slice Ao33 t393.length co33)) (fun _ hk => hk.2) (.int .i64 t396)) (fun _ h_ => h_.1)))) k_ hk_.2.1), (Kd.fresh' (Kd.R_lt (uR (Kd.R_mono (Kd.R_far (p := ⟨gb397, 1, none⟩) (Kd.R_far (p := ⟨gb397, 0, none⟩) (Kd.R_types HO387.out BK397.out (by decide)) (fun _ hk => hk.2) (.slice Ao33 t393.length co33)) (fun _ hk => hk.2) (.int .i64 t396)) (fun _ h_ => h_.1)))) k_ hk_.2.1), (Kd.fresh' (Kd.R_lt (uR (Kd.R_mono (Kd.R_far (p := ⟨gb397, 1, none⟩) (Kd.R_far (p := ⟨gb397, 0, none⟩) (Kd.R_types HO389.out BK397.out (by decide)) (fun _ hk => hk.2) (.slice Ao33 t393.length co33)) (fun _ hk => hk.2) (.int .i64 t396)) (fun _ h_ => h_.1)))) k_ hk_.2.1), (Kd.fresh' (Kd.R_lt (uR (Kd.R_mono (Kd.R_far (p := ⟨gb397, 1, none⟩) (Kd.R_far (p := ⟨gb397, 0, none⟩) (Kd.R_types HO392.out BK397.out (by decide)) (fun _ hk => hk.2) (.slice Ao33 t393.length co33)) (fun _ hk => hk.2) (.int .i64 t396)) (fun _ h_ => h_.1)))) k_ hk_.2.1), (Kd.fresh' (Kd.R_lt (uR (Kd.R_mono (Kd.R_far (p := ⟨gb397, 1, none⟩) (Kd.R_far (p := ⟨gb397, 0, none⟩) (Kd.R_types HO395.out BK397.out (by decide)) (fun _ hk => hk.2) (.slice Ao33 t393.length co33)) (fun _ hk => hk.2) (.int .i64 t396)) (fun _ h_ => h_.1)))) k_ hk_.2.1), (Kd.freshB (g := gb383) (o := .cells #[.slice Ao28 t379.length co28, .int .i64 t382] 43 (0, 0)) (by (with_reducible repeat (first | refine blk_drewN ?_ _ | refine blk_drew ?_ | refine blk_alloc ?_ _)); refine blk_far ?_ NB383_397.out _; (with_reducible repeat (first | refine blk_drewN ?_ _ | refine blk_drew ?_ | refine blk_alloc ?_ _)); refine blk_far ?_ NB383_397.out _; (with_reducible repeat (first | refine blk_drewN ?_ _ | refine blk_drew ?_ | refine blk_alloc ?_ _)); exact BK383.out) k_ hk_.2.1), (Kd.freshB (g := gb397) (o := .cells #[.slice Ao33 t393.length co33, .int .i64 t396] 43 (0, 0)) (by (with_reducible repeat (first | refine blk_drewN ?_ _ | refine blk_drew ?_ | refine blk_alloc ?_ _)); refine blk_put (cs := #[.slice Ao33 t393.length co33, .int .i64 0]) ?_ 1 _ rfl; (with_reducible repeat (first | refine blk_drewN ?_ _ | refine blk_drew ?_ | refine blk_alloc ?_ _)); refine blk_put (cs := #[.slice none 0 0, .int .i64 0]) ?_ 0 _ rfl; (with_reducible repeat (first | refine blk_drewN ?_ _ | refine blk_drew ?_ | refine blk_alloc ?_ _)); exact BK397.out) k_ hk_.2.1)⟩)) (below_size (by repeat (first | (with_reducible first | exact HB.out | apply bA | apply bN | apply bD | refine bS ?_ (by assumption)) | exact HB.out)))); have n7_ := mk0 (Kd.R_lower (Kd.R_new' ho1 (Kd.R_lt (uR (Kd.R_mono (Kd.R_far (p := ⟨gb397, 1, none⟩) (Kd.R_far (p := ⟨gb397, 0, none⟩) (Kd.R_types HO389.out BK397.out (by decide)) (fun _ hk => hk.2) (.slice Ao33 t393.length co33)) (fun _ hk => hk.2) (.int .i64 t396)) (fun _ h_ => h_.1))))) (below_size (by repeat (first | (with_reducible first | exact HB.out | apply bA | apply bN | apply bD | refine bS ?_ (by assumption)) | exact HB.out)))); have n8_ := mk0 (blk_below (g := gb383) (o := .cells #[.slice Ao28 t379.length co28, .int .i64 t382] 43 (0, 0)) (by (with_reducible repeat (first | refine blk_drewN ?_ _ | refine blk_drew ?_ | refine blk_alloc ?_ _)); refine blk_far ?_ NB383_397.out _; (with_reducible repeat (first | refine blk_drewN ?_ _ | refine blk_drew ?_ | refine blk_alloc ?_ _)); refine blk_far ?_ NB383_397.out _; (with_reducible repeat (first | refine blk_drewN ?_ _ | refine blk_drew ?_ | refine blk_alloc ?_ _)); exact BK383.out) hb); have n9_ := mk0 (blk_below (g := gb397) (o := .cells #[.slice Ao33 t393.length co33, .int .i64 t396] 43 (0, 0)) (by (with_reducible repeat (first | refine blk_drewN ?_ _ | refine blk_drew ?_ | refine blk_alloc ?_ _)); refine blk_put (cs := #[.slice Ao33 t393.length co33, .int .i64 0]) ?_ 1 _ rfl; (with_reducible repeat (first | refine blk_drewN ?_ _ | refine blk_drew ?_ | refine blk_alloc ?_ _)); refine blk_put (cs := #[.slice none 0 0, .int .i64 0]) ?_ 0 _ rfl; (with_reducible repeat (first | refine blk_drewN ?_ _ | refine blk_drew ?_ | refine blk_alloc ?_ _)); exact BK397.out) hb); have n10_ := mk0 (below_step (by repeat (first | (with_reducible first | exact HB.out | apply bA | apply bN | apply bD | refine bS ?_ (by assumption)) | exact HB.out)) hb); clear HO378; clear HO381; clear HO387; clear HO389; clear HO392; clear HO395; clear BK383; clear BK397; clear HB; have HO378 := n0_; have HO381 := n1_; have HO387 := n2_; have HO389 := n3_; have HO392 := n4_; have HO395 := n5_; have HO401 := n6_; have HO403 := n7_; have BK383 := n8_; have BK397 := n9_; have HB := n10_; clear n0_ n1_ n2_ n3_ n4_ n5_ n6_ n7_ n8_ n9_ n10_; (try clear hb); (try clear hb2); (try clear hk); (try clear hi); (try clear ho0); (try clear ho1); (first | (have EHO403 := cmpV_no HO403.out (by with_reducible assumption)) | (have EHO403 := cmpV_yes HO403.out (by with_reducible assumption)) | skip)) | ((with_reducible refine gate_callee (f := 21) rfl ?_); refine goesL_ (some 48) rfl rfl Tryd.func21 (by kernel_rfl) rfl #[.slice A0 l0.length c0, .slice Ao25 t376.length co25] rfl (by (try simp only [List.map_toArray, List.map_cons, List.map_nil]); first | done | rfl | (simp only [List.length_drop, List.length_take]; rfl)) ?_; (with_reducible refine (furrowref4_Back.calls k _ _ l0 _ _ t376 t404 t407 t410 _ ?side1 ?side2 ?side3 ?side4 A12.out).mono ?_); (case side1 => repeat (first | exact (Kd.C_below HR0.out HB.out) | (with_reducible refine Kd.C_alloc ?_ _) | (with_reducible refine Kd.C_drewN ?_ _) | (with_reducible refine Kd.C_drew ?_))); (case side2 => exact HC0.out); (case side3 => repeat (first | exact (Kd.N_reads' HO378.out).2.2 | (with_reducible refine Kd.C_alloc ?_ _) | (with_reducible refine Kd.C_drewN ?_ _) | (with_reducible refine Kd.C_drew ?_))); (case side4 => exact (Kd.N_reads' HO378.out).2.1); rintro e w37 ⟨v405, v408, rfl, ho0, ho1, hb⟩; refine ⟨_, rfl, ?_⟩; have n0_ := mk0 (Kd.N_mono (Kd.N_told (Kd.N_told (Kd.N_old (uN HO378.out) hb) (Kd.S_base ho0)) (Kd.R_base ho1)) (fun _ h_ => h_.1)); have n1_ := mk0 (Kd.R_elder' (uR HO381.out) (Kd.R_base ho1) hb); have n2_ := mk0 (Kd.R_below (uR HO387.out) hb); have n3_ := mk0 (Kd.R_below (uR HO389.out) hb); have n4_ := mk0 (Kd.R_below (uR HO392.out) hb); have n5_ := mk0 (Kd.R_elder' (uR HO395.out) (Kd.R_base ho1) hb); have n6_ := mk0 (Kd.N_mono (Kd.N_told (Kd.N_told (Kd.N_old (uN HO401.out) hb) (Kd.S_base ho0)) (Kd.R_base ho1)) (fun _ h_ => h_.1)); have n7_ := mk0 (Kd.R_below (uR HO403.out) hb); have n8_ := mk0 (Kd.N_lower (Kd.N_mono (ok' := fun k_ => some k_ ≠ (v408 : Value).ownBlock ∧ some k_ ≠ (.slice Ao25 t376.length co25 : Value).ownBlock ∧ some k_ ≠ (.slice Ao28 t379.length co28 : Value).ownBlock ∧ some k_ ≠ (v386 : Value).ownBlock ∧ some k_ ≠ (v388 : Value).ownBlock ∧ some k_ ≠ (v391 : Value).ownBlock ∧ some k_ ≠ (.slice Ao33 t393.length co33 : Value).ownBlock ∧ some k_ ≠ (v400 : Value).ownBlock ∧ some k_ ≠ (v402 : Value).ownBlock ∧ k_ ≠ gb383 ∧ k_ ≠ gb397) (Kd.S_N (Kd.S_bound (Kd.S_apart' ho0 (Kd.R_typed ho1) (by decide)))) (fun k_ hk_ => ⟨hk_.1.2, (Kd.fresh' (Kd.N_lt (uN HO378.out)) k_ hk_.2.1), (Kd.fresh' (Kd.R_lt (uR HO381.out)) k_ hk_.2.1), (Kd.fresh' (Kd.R_lt (uR HO387.out)) k_ hk_.2.1), (Kd.fresh' (Kd.R_lt (uR HO389.out)) k_ hk_.2.1), (Kd.fresh' (Kd.R_lt (uR HO392.out)) k_ hk_.2.1), (Kd.fresh' (Kd.R_lt (uR HO395.out)) k_ hk_.2.1), (Kd.fresh' (Kd.N_lt (uN HO401.out)) k_ hk_.2.1), (Kd.fresh' (Kd.R_lt (uR HO403.out)) k_ hk_.2.1), (Kd.freshB (g := gb383) (o := .cells #[.slice Ao28 t379.length co28, .int .i64 t382] 43 (0, 0)) (uB BK383.out) k_ hk_.2.1), (Kd.freshB (g := gb397) (o := .cells #[.slice Ao33 t393.length co33, .int .i64 t396] 43 (0, 0)) (uB BK397.out) k_ hk_.2.1)⟩)) (below_size (by repeat (first | (with_reducible first | exact HB.out | apply bA | apply bN | apply bD | refine bS ?_ (by assumption)) | exact HB.out)))); have n9_ := mk0 (Kd.R_lower (Kd.R_new' (Kd.R_new' ho1 (Kd.R_lt (uR HO381.out))) (Kd.R_lt (uR HO395.out))) (below_size (by repeat (first | (with_reducible first | exact HB.out | apply bA | apply bN | apply bD | refine bS ?_ (by assumption)) | exact HB.out)))); have n10_ := mk0 (blk_below (g := gb383) (o := .cells #[.slice Ao28 t379.length co28, .int .i64 t382] 43 (0, 0)) (uB BK383.out) hb); have n11_ := mk0 (blk_below (g := gb397) (o := .cells #[.slice Ao33 t393.length co33, .int .i64 t396] 43 (0, 0)) (uB BK397.out) hb); have n12_ := mk0 (below_step (by repeat (first | (with_reducible first | exact HB.out | apply bA | apply bN | apply bD | refine bS ?_ (by assumption)) | exact HB.out)) hb); clear HO378; clear HO381; clear HO387; clear HO389; clear HO392; clear HO395; clear HO401; clear HO403; clear BK383; clear BK397; clear HB; have HO378 := n0_; have HO381 := n1_; have HO387 := n2_; have HO389 := n3_; have HO392 := n4_; have HO395 := n5_; have HO401 := n6_; have HO403 := n7_; have HO406 := n8_; have HO409 := n9_; have BK383 := n10_; have BK397 := n11_; have HB := n12_; clear n0_ n1_ n2_ n3_ n4_ n5_ n6_ n7_ n8_ n9_ n10_ n11_ n12_; (try clear hb); (try clear hb2); (try clear hk); (try clear hi); (try clear ho0); (try clear ho1)) | ((with_reducible refine gate_dst (N := 14) rfl ?_); refine box_event ?hg (N := 14) ?hd (cs := #[.slice none 0 0, .int .i64 0]) (t := 43) ?hr ?_; (case hd => rfl); (case hg => rfl); (case hr => first | (go_simp; done) | (go_simp; rfl)); intro gb411 hg w38 hbox hb; have n0_ := mk0 (Kd.N_below (Kd.N_elderB (uN HO378.out) gb411 (Nat.le_of_eq hg.symm)) hb); have n1_ := mk0 (Kd.R_below (uR HO381.out) hb); have n2_ := mk0 (Kd.R_below (uR HO387.out) hb); have n3_ := mk0 (Kd.R_below (uR HO389.out) hb); have n4_ := mk0 (Kd.R_below (uR HO392.out) hb); have n5_ := mk0 (Kd.R_below (uR HO395.out) hb); have n6_ := mk0 (Kd.N_below (Kd.N_elderB (uN HO401.out) gb411 (Nat.le_of_eq hg.symm)) hb); have n7_ := mk0 (Kd.R_below (uR HO403.out) hb); have n8_ := mk0 (Kd.N_below (Kd.N_elderB (uN HO406.out) gb411 (Nat.le_of_eq hg.symm)) hb); have n9_ := mk0 (Kd.R_below (uR HO409.out) hb); have n10_ := mk0 (blk_below (g := gb383) (o := .cells #[.slice Ao28 t379.length co28, .int .i64 t382] 43 (0, 0)) (uB BK383.out) hb); have n11_ := mk0 (blk_below (g := gb397) (o := .cells #[.slice Ao33 t393.length co33, .int .i64 t396] 43 (0, 0)) (uB BK397.out) hb); have n12_ := mk0 (below_step (by repeat (first | (with_reducible first | exact HB.out | apply bA | apply bN | apply bD | refine bS ?_ (by assumption)) | exact HB.out)) hb); have n13_ := mk0 (hbox); have n14_ := mk0 ((by rw [hg]; exact (below_size (by repeat (first | (with_reducible first | exact HB.out | apply bA | apply bN | apply bD | refine bS ?_ (by assumption)) | exact HB.out))) : w.heap.size ≤ gb411)); have n15_ := mk0 ((by rw [hg]; exact (below_size (by repeat (first | (with_reducible first | exact HB.out | apply bA | apply bN | apply bD | refine bS ?_ (by assumption)) | exact HB.out))) : w.heap.size ≤ gb411)); have n16_ := mk0 ((by rw [hg]; exact Nat.ne_of_lt (blk_lt (g := gb383) (o := .cells #[.slice Ao28 t379.length co28, .int .i64 t382] 43 (0, 0)) (uB BK383.out)) : gb383 ≠ gb411)); have n17_ := mk0 ((by rw [hg]; exact Nat.ne_of_gt (blk_lt (g := gb383) (o := .cells #[.slice Ao28 t379.length co28, .int .i64 t382] 43 (0, 0)) (uB BK383.out)) : gb411 ≠ gb383)); have n18_ := mk0 ((by rw [hg]; exact Nat.ne_of_lt (blk_lt (g := gb397) (o := .cells #[.slice Ao33 t393.length co33, .int .i64 t396] 43 (0, 0)) (uB BK397.out)) : gb397 ≠ gb411)); have n19_ := mk0 ((by rw [hg]; exact Nat.ne_of_gt (blk_lt (g := gb397) (o := .cells #[.slice Ao33 t393.length co33, .int .i64 t396] 43 (0, 0)) (uB BK397.out)) : gb411 ≠ gb397)); clear HO378; clear HO381; clear HO387; clear HO389; clear HO392; clear HO395; clear HO401; clear HO403; clear HO406; clear HO409; clear BK383; clear BK397; clear HB; have HO378 := n0_; have HO381 := n1_; have HO387 := n2_; have HO389 := n3_; have HO392 := n4_; have HO395 := n5_; have HO401 := n6_; have HO403 := n7_; have HO406 := n8_; have HO409 := n9_; have BK383 := n10_; have BK397 := n11_; have HB := n12_; have BK411 := n13_; have GW411 := n14_; have GE411 := n15_; have NB383_411 := n16_; have NB411_383 := n17_; have NB397_411 := n18_; have NB411_397 := n19_; clear n0_ n1_ n2_ n3_ n4_ n5_ n6_ n7_ n8_ n9_ n10_ n11_ n12_ n13_ n14_ n15_ n16_ n17_ n18_ n19_; clear hb hbox hg; obtain ⟨Ao39, co39, eo39⟩ := Kd.R_slice HO409.out; subst eo39; have hnb40 := NB411_383.out; have hnc40 := NB383_411.out; have hnb41 := NB411_397.out; have hnc41 := NB397_411.out; have hcz42_0 : w38.cell? ⟨gb411, 0, none⟩ = some (.slice none 0 0) := (blk_cell BK411.out 0).trans rfl; have hcz42_1 : w38.cell? ⟨gb411, 1, none⟩ = some (.int .i64 0) := (blk_cell BK411.out 1).trans rfl; have hfz42_0 := blk_frozen BK411.out 0; have hfz42_1 := blk_frozen BK411.out 1))
       have n0_ : Aside0 (Kd.N k60 60 ((w38.setCell ⟨gb411, 0, none⟩ (.slice Ao39 t407.length co39)).setCell ⟨gb411, 1, none⟩ (.int .i64 t410)) w.heap.size (fun k_ => some k_ ≠ (.slice Ao28 t379.length co28 : Value).ownBlock ∧ some k_ ≠ (v386 : Value).ownBlock ∧ some k_ ≠ (v388 : Value).ownBlock ∧ some k_ ≠ (v391 : Value).ownBlock ∧ some k_ ≠ (.slice Ao33 t393.length co33 : Value).ownBlock ∧ some k_ ≠ (v400 : Value).ownBlock ∧ some k_ ≠ (v402 : Value).ownBlock ∧ some k_ ≠ (v405 : Value).ownBlock ∧ some k_ ≠ (.slice Ao39 t407.length co39 : Value).ownBlock ∧ k_ ≠ gb383 ∧ k_ ≠ gb397 ∧ k_ ≠ gb411) (.slice Ao25 t376.length co25) t376) := ⟨uN (Kd.N_mono (Kd.N_far (p := ⟨gb411, 1, none⟩) (Kd.N_far (p := ⟨gb411, 0, none⟩) (Kd.N_mono HO378.out (fun k_ hk => (⟨hk, hk.2⟩ : _ ∧ k_ ≠ gb411))) (fun _ hk => hk.2) (.slice Ao39 t407.length co39)) (fun _ hk => hk.2) (.int .i64 t410)) (fun _ hk => ⟨hk.1.1.1.1.1.1.1.1.1.1.1.1.2, ⟨hk.1.1.1.1.1.1.1.1.1.1.2, ⟨hk.1.1.1.1.1.1.1.1.1.2, ⟨hk.1.1.1.1.1.1.1.1.2, ⟨hk.1.1.1.1.1.1.1.2, ⟨hk.1.1.1.1.1.2, ⟨hk.1.1.1.1.2, ⟨hk.1.1.1.2, ⟨hk.1.1.2, ⟨hk.1.1.1.1.1.1.1.1.1.1.1.2, ⟨hk.1.1.1.1.1.1.2, hk.1.2⟩⟩⟩⟩⟩⟩⟩⟩⟩⟩⟩))⟩
       have n1_ : Aside0 (Kd.R k67 67 ((w38.setCell ⟨gb411, 0, none⟩ (.slice Ao39 t407.length co39)).setCell ⟨gb411, 1, none⟩ (.int .i64 t410)) w.heap.size (fun k_ => some k_ ≠ (.slice Ao33 t393.length co33 : Value).ownBlock ∧ some k_ ≠ (.slice Ao39 t407.length co39 : Value).ownBlock) (.slice Ao28 t379.length co28) t379) := ⟨uR (Kd.R_mono (Kd.R_far (p := ⟨gb411, 1, none⟩) (Kd.R_far (p := ⟨gb411, 0, none⟩) (Kd.R_types HO381.out BK411.out (by decide)) (fun _ hk => hk.2) (.slice Ao39 t407.length co39)) (fun _ hk => hk.2) (.int .i64 t410)) (fun _ hk => ⟨hk.1.1.2, hk.1.2⟩))⟩
       have n2_ : Aside0 (Kd.R Kd.string 9 ((w38.setCell ⟨gb411, 0, none⟩ (.slice Ao39 t407.length co39)).setCell ⟨gb411, 1, none⟩ (.int .i64 t410)) w.heap.size (fun k_ => some k_ ≠ (v391 : Value).ownBlock) v386 t384) := ⟨uR (Kd.R_mono (Kd.R_far (p := ⟨gb411, 1, none⟩) (Kd.R_far (p := ⟨gb411, 0, none⟩) (Kd.R_types HO387.out BK411.out (by decide)) (fun _ hk => hk.2) (.slice Ao39 t407.length co39)) (fun _ hk => hk.2) (.int .i64 t410)) (fun _ hk => hk.1.2))⟩
       have n3_ : Aside0 (Kd.R fltK 65 ((w38.setCell ⟨gb411, 0, none⟩ (.slice Ao39 t407.length co39)).setCell ⟨gb411, 1, none⟩ (.int .i64 t410)) w.heap.size (fun k_ => some k_ ≠ (v402 : Value).ownBlock) v388 t385) := ⟨uR (Kd.R_mono (Kd.R_far (p := ⟨gb411, 1, none⟩) (Kd.R_far (p := ⟨gb411, 0, none⟩) (Kd.R_types HO389.out BK411.out (by decide)) (fun _ hk => hk.2) (.slice Ao39 t407.length co39)) (fun _ hk => hk.2) (.int .i64 t410)) (fun _ hk => hk.1.2))⟩
       have n4_ : Aside0 (Kd.R Kd.string 9 ((w38.setCell ⟨gb411, 0, none⟩ (.slice Ao39 t407.length co39)).setCell ⟨gb411, 1, none⟩ (.int .i64 t410)) w.heap.size (fun k_ => some k_ ≠ (v386 : Value).ownBlock) v391 t390) := ⟨uR (Kd.R_mono (Kd.R_far (p := ⟨gb411, 1, none⟩) (Kd.R_far (p := ⟨gb411, 0, none⟩) (Kd.R_types HO392.out BK411.out (by decide)) (fun _ hk => hk.2) (.slice Ao39 t407.length co39)) (fun _ hk => hk.2) (.int .i64 t410)) (fun _ hk => hk.1.2))⟩
       have n5_ : Aside0 (Kd.R k67 67 ((w38.setCell ⟨gb411, 0, none⟩ (.slice Ao39 t407.length co39)).setCell ⟨gb411, 1, none⟩ (.int .i64 t410)) w.heap.size (fun k_ => some k_ ≠ (.slice Ao28 t379.length co28 : Value).ownBlock ∧ some k_ ≠ (.slice Ao39 t407.length co39 : Value).ownBlock) (.slice Ao33 t393.length co33) t393) := ⟨uR (Kd.R_mono (Kd.R_far (p := ⟨gb411, 1, none⟩) (Kd.R_far (p := ⟨gb411, 0, none⟩) (Kd.R_types HO395.out BK411.out (by decide)) (fun _ hk => hk.2) (.slice Ao39 t407.length co39)) (fun _ hk => hk.2) (.int .i64 t410)) (fun _ hk => ⟨hk.1.1.2, hk.1.2⟩))⟩
       have n6_ : Aside0 (Kd.N k38 38 ((w38.setCell ⟨gb411, 0, none⟩ (.slice Ao39 t407.length co39)).setCell ⟨gb411, 1, none⟩ (.int .i64 t410)) w.heap.size (fun k_ => some k_ ≠ (.slice Ao25 t376.length co25 : Value).ownBlock ∧ some k_ ≠ (.slice Ao28 t379.length co28 : Value).ownBlock ∧ some k_ ≠ (v386 : Value).ownBlock ∧ some k_ ≠ (v388 : Value).ownBlock ∧ some k_ ≠ (v391 : Value).ownBlock ∧ some k_ ≠ (.slice Ao33 t393.length co33 : Value).ownBlock ∧ some k_ ≠ (v402 : Value).ownBlock ∧ some k_ ≠ (v405 : Value).ownBlock ∧ some k_ ≠ (.slice Ao39 t407.length co39 : Value).ownBlock ∧ k_ ≠ gb383 ∧ k_ ≠ gb397 ∧ k_ ≠ gb411) v400 t398) := ⟨uN (Kd.N_mono (Kd.N_far (p := ⟨gb411, 1, none⟩) (Kd.N_far (p := ⟨gb411, 0, none⟩) (Kd.N_mono HO401.out (fun k_ hk => (⟨hk, hk.2⟩ : _ ∧ k_ ≠ gb411))) (fun _ hk => hk.2) (.slice Ao39 t407.length co39)) (fun _ hk => hk.2) (.int .i64 t410)) (fun _ hk => ⟨hk.1.1.1.1.2.1, ⟨hk.1.1.1.1.2.2.1, ⟨hk.1.1.1.1.2.2.2.1, ⟨hk.1.1.1.1.2.2.2.2.1, ⟨hk.1.1.1.1.2.2.2.2.2.1, ⟨hk.1.1.1.1.2.2.2.2.2.2.1, ⟨hk.1.1.1.1.1, ⟨hk.1.1.1.2, ⟨hk.1.1.2, ⟨hk.1.1.1.1.2.2.2.2.2.2.2.1, ⟨hk.1.1.1.1.2.2.2.2.2.2.2.2, hk.1.2⟩⟩⟩⟩⟩⟩⟩⟩⟩⟩⟩))⟩
       have n7_ : Aside0 (Kd.R fltK 65 ((w38.setCell ⟨gb411, 0, none⟩ (.slice Ao39 t407.length co39)).setCell ⟨gb411, 1, none⟩ (.int .i64 t410)) w.heap.size (fun k_ => some k_ ≠ (v388 : Value).ownBlock) v402 t399) := ⟨uR (Kd.R_mono (Kd.R_far (p := ⟨gb411, 1, none⟩) (Kd.R_far (p := ⟨gb411, 0, none⟩) (Kd.R_types HO403.out BK411.out (by decide)) (fun _ hk => hk.2) (.slice Ao39 t407.length co39)) (fun _ hk => hk.2) (.int .i64 t410)) (fun _ hk => hk.1.2))⟩
       have n8_ : Aside0 (Kd.N k60 60 ((w38.setCell ⟨gb411, 0, none⟩ (.slice Ao39 t407.length co39)).setCell ⟨gb411, 1, none⟩ (.int .i64 t410)) w.heap.size (fun k_ => some k_ ≠ (.slice Ao25 t376.length co25 : Value).ownBlock ∧ some k_ ≠ (.slice Ao28 t379.length co28 : Value).ownBlock ∧ some k_ ≠ (v386 : Value).ownBlock ∧ some k_ ≠ (v388 : Value).ownBlock ∧ some k_ ≠ (v391 : Value).ownBlock ∧ some k_ ≠ (.slice Ao33 t393.length co33 : Value).ownBlock ∧ some k_ ≠ (v400 : Value).ownBlock ∧ some k_ ≠ (v402 : Value).ownBlock ∧ some k_ ≠ (.slice Ao39 t407.length co39 : Value).ownBlock ∧ k_ ≠ gb383 ∧ k_ ≠ gb397 ∧ k_ ≠ gb411) v405 t404) := ⟨uN (Kd.N_mono (Kd.N_far (p := ⟨gb411, 1, none⟩) (Kd.N_far (p := ⟨gb411, 0, none⟩) (Kd.N_mono HO406.out (fun k_ hk => (⟨hk, hk.2⟩ : _ ∧ k_ ≠ gb411))) (fun _ hk => hk.2) (.slice Ao39 t407.length co39)) (fun _ hk => hk.2) (.int .i64 t410)) (fun _ hk => ⟨hk.1.1.2.1, ⟨hk.1.1.2.2.1, ⟨hk.1.1.2.2.2.1, ⟨hk.1.1.2.2.2.2.1, ⟨hk.1.1.2.2.2.2.2.1, ⟨hk.1.1.2.2.2.2.2.2.1, ⟨hk.1.1.2.2.2.2.2.2.2.1, ⟨hk.1.1.2.2.2.2.2.2.2.2.1, ⟨hk.1.1.1, ⟨hk.1.1.2.2.2.2.2.2.2.2.2.1, ⟨hk.1.1.2.2.2.2.2.2.2.2.2.2, hk.1.2⟩⟩⟩⟩⟩⟩⟩⟩⟩⟩⟩))⟩
       have n9_ : Aside0 (Kd.R k67 67 ((w38.setCell ⟨gb411, 0, none⟩ (.slice Ao39 t407.length co39)).setCell ⟨gb411, 1, none⟩ (.int .i64 t410)) w.heap.size (fun k_ => some k_ ≠ (.slice Ao28 t379.length co28 : Value).ownBlock ∧ some k_ ≠ (.slice Ao33 t393.length co33 : Value).ownBlock) (.slice Ao39 t407.length co39) t407) := ⟨uR (Kd.R_mono (Kd.R_far (p := ⟨gb411, 1, none⟩) (Kd.R_far (p := ⟨gb411, 0, none⟩) (Kd.R_types HO409.out BK411.out (by decide)) (fun _ hk => hk.2) (.slice Ao39 t407.length co39)) (fun _ hk => hk.2) (.int .i64 t410)) (fun _ hk => ⟨hk.1.1.2, hk.1.2⟩))⟩
       have n10_ : Aside0 (((w38.setCell ⟨gb411, 0, none⟩ (.slice Ao39 t407.length co39)).setCell ⟨gb411, 1, none⟩ (.int .i64 t410)).heap[gb383]? = some (.cells #[.slice Ao28 t379.length co28, .int .i64 t382] 43 (0, 0))) := ⟨by (with_reducible repeat (first | refine blk_drewN ?_ _ | refine blk_drew ?_ | refine blk_alloc ?_ _)); refine blk_far ?_ NB383_411.out _; (with_reducible repeat (first | refine blk_drewN ?_ _ | refine blk_drew ?_ | refine blk_alloc ?_ _)); refine blk_far ?_ NB383_411.out _; (with_reducible repeat (first | refine blk_drewN ?_ _ | refine blk_drew ?_ | refine blk_alloc ?_ _)); exact BK383.out⟩
       have n11_ : Aside0 (((w38.setCell ⟨gb411, 0, none⟩ (.slice Ao39 t407.length co39)).setCell ⟨gb411, 1, none⟩ (.int .i64 t410)).heap[gb397]? = some (.cells #[.slice Ao33 t393.length co33, .int .i64 t396] 43 (0, 0))) := ⟨by (with_reducible repeat (first | refine blk_drewN ?_ _ | refine blk_drew ?_ | refine blk_alloc ?_ _)); refine blk_far ?_ NB397_411.out _; (with_reducible repeat (first | refine blk_drewN ?_ _ | refine blk_drew ?_ | refine blk_alloc ?_ _)); refine blk_far ?_ NB397_411.out _; (with_reducible repeat (first | refine blk_drewN ?_ _ | refine blk_drew ?_ | refine blk_alloc ?_ _)); exact BK397.out⟩
       have n12_ : Aside0 (((w38.setCell ⟨gb411, 0, none⟩ (.slice Ao39 t407.length co39)).setCell ⟨gb411, 1, none⟩ (.int .i64 t410)).heap[gb411]? = some (.cells #[.slice Ao39 t407.length co39, .int .i64 t410] 43 (0, 0))) := ⟨by (with_reducible repeat (first | refine blk_drewN ?_ _ | refine blk_drew ?_ | refine blk_alloc ?_ _)); refine blk_put (cs := #[.slice Ao39 t407.length co39, .int .i64 0]) ?_ 1 _ rfl; (with_reducible repeat (first | refine blk_drewN ?_ _ | refine blk_drew ?_ | refine blk_alloc ?_ _)); refine blk_put (cs := #[.slice none 0 0, .int .i64 0]) ?_ 0 _ rfl; (with_reducible repeat (first | refine blk_drewN ?_ _ | refine blk_drew ?_ | refine blk_alloc ?_ _)); exact BK411.out⟩
       have n13_ : Aside0 (Below w.heap.size w ((w38.setCell ⟨gb411, 0, none⟩ (.slice Ao39 t407.length co39)).setCell ⟨gb411, 1, none⟩ (.int .i64 t410))) := ⟨by repeat (first | (with_reducible first | exact HB.out | apply bA | apply bN | apply bD | refine bS ?_ (by assumption)) | exact HB.out)⟩
       (try clear HO378)
       (try clear HO381)
       (try clear HO387)
       (try clear HO389)
       (try clear HO392)
       (try clear HO395)
       (try clear HO401)
       (try clear HO403)
       (try clear HO406)
       (try clear HO409)
       (try clear BK383)
       (try clear BK397)
       (try clear BK411)
       (try clear HB)
       generalize ((w38.setCell ⟨gb411, 0, none⟩ (.slice Ao39 t407.length co39)).setCell ⟨gb411, 1, none⟩ (.int .i64 t410)) = w43 at n0_ n1_ n2_ n3_ n4_ n5_ n6_ n7_ n8_ n9_ n10_ n11_ n12_ n13_ ⊢
       have HO378 := n0_
       have HO381 := n1_
       have HO387 := n2_
       have HO389 := n3_
       have HO392 := n4_
       have HO395 := n5_
       have HO401 := n6_
       have HO403 := n7_
       have HO406 := n8_
       have HO409 := n9_
       have BK383 := n10_
       have BK397 := n11_
       have BK411 := n12_
       have HB := n13_
       clear n0_ n1_ n2_ n3_ n4_ n5_ n6_ n7_ n8_ n9_ n10_ n11_ n12_ n13_
       have n0_ := mk0 (Kd.N_drew HO378.out)
       have n1_ := mk0 (Kd.R_drew HO381.out)
       have n2_ := mk0 (Kd.R_drew HO387.out)
       have n3_ := mk0 (Kd.R_drew HO389.out)
       have n4_ := mk0 (Kd.R_drew HO392.out)
       have n5_ := mk0 (Kd.R_drew HO395.out)
       have n6_ := mk0 (Kd.N_drew HO401.out)
       have n7_ := mk0 (Kd.R_drew HO403.out)
       have n8_ := mk0 (Kd.N_drew HO406.out)
       have n9_ := mk0 (Kd.R_drew HO409.out)
       have n10_ := mk0 (blk_drew BK383.out)
       have n11_ := mk0 (blk_drew BK397.out)
       have n12_ := mk0 (blk_drew BK411.out)
       have n13_ := mk0 (below_drew1 HB.out)
       clear HO378
       clear HO381
       clear HO387
       clear HO389
       clear HO392
       clear HO395
       clear HO401
       clear HO403
       clear HO406
       clear HO409
       clear BK383
       clear BK397
       clear BK411
       clear HB
       have HO378 := n0_
       have HO381 := n1_
       have HO387 := n2_
       have HO389 := n3_
       have HO392 := n4_
       have HO395 := n5_
       have HO401 := n6_
       have HO403 := n7_
       have HO406 := n8_
       have HO409 := n9_
       have BK383 := n10_
       have BK397 := n11_
       have BK411 := n12_
       have HB := n13_
       clear n0_ n1_ n2_ n3_ n4_ n5_ n6_ n7_ n8_ n9_ n10_ n11_ n12_ n13_
       refine start_ (n := 27) (S := fun w' => w'.cell? ⟨gb383, 0, none⟩ = some (.slice Ao28 t379.length co28) ∧ w'.cell? ⟨gb383, 1, none⟩ = some (.int .i64 t382)) (ds := []) #[false, false, false, false, false, false, false, false, false, false, false, false, false, false, false, false, false, false, false, false, false, false, false, false, false, false, false] (by kernel_rfl) rfl rfl ⟨(blk_cell BK383.out 0).trans rfl, (blk_cell BK383.out 1).trans rfl⟩ (fun hHeld => ?_); refine with_tabW furrowlaw3_EditAny.tab11 furrowlaw3_EditAny.bits11 (fun HT_ HW_ => ?_)
       generalize w43.drew = w44 at HO378 HO381 HO387 HO389 HO392 HO395 HO401 HO403 HO406 HO409 BK383 BK397 BK411 HB hHeld ⊢
       refine pure_ (i := 0) (N := some 51) (v := ?_) (a' := ?_) #[true, false, false, false, false, false, false, false, false, false, false, false, false, false, false, false, false, false, false, false, false, false, false, false, false, false, false] rfl rfl (any_of HT_.out (by kernel_rfl)) (fun _ _ _ h => h) (Or.inl ⟨by rfl, ?_⟩) ?_ ?_
       rotate_left
       ·intro w'
        go_simp
        with_reducible rfl
       rotate_left
       ·simp only [Act.put, List.setIfInBounds_toArray, List.set_cons_zero, List.set_cons_succ, i64_w, i32_w]
        rfl
       refine pure_ (i := 1) (N := some 52) (v := ?_) (a' := ?_) #[true, true, false, false, false, false, false, false, false, false, false, false, false, false, false, false, false, false, false, false, false, false, false, false, false, false, false] rfl rfl (any_of HT_.out (by kernel_rfl)) (fun _ _ _ h => h) (Or.inl ⟨by rfl, ?_⟩) ?_ ?_
       rotate_left
       ·intro w'
        go_simp
        with_reducible rfl
       rotate_left
       ·simp only [Act.put, List.setIfInBounds_toArray, List.set_cons_zero, List.set_cons_succ, i64_w, i32_w]
        rfl
       refine pure_ (i := 2) (N := some 53) (v := ?_) (a' := ?_) #[true, true, true, false, false, false, false, false, false, false, false, false, false, false, false, false, false, false, false, false, false, false, false, false, false, false, false] rfl rfl (any_of HT_.out (by kernel_rfl)) (fun _ _ _ h => h) (Or.inl ⟨by rfl, ?_⟩) ?_ ?_
       rotate_left
       ·intro w'
        go_simp
        with_reducible rfl
       rotate_left
       ·simp only [Act.put, List.setIfInBounds_toArray, List.set_cons_zero, List.set_cons_succ, i64_w, i32_w]
        rfl
       refine take_ (i := 4) (N := some 55) (v := ?_) (a' := ?_) #[true, true, true, false, true, false, false, false, false, false, false, false, false, false, false, false, false, false, false, false, false, false, false, false, false, false, false] rfl rfl (take_ofW HT_.out HW_.out (by kernel_rfl)) (fun _ _ _ h => h) (Or.inl ⟨by rfl, ?_⟩) hHeld ?_ ?_
       rotate_left
       ·rintro w' ⟨s0, s1⟩
        go_simp
        with_reducible rfl
       rotate_left
       ·simp only [Act.put, List.setIfInBounds_toArray, List.set_cons_zero, List.set_cons_succ, i64_w, i32_w]
        rfl
       refine one_ (i := 3) (N := some 54) #[true, true, true, true, true, false, false, false, false, false, false, false, false, false, false, false, false, false, false, false, false, false, false, false, false, false, false] rfl rfl (one_of HT_.out (by kernel_rfl)) (by decide) (fun K hK => ?_)
       refine goes_ Tryd.func23 (by kernel_rfl) rfl #[.int .i64 (l0.length : Int), .slice A1 l1.length c1] (by rfl) rfl rfl (by (try simp only [List.map_toArray, List.map_cons, List.map_nil]); first | done | rfl | (simp only [List.length_drop, List.length_take]; rfl)) ?_
       with_reducible refine (edit_Check.calls k (l0.length : Int) _ _ l1 t412 _ ?side1 ?side2 A13.out).mono ?_
       (case side1 => repeat (first | exact (Kd.C_below HR1.out HB.out) | (with_reducible refine Kd.C_alloc ?_ _) | (with_reducible refine Kd.C_drewN ?_ _) | (with_reducible refine Kd.C_drew ?_)))
       (case side2 => exact HC1.out)
       rintro e w45 ⟨v413, rfl, ho0, hb⟩
       refine ⟨_, rfl, ?_⟩
       have n0_ := mk0 (Kd.N_elder' (uN HO378.out) (Kd.R_base ho0) hb)
       have n1_ := mk0 (Kd.R_below (uR HO381.out) hb)
       have n2_ := mk0 (Kd.R_below (uR HO387.out) hb)
       have n3_ := mk0 (Kd.R_elder' (uR HO389.out) (Kd.R_base ho0) hb)
       have n4_ := mk0 (Kd.R_below (uR HO392.out) hb)
       have n5_ := mk0 (Kd.R_below (uR HO395.out) hb)
       have n6_ := mk0 (Kd.N_elder' (uN HO401.out) (Kd.R_base ho0) hb)
       have n7_ := mk0 (Kd.R_elder' (uR HO403.out) (Kd.R_base ho0) hb)
       have n8_ := mk0 (Kd.N_elder' (uN HO406.out) (Kd.R_base ho0) hb)
       have n9_ := mk0 (Kd.R_below (uR HO409.out) hb)
       have n10_ := mk0 (Kd.R_lower (Kd.R_new' (Kd.R_new' ho0 (Kd.R_lt (uR HO389.out))) (Kd.R_lt (uR HO403.out))) (below_size (by repeat (first | (with_reducible first | exact HB.out | apply bA | apply bN | apply bD | refine bS ?_ (by assumption)) | exact HB.out))))
       have n11_ := mk0 (blk_below (g := gb383) (o := .cells #[.slice Ao28 t379.length co28, .int .i64 t382] 43 (0, 0)) (uB BK383.out) hb)
       have n12_ := mk0 (blk_below (g := gb397) (o := .cells #[.slice Ao33 t393.length co33, .int .i64 t396] 43 (0, 0)) (uB BK397.out) hb)
       have n13_ := mk0 (blk_below (g := gb411) (o := .cells #[.slice Ao39 t407.length co39, .int .i64 t410] 43 (0, 0)) (uB BK411.out) hb)
       have n14_ := mk0 (below_step (by repeat (first | (with_reducible first | exact HB.out | apply bA | apply bN | apply bD | refine bS ?_ (by assumption)) | exact HB.out)) hb)
       clear HO378
       clear HO381
       clear HO387
       clear HO389
       clear HO392
       clear HO395
       clear HO401
       clear HO403
       clear HO406
       clear HO409
       clear BK383
       clear BK397
       clear BK411
       clear HB
       have HO378 := n0_
       have HO381 := n1_
       have HO387 := n2_
       have HO389 := n3_
       have HO392 := n4_
       have HO395 := n5_
       have HO401 := n6_
       have HO403 := n7_
       have HO406 := n8_
       have HO409 := n9_
       have HO414 := n10_
       have BK383 := n11_
       have BK397 := n12_
       have BK411 := n13_
       have HB := n14_
       clear n0_ n1_ n2_ n3_ n4_ n5_ n6_ n7_ n8_ n9_ n10_ n11_ n12_ n13_ n14_
       (try clear hb)
       (try clear hb2)
       (try clear hk)
       (try clear hi)
       (try clear ho0)
       (first | (have EHO414 := cmpV_no HO414.out (by with_reducible assumption)) | (have EHO414 := cmpV_yes HO414.out (by with_reducible assumption)) | skip)
       obtain ⟨Ao46, co46, eo46⟩ := Kd.R_slice HO414.out
       (first | subst eo46 | (injection eo46 with f1_ f2_ f3_; have f4_ := f1_.symm; have f5_ := f3_.symm; clear f1_ f2_ f3_; subst f4_; subst f5_))
       refine hK.out _ _ ⟨(blk_cell BK383.out 0).trans rfl, (blk_cell BK383.out 1).trans rfl⟩ (fun hHeld => ?_)
       clear hK K
       refine norm_ (a' := ?_) ?_ ?_
       rotate_left
       ·show Act.put _ (some 54) _ = _
        simp only [Act.put, List.setIfInBounds_toArray, List.set_cons_zero, List.set_cons_succ, i64_w, i32_w]
        rfl
       refine one_ (i := 5) (N := some 56) #[true, true, true, true, true, true, false, false, false, false, false, false, false, false, false, false, false, false, false, false, false, false, false, false, false, false, false] rfl rfl (one_of HT_.out (by kernel_rfl)) (by decide) (fun K hK => ?_)
       refine goes_ Tryd.func22 (by kernel_rfl) rfl #[errV (.slice Ao46 t412.length co46), .agg #[.slice Ao28 t379.length co28, .int .i64 t382]] (by rfl) rfl rfl (by (try simp only [List.map_toArray, List.map_cons, List.map_nil]); first | done | rfl | (simp only [List.length_drop, List.length_take]; rfl)) ?_
       with_reducible refine (furrowlaw2_Tells.calls _ _ t412 _ _ t379 t382 true _ ?side1 ?side2 ?side3 ?side4 ?side5 A14.out).mono ?_
       (case side1 => repeat (first | exact (Kd.R_reads' HO414.out).2.2 | (with_reducible refine Kd.C_alloc ?_ _) | (with_reducible refine Kd.C_drewN ?_ _) | (with_reducible refine Kd.C_drew ?_)))
       (case side2 => exact (Kd.R_reads' HO414.out).2.1)
       (case side3 => repeat (first | exact (Kd.R_reads' HO381.out).2.2 | (with_reducible refine Kd.C_alloc ?_ _) | (with_reducible refine Kd.C_drewN ?_ _) | (with_reducible refine Kd.C_drew ?_)))
       (case side4 => exact (Kd.R_reads' HO381.out).2.1)
       (case side5 => exact Glob.below HG.out (by repeat (first | (with_reducible first | exact HB.out | apply bA | apply bN | apply bD | refine bS ?_ (by assumption)) | exact HB.out)))
       rintro e w47 ⟨rfl, hb⟩
       refine ⟨_, rfl, ?_⟩
       have n0_ := mk0 (Kd.N_below (uN HO378.out) hb)
       have n1_ := mk0 (Kd.R_below (uR HO381.out) hb)
       have n2_ := mk0 (Kd.R_below (uR HO387.out) hb)
       have n3_ := mk0 (Kd.R_below (uR HO389.out) hb)
       have n4_ := mk0 (Kd.R_below (uR HO392.out) hb)
       have n5_ := mk0 (Kd.R_below (uR HO395.out) hb)
       have n6_ := mk0 (Kd.N_below (uN HO401.out) hb)
       have n7_ := mk0 (Kd.R_below (uR HO403.out) hb)
       have n8_ := mk0 (Kd.N_below (uN HO406.out) hb)
       have n9_ := mk0 (Kd.R_below (uR HO409.out) hb)
       have n10_ := mk0 (Kd.R_below (uR HO414.out) hb)
       have n11_ := mk0 (blk_below (g := gb383) (o := .cells #[.slice Ao28 t379.length co28, .int .i64 t382] 43 (0, 0)) (uB BK383.out) hb)
       have n12_ := mk0 (blk_below (g := gb397) (o := .cells #[.slice Ao33 t393.length co33, .int .i64 t396] 43 (0, 0)) (uB BK397.out) hb)
       have n13_ := mk0 (blk_below (g := gb411) (o := .cells #[.slice Ao39 t407.length co39, .int .i64 t410] 43 (0, 0)) (uB BK411.out) hb)
       have n14_ := mk0 (below_step (by repeat (first | (with_reducible first | exact HB.out | apply bA | apply bN | apply bD | refine bS ?_ (by assumption)) | exact HB.out)) hb)
       clear HO378
       clear HO381
       clear HO387
       clear HO389
       clear HO392
       clear HO395
       clear HO401
       clear HO403
       clear HO406
       clear HO409
       clear HO414
       clear BK383
       clear BK397
       clear BK411
       clear HB
       have HO378 := n0_
       have HO381 := n1_
       have HO387 := n2_
       have HO389 := n3_
       have HO392 := n4_
       have HO395 := n5_
       have HO401 := n6_
       have HO403 := n7_
       have HO406 := n8_
       have HO409 := n9_
       have HO414 := n10_
       have BK383 := n11_
       have BK397 := n12_
       have BK411 := n13_
       have HB := n14_
       clear n0_ n1_ n2_ n3_ n4_ n5_ n6_ n7_ n8_ n9_ n10_ n11_ n12_ n13_ n14_
       (try clear hb)
       (try clear hb2)
       (try clear hk)
       (try clear hi)
       obtain ⟨Ao48, co48, eo48⟩ := Kd.R_slice HO389.out
       (first | subst eo48 | (injection eo48 with f1_ f2_ f3_; have f4_ := f1_.symm; have f5_ := f3_.symm; clear f1_ f2_ f3_; subst f4_; subst f5_))
       refine hK.out _ _ ⟨(blk_cell BK383.out 0).trans rfl, (blk_cell BK383.out 1).trans rfl⟩ (fun hHeld => ?_)
       clear hK K
       refine norm_ (a' := ?_) ?_ ?_
       rotate_left
       ·show Act.put _ (some 56) _ = _
        simp only [Act.put, List.setIfInBounds_toArray, List.set_cons_zero, List.set_cons_succ, i64_w, i32_w]
        rfl
       refine pure_ (i := 6) (N := some 57) (v := ?_) (a' := ?_) #[true, true, true, true, true, true, true, false, false, false, false, false, false, false, false, false, false, false, false, false, false, false, false, false, false, false, false] rfl rfl (any_of HT_.out (by kernel_rfl)) (fun _ _ _ h => h) (Or.inl ⟨by rfl, ?_⟩) ?_ ?_
       rotate_left
       ·intro w'
        go_simp
        with_reducible rfl
       rotate_left
       ·simp only [Act.put, List.setIfInBounds_toArray, List.set_cons_zero, List.set_cons_succ, i64_w, i32_w]
        rfl
       refine pure_ (i := 7) (N := some 58) (v := ?_) (a' := ?_) #[true, true, true, true, true, true, true, true, false, false, false, false, false, false, false, false, false, false, false, false, false, false, false, false, false, false, false] rfl rfl (any_of HT_.out (by kernel_rfl)) (fun _ _ _ h => h) (Or.inl ⟨by rfl, ?_⟩) ?_ ?_
       rotate_left
       ·intro w'
        go_simp
        with_reducible rfl
       rotate_left
       ·simp only [Act.put, List.setIfInBounds_toArray, List.set_cons_zero, List.set_cons_succ, i64_w, i32_w]
        rfl
       refine take_ (i := 8) (N := some 59) (v := ?_) (a' := ?_) #[true, true, true, true, true, true, true, true, true, false, false, false, false, false, false, false, false, false, false, false, false, false, false, false, false, false, false] rfl rfl (take_ofW HT_.out HW_.out (by kernel_rfl)) (fun _ _ _ h => h) (Or.inl ⟨by rfl, ?_⟩) hHeld ?_ ?_
       rotate_left
       ·rintro w' ⟨s0, s1⟩
        go_simp
        with_reducible rfl
       rotate_left
       ·simp only [Act.put, List.setIfInBounds_toArray, List.set_cons_zero, List.set_cons_succ, i64_w, i32_w]
        rfl
       refine one_ (i := 9) (N := some 60) #[true, true, true, true, true, true, true, true, true, true, false, false, false, false, false, false, false, false, false, false, false, false, false, false, false, false, false] rfl rfl (one_of HT_.out (by kernel_rfl)) (by decide) (fun K hK => ?_)
       refine goes_ Tryd.func22 (by kernel_rfl) rfl #[errV (.slice Ao48 t385.length co48), .agg #[.slice Ao28 t379.length co28, .int .i64 t382]] (by rfl) rfl rfl (by (try simp only [List.map_toArray, List.map_cons, List.map_nil]); first | done | rfl | (simp only [List.length_drop, List.length_take]; rfl)) ?_
       with_reducible refine (furrowlaw2_Tells.calls _ _ t385 _ _ t379 t382 true _ ?side1 ?side2 ?side3 ?side4 ?side5 A16.out).mono ?_
       (case side1 => repeat (first | exact (Kd.R_reads' HO389.out).2.2 | (with_reducible refine Kd.C_alloc ?_ _) | (with_reducible refine Kd.C_drewN ?_ _) | (with_reducible refine Kd.C_drew ?_)))
       (case side2 => exact (Kd.R_reads' HO389.out).2.1)
       (case side3 => repeat (first | exact (Kd.R_reads' HO381.out).2.2 | (with_reducible refine Kd.C_alloc ?_ _) | (with_reducible refine Kd.C_drewN ?_ _) | (with_reducible refine Kd.C_drew ?_)))
       (case side4 => exact (Kd.R_reads' HO381.out).2.1)
       (case side5 => exact Glob.below HG.out (by repeat (first | (with_reducible first | exact HB.out | apply bA | apply bN | apply bD | refine bS ?_ (by assumption)) | exact HB.out)))
       rintro e w49 ⟨rfl, hb⟩
       refine ⟨_, rfl, ?_⟩
       have n0_ := mk0 (Kd.N_below (uN HO378.out) hb)
       have n1_ := mk0 (Kd.R_below (uR HO381.out) hb)
       have n2_ := mk0 (Kd.R_below (uR HO387.out) hb)
       have n3_ := mk0 (Kd.R_below (uR HO389.out) hb)
       have n4_ := mk0 (Kd.R_below (uR HO392.out) hb)
       have n5_ := mk0 (Kd.R_below (uR HO395.out) hb)
       have n6_ := mk0 (Kd.N_below (uN HO401.out) hb)
       have n7_ := mk0 (Kd.R_below (uR HO403.out) hb)
       have n8_ := mk0 (Kd.N_below (uN HO406.out) hb)
       have n9_ := mk0 (Kd.R_below (uR HO409.out) hb)
       have n10_ := mk0 (Kd.R_below (uR HO414.out) hb)
       have n11_ := mk0 (blk_below (g := gb383) (o := .cells #[.slice Ao28 t379.length co28, .int .i64 t382] 43 (0, 0)) (uB BK383.out) hb)
       have n12_ := mk0 (blk_below (g := gb397) (o := .cells #[.slice Ao33 t393.length co33, .int .i64 t396] 43 (0, 0)) (uB BK397.out) hb)
       have n13_ := mk0 (blk_below (g := gb411) (o := .cells #[.slice Ao39 t407.length co39, .int .i64 t410] 43 (0, 0)) (uB BK411.out) hb)
       have n14_ := mk0 (below_step (by repeat (first | (with_reducible first | exact HB.out | apply bA | apply bN | apply bD | refine bS ?_ (by assumption)) | exact HB.out)) hb)
       clear HO378
       clear HO381
       clear HO387
       clear HO389
       clear HO392
       clear HO395
       clear HO401
       clear HO403
       clear HO406
       clear HO409
       clear HO414
       clear BK383
       clear BK397
       clear BK411
       clear HB
       have HO378 := n0_
       have HO381 := n1_
       have HO387 := n2_
       have HO389 := n3_
       have HO392 := n4_
       have HO395 := n5_
       have HO401 := n6_
       have HO403 := n7_
       have HO406 := n8_
       have HO409 := n9_
       have HO414 := n10_
       have BK383 := n11_
       have BK397 := n12_
       have BK411 := n13_
       have HB := n14_
       clear n0_ n1_ n2_ n3_ n4_ n5_ n6_ n7_ n8_ n9_ n10_ n11_ n12_ n13_ n14_
       (try clear hb)
       (try clear hb2)
       (try clear hk)
       (try clear hi)
       obtain ⟨Ao50, co50, eo50⟩ := Kd.R_slice HO403.out
       (first | subst eo50 | (injection eo50 with f1_ f2_ f3_; have f4_ := f1_.symm; have f5_ := f3_.symm; clear f1_ f2_ f3_; subst f4_; subst f5_))
       refine hK.out _ _ ⟨(blk_cell BK383.out 0).trans rfl, (blk_cell BK383.out 1).trans rfl⟩ (fun hHeld => ?_)
       clear hK K
       refine norm_ (a' := ?_) ?_ ?_
       rotate_left
       ·show Act.put _ (some 60) _ = _
        simp only [Act.put, List.setIfInBounds_toArray, List.set_cons_zero, List.set_cons_succ, i64_w, i32_w]
        rfl
       refine pure_ (i := 10) (N := some 61) (v := ?_) (a' := ?_) #[true, true, true, true, true, true, true, true, true, true, true, false, false, false, false, false, false, false, false, false, false, false, false, false, false, false, false] rfl rfl (any_of HT_.out (by kernel_rfl)) (fun _ _ _ h => h) (Or.inl ⟨by rfl, ?_⟩) ?_ ?_
       rotate_left
       ·intro w'
        go_simp
        with_reducible rfl
       rotate_left
       ·simp only [Act.put, List.setIfInBounds_toArray, List.set_cons_zero, List.set_cons_succ, i64_w, i32_w]
        rfl
       refine pure_ (i := 11) (N := some 62) (v := ?_) (a' := ?_) #[true, true, true, true, true, true, true, true, true, true, true, true, false, false, false, false, false, false, false, false, false, false, false, false, false, false, false] rfl rfl (any_of HT_.out (by kernel_rfl)) (fun _ _ _ h => h) (Or.inl ⟨by rfl, ?_⟩) ?_ ?_
       rotate_left
       ·intro w'
        go_simp
        with_reducible rfl
       rotate_left
       ·simp only [Act.put, List.setIfInBounds_toArray, List.set_cons_zero, List.set_cons_succ, i64_w, i32_w]
        rfl
       refine pure_ (i := 12) (N := some 63) (v := ?_) (a' := ?_) #[true, true, true, true, true, true, true, true, true, true, true, true, true, false, false, false, false, false, false, false, false, false, false, false, false, false, false] rfl rfl (any_of HT_.out (by kernel_rfl)) (fun _ _ _ h => h) (Or.inl ⟨by rfl, ?_⟩) ?_ ?_
       rotate_left
       ·intro w'
        go_simp
        with_reducible rfl
       rotate_left
       ·simp only [Act.put, List.setIfInBounds_toArray, List.set_cons_zero, List.set_cons_succ, i64_w, i32_w]
        rfl
       refine take_ (i := 13) (N := some 64) (v := ?_) (a' := ?_) #[true, true, true, true, true, true, true, true, true, true, true, true, true, true, false, false, false, false, false, false, false, false, false, false, false, false, false] rfl rfl (take_ofW HT_.out HW_.out (by kernel_rfl)) (fun _ _ _ h => h) (Or.inl ⟨by rfl, ?_⟩) hHeld ?_ ?_
       rotate_left
       ·rintro w' ⟨s0, s1⟩
        go_simp
        with_reducible rfl
       rotate_left
       ·simp only [Act.put, List.setIfInBounds_toArray, List.set_cons_zero, List.set_cons_succ, i64_w, i32_w]
        rfl
       refine one_ (i := 14) (N := some 65) #[true, true, true, true, true, true, true, true, true, true, true, true, true, true, true, false, false, false, false, false, false, false, false, false, false, false, false] rfl rfl (one_of HT_.out (by kernel_rfl)) (by decide) (fun K hK => ?_)
       refine goes_ Tryd.func22 (by kernel_rfl) rfl #[errV (.slice Ao50 t399.length co50), .agg #[.slice Ao28 t379.length co28, .int .i64 t382]] (by rfl) rfl rfl (by (try simp only [List.map_toArray, List.map_cons, List.map_nil]); first | done | rfl | (simp only [List.length_drop, List.length_take]; rfl)) ?_
       with_reducible refine (furrowlaw2_Tells.calls _ _ t399 _ _ t379 t382 true _ ?side1 ?side2 ?side3 ?side4 ?side5 A18.out).mono ?_
       (case side1 => repeat (first | exact (Kd.R_reads' HO403.out).2.2 | (with_reducible refine Kd.C_alloc ?_ _) | (with_reducible refine Kd.C_drewN ?_ _) | (with_reducible refine Kd.C_drew ?_)))
       (case side2 => exact (Kd.R_reads' HO403.out).2.1)
       (case side3 => repeat (first | exact (Kd.R_reads' HO381.out).2.2 | (with_reducible refine Kd.C_alloc ?_ _) | (with_reducible refine Kd.C_drewN ?_ _) | (with_reducible refine Kd.C_drew ?_)))
       (case side4 => exact (Kd.R_reads' HO381.out).2.1)
       (case side5 => exact Glob.below HG.out (by repeat (first | (with_reducible first | exact HB.out | apply bA | apply bN | apply bD | refine bS ?_ (by assumption)) | exact HB.out)))
       rintro e w51 ⟨rfl, hb⟩
       refine ⟨_, rfl, ?_⟩
       have n0_ := mk0 (Kd.N_below (uN HO378.out) hb)
       have n1_ := mk0 (Kd.R_below (uR HO381.out) hb)
       have n2_ := mk0 (Kd.R_below (uR HO387.out) hb)
       have n3_ := mk0 (Kd.R_below (uR HO389.out) hb)
       have n4_ := mk0 (Kd.R_below (uR HO392.out) hb)
       have n5_ := mk0 (Kd.R_below (uR HO395.out) hb)
       have n6_ := mk0 (Kd.N_below (uN HO401.out) hb)
       have n7_ := mk0 (Kd.R_below (uR HO403.out) hb)
       have n8_ := mk0 (Kd.N_below (uN HO406.out) hb)
       have n9_ := mk0 (Kd.R_below (uR HO409.out) hb)
       have n10_ := mk0 (Kd.R_below (uR HO414.out) hb)
       have n11_ := mk0 (blk_below (g := gb383) (o := .cells #[.slice Ao28 t379.length co28, .int .i64 t382] 43 (0, 0)) (uB BK383.out) hb)
       have n12_ := mk0 (blk_below (g := gb397) (o := .cells #[.slice Ao33 t393.length co33, .int .i64 t396] 43 (0, 0)) (uB BK397.out) hb)
       have n13_ := mk0 (blk_below (g := gb411) (o := .cells #[.slice Ao39 t407.length co39, .int .i64 t410] 43 (0, 0)) (uB BK411.out) hb)
       have n14_ := mk0 (below_step (by repeat (first | (with_reducible first | exact HB.out | apply bA | apply bN | apply bD | refine bS ?_ (by assumption)) | exact HB.out)) hb)
       clear HO378
       clear HO381
       clear HO387
       clear HO389
       clear HO392
       clear HO395
       clear HO401
       clear HO403
       clear HO406
       clear HO409
       clear HO414
       clear BK383
       clear BK397
       clear BK411
       clear HB
       have HO378 := n0_
       have HO381 := n1_
       have HO387 := n2_
       have HO389 := n3_
       have HO392 := n4_
       have HO395 := n5_
       have HO401 := n6_
       have HO403 := n7_
       have HO406 := n8_
       have HO409 := n9_
       have HO414 := n10_
       have BK383 := n11_
       have BK397 := n12_
       have BK411 := n13_
       have HB := n14_
       clear n0_ n1_ n2_ n3_ n4_ n5_ n6_ n7_ n8_ n9_ n10_ n11_ n12_ n13_ n14_
       (try clear hb)
       (try clear hb2)
       (try clear hk)
       (try clear hi)
       obtain ⟨Ao52, co52, eo52⟩ := Kd.R_slice HO387.out
       (first | subst eo52 | (injection eo52 with f1_ f2_ f3_; have f4_ := f1_.symm; have f5_ := f3_.symm; clear f1_ f2_ f3_; subst f4_; subst f5_))
       obtain ⟨Ao53, co53, eo53⟩ := Kd.R_slice HO392.out
       (first | subst eo53 | (injection eo53 with f1_ f2_ f3_; have f4_ := f1_.symm; have f5_ := f3_.symm; clear f1_ f2_ f3_; subst f4_; subst f5_))
       refine hK.out _ _ ⟨(blk_cell BK383.out 0).trans rfl, (blk_cell BK383.out 1).trans rfl⟩ (fun hHeld => ?_)
       clear hK K
       refine norm_ (a' := ?_) ?_ ?_
       rotate_left
       ·show Act.put _ (some 65) _ = _
        simp only [Act.put, List.setIfInBounds_toArray, List.set_cons_zero, List.set_cons_succ, i64_w, i32_w]
        rfl
       refine pure_ (i := 15) (N := some 66) (v := ?_) (a' := ?_) #[true, true, true, true, true, true, true, true, true, true, true, true, true, true, true, true, false, false, false, false, false, false, false, false, false, false, false] rfl rfl (any_of HT_.out (by kernel_rfl)) (fun _ _ _ h => h) (Or.inl ⟨by rfl, ?_⟩) ?_ ?_
       rotate_left
       ·intro w'
        go_simp
        with_reducible rfl
       rotate_left
       ·simp only [Act.put, List.setIfInBounds_toArray, List.set_cons_zero, List.set_cons_succ, i64_w, i32_w]
        rfl
       refine pure_ (i := 16) (N := some 67) (v := ?_) (a' := ?_) #[true, true, true, true, true, true, true, true, true, true, true, true, true, true, true, true, true, false, false, false, false, false, false, false, false, false, false] rfl rfl (any_of HT_.out (by kernel_rfl)) (fun _ _ _ h => h) (Or.inl ⟨by rfl, ?_⟩) ?_ ?_
       rotate_left
       ·intro w'
        go_simp
        with_reducible rfl
       rotate_left
       ·simp only [Act.put, List.setIfInBounds_toArray, List.set_cons_zero, List.set_cons_succ, i64_w, i32_w]
        rfl
       refine pure_ (i := 17) (N := some 68) (v := ?_) (a' := ?_) #[true, true, true, true, true, true, true, true, true, true, true, true, true, true, true, true, true, true, false, false, false, false, false, false, false, false, false] rfl rfl (any_of HT_.out (by kernel_rfl)) (fun _ _ _ h => h) (Or.inl ⟨by rfl, ?_⟩) ?_ ?_
       rotate_left
       ·intro w'
        go_simp
        with_reducible rfl
       rotate_left
       ·simp only [Act.put, List.setIfInBounds_toArray, List.set_cons_zero, List.set_cons_succ, i64_w, i32_w]
        rfl
       refine pure_ (i := 18) (N := some 69) (v := ?_) (a' := ?_) #[true, true, true, true, true, true, true, true, true, true, true, true, true, true, true, true, true, true, true, false, false, false, false, false, false, false, false] rfl rfl (any_of HT_.out (by kernel_rfl)) (fun _ _ _ h => h) (Or.inl ⟨by rfl, ?_⟩) ?_ ?_
       rotate_left
       ·intro w'
        go_simp
        with_reducible rfl
       rotate_left
       ·simp only [Act.put, List.setIfInBounds_toArray, List.set_cons_zero, List.set_cons_succ, i64_w, i32_w]
        rfl
       refine one_ (i := 19) (N := some 70) #[true, true, true, true, true, true, true, true, true, true, true, true, true, true, true, true, true, true, true, true, false, false, false, false, false, false, false] rfl rfl (one_of HT_.out (by kernel_rfl)) (by decide) (fun K hK => ?_)
       refine goes_ Tryd.func14 (by kernel_rfl) rfl #[.slice Ao52 t384.length co52, .slice Ao53 t390.length co53] (by rfl) rfl rfl (by (try simp only [List.map_toArray, List.map_cons, List.map_nil]); first | done | rfl | (simp only [List.length_drop, List.length_take]; rfl)) ?_
       with_reducible refine (furrowref4_SameLines.calls k _ _ t384 _ _ t390 true _ ?side1 ?side2 ?side3 ?side4 A20.out).mono ?_
       (case side1 => repeat (first | exact (Kd.R_reads' HO387.out).2.2 | (with_reducible refine Kd.C_alloc ?_ _) | (with_reducible refine Kd.C_drewN ?_ _) | (with_reducible refine Kd.C_drew ?_)))
       (case side2 => exact (Kd.R_reads' HO387.out).2.1)
       (case side3 => repeat (first | exact (Kd.R_reads' HO392.out).2.2 | (with_reducible refine Kd.C_alloc ?_ _) | (with_reducible refine Kd.C_drewN ?_ _) | (with_reducible refine Kd.C_drew ?_)))
       (case side4 => exact (Kd.R_reads' HO392.out).2.1)
       rintro e w' ⟨rfl, ⟨nd, rfl⟩⟩
       refine ⟨_, rfl, ?_⟩
       obtain ⟨Ao54, co54, eo54⟩ := Kd.N_slice HO401.out
       (first | subst eo54 | (injection eo54 with f1_ f2_ f3_; have f4_ := f1_.symm; have f5_ := f3_.symm; clear f1_ f2_ f3_; subst f4_; subst f5_))
       obtain ⟨Ao55, co55, eo55⟩ := Kd.N_slice HO406.out
       (first | subst eo55 | (injection eo55 with f1_ f2_ f3_; have f4_ := f1_.symm; have f5_ := f3_.symm; clear f1_ f2_ f3_; subst f4_; subst f5_))
       refine hK.out _ _ ⟨(blk_cell BK383.out 0).trans rfl, (blk_cell BK383.out 1).trans rfl⟩ (fun hHeld => ?_)
       clear hK K
       refine norm_ (a' := ?_) ?_ ?_
       rotate_left
       ·show Act.put _ (some 70) _ = _
        simp only [Act.put, List.setIfInBounds_toArray, List.set_cons_zero, List.set_cons_succ, i64_w, i32_w]
        rfl
       refine pure_ (i := 20) (N := some 71) (v := ?_) (a' := ?_) #[true, true, true, true, true, true, true, true, true, true, true, true, true, true, true, true, true, true, true, true, true, false, false, false, false, false, false] rfl rfl (any_of HT_.out (by kernel_rfl)) (fun _ _ _ h => h) (Or.inl ⟨by rfl, ?_⟩) ?_ ?_
       rotate_left
       ·intro w'
        go_simp
        with_reducible rfl
       rotate_left
       ·simp only [Act.put, List.setIfInBounds_toArray, List.set_cons_zero, List.set_cons_succ, i64_w, i32_w]
        rfl
       refine pure_ (i := 21) (N := some 72) (v := ?_) (a' := ?_) #[true, true, true, true, true, true, true, true, true, true, true, true, true, true, true, true, true, true, true, true, true, true, false, false, false, false, false] rfl rfl (any_of HT_.out (by kernel_rfl)) (fun _ _ _ h => h) (Or.inl ⟨by rfl, ?_⟩) ?_ ?_
       rotate_left
       ·intro w'
        go_simp
        with_reducible rfl
       rotate_left
       ·simp only [Act.put, List.setIfInBounds_toArray, List.set_cons_zero, List.set_cons_succ, i64_w, i32_w]
        rfl
       refine pure_ (i := 22) (N := some 73) (v := ?_) (a' := ?_) #[true, true, true, true, true, true, true, true, true, true, true, true, true, true, true, true, true, true, true, true, true, true, true, false, false, false, false] rfl rfl (any_of HT_.out (by kernel_rfl)) (fun _ _ _ h => h) (Or.inl ⟨by rfl, ?_⟩) ?_ ?_
       rotate_left
       ·intro w'
        go_simp
        with_reducible rfl
       rotate_left
       ·simp only [Act.put, List.setIfInBounds_toArray, List.set_cons_zero, List.set_cons_succ, i64_w, i32_w]
        rfl
       refine pure_ (i := 23) (N := some 74) (v := ?_) (a' := ?_) #[true, true, true, true, true, true, true, true, true, true, true, true, true, true, true, true, true, true, true, true, true, true, true, true, false, false, false] rfl rfl (any_of HT_.out (by kernel_rfl)) (fun _ _ _ h => h) (Or.inl ⟨by rfl, ?_⟩) ?_ ?_
       rotate_left
       ·intro w'
        go_simp
        with_reducible rfl
       rotate_left
       ·simp only [Act.put, List.setIfInBounds_toArray, List.set_cons_zero, List.set_cons_succ, i64_w, i32_w]
        rfl
       refine one_ (i := 24) (N := some 75) #[true, true, true, true, true, true, true, true, true, true, true, true, true, true, true, true, true, true, true, true, true, true, true, true, true, false, false] rfl rfl (one_of HT_.out (by kernel_rfl)) (by decide) (fun K hK => ?_)
       refine goes_ Tryd.func16 (by kernel_rfl) rfl #[.slice Ao54 t398.length co54, .slice Ao55 t404.length co55] (by rfl) rfl rfl (by (try simp only [List.map_toArray, List.map_cons, List.map_nil]); first | done | rfl | (simp only [List.length_drop, List.length_take]; rfl)) ?_
       with_reducible refine (furrowlaw3_Same.calls k _ _ t398 _ _ t404 t419 _ ?side1 ?side2 ?side3 ?side4 A22.out).mono ?_
       (case side1 => repeat (first | exact (Kd.N_reads' HO401.out).2.2 | (with_reducible refine Kd.C_alloc ?_ _) | (with_reducible refine Kd.C_drewN ?_ _) | (with_reducible refine Kd.C_drew ?_)))
       (case side2 => exact (Kd.N_reads' HO401.out).2.1)
       (case side3 => repeat (first | exact (Kd.N_reads' HO406.out).2.2 | (with_reducible refine Kd.C_alloc ?_ _) | (with_reducible refine Kd.C_drewN ?_ _) | (with_reducible refine Kd.C_drew ?_)))
       (case side4 => exact (Kd.N_reads' HO406.out).2.1)
       rintro e w56 ⟨rfl, hb⟩
       refine ⟨_, rfl, ?_⟩
       have n0_ := mk0 (Kd.N_below (uN HO378.out) hb)
       have n1_ := mk0 (Kd.R_below (uR HO381.out) hb)
       have n2_ := mk0 (Kd.R_below (uR HO387.out) hb)
       have n3_ := mk0 (Kd.R_below (uR HO389.out) hb)
       have n4_ := mk0 (Kd.R_below (uR HO392.out) hb)
       have n5_ := mk0 (Kd.R_below (uR HO395.out) hb)
       have n6_ := mk0 (Kd.N_below (uN HO401.out) hb)
       have n7_ := mk0 (Kd.R_below (uR HO403.out) hb)
       have n8_ := mk0 (Kd.N_below (uN HO406.out) hb)
       have n9_ := mk0 (Kd.R_below (uR HO409.out) hb)
       have n10_ := mk0 (Kd.R_below (uR HO414.out) hb)
       have n11_ := mk0 (blk_below (g := gb383) (o := .cells #[.slice Ao28 t379.length co28, .int .i64 t382] 43 (0, 0)) (uB BK383.out) hb)
       have n12_ := mk0 (blk_below (g := gb397) (o := .cells #[.slice Ao33 t393.length co33, .int .i64 t396] 43 (0, 0)) (uB BK397.out) hb)
       have n13_ := mk0 (blk_below (g := gb411) (o := .cells #[.slice Ao39 t407.length co39, .int .i64 t410] 43 (0, 0)) (uB BK411.out) hb)
       have n14_ := mk0 (below_step (by repeat (first | (with_reducible first | exact HB.out | apply bA | apply bN | apply bD | refine bS ?_ (by assumption)) | exact HB.out)) hb)
       clear HO378
       clear HO381
       clear HO387
       clear HO389
       clear HO392
       clear HO395
       clear HO401
       clear HO403
       clear HO406
       clear HO409
       clear HO414
       clear BK383
       clear BK397
       clear BK411
       clear HB
       have HO378 := n0_
       have HO381 := n1_
       have HO387 := n2_
       have HO389 := n3_
       have HO392 := n4_
       have HO395 := n5_
       have HO401 := n6_
       have HO403 := n7_
       have HO406 := n8_
       have HO409 := n9_
       have HO414 := n10_
       have BK383 := n11_
       have BK397 := n12_
       have BK411 := n13_
       have HB := n14_
       clear n0_ n1_ n2_ n3_ n4_ n5_ n6_ n7_ n8_ n9_ n10_ n11_ n12_ n13_ n14_
       (try clear hb)
       (try clear hb2)
       (try clear hk)
       (try clear hi)
       refine hK.out _ _ ⟨(blk_cell BK383.out 0).trans rfl, (blk_cell BK383.out 1).trans rfl⟩ (fun hHeld => ?_)
       clear hK K
       refine norm_ (a' := ?_) ?_ ?_
       rotate_left
       ·show Act.put _ (some 75) _ = _
        simp only [Act.put, List.setIfInBounds_toArray, List.set_cons_zero, List.set_cons_succ, i64_w, i32_w]
        rfl
       refine pure_ (i := 25) (N := some 76) (v := ?_) (a' := ?_) #[true, true, true, true, true, true, true, true, true, true, true, true, true, true, true, true, true, true, true, true, true, true, true, true, true, true, false] rfl rfl (any_of HT_.out (by kernel_rfl)) (fun _ _ _ h => h) (Or.inl ⟨by rfl, ?_⟩) ?_ ?_
       rotate_left
       ·intro w'
        go_simp
        with_reducible rfl
       rotate_left
       ·simp only [Act.put, List.setIfInBounds_toArray, List.set_cons_zero, List.set_cons_succ, i64_w, i32_w]
        rfl
       refine pure_ (i := 26) (N := some 4) (v := ?_) (a' := ?_) #[true, true, true, true, true, true, true, true, true, true, true, true, true, true, true, true, true, true, true, true, true, true, true, true, true, true, true] rfl rfl (any_of HT_.out (by kernel_rfl)) (fun _ _ _ h => h) (Or.inl ⟨by rfl, ?_⟩) ?_ ?_
       rotate_left
       ·intro w'
        go_simp
        with_reducible rfl
       rotate_left
       ·simp only [Act.put, List.setIfInBounds_toArray, List.set_cons_zero, List.set_cons_succ, i64_w, i32_w]
        rfl
       refine done_ (done_of HT_.out (by kernel_rfl)) ?_
       try go_wp2
       go_ret
       exact ⟨by first | rfl | (simp [errW_none, errW_some] <;> rfl) | (exact congrArg (fun b_ => Ending.returned (Value.bool b_)) HT.out) | (rw [show _ = _ from HT.out]) | (simp [HT.out]; done) | (simp [show _ = _ from HT.out]; done) | (simp [*, errW_none, errW_some] <;> rfl), by repeat (first | (with_reducible first | exact HB.out | apply bA | apply bN | apply bD | refine bS ?_ (by assumption)) | exact HB.out)⟩
      ·replace c21 := Bool.eq_false_iff.mpr c21
       subst c21
       have H1 : (some false) = some true := by rw [if_neg (show ¬ (false = true) by decide)] at H; first | done | exact H
       clear H
       have H := H1
       clear H1
       exact absurd H (by simp)
     ·replace c19 := Bool.eq_false_iff.mpr c19
      subst c19
      have H1 : (some false) = some true := by rw [if_neg (show ¬ (false = true) by decide)] at H; first | done | exact H
      clear H
      have H := H1
      clear H1
      exact absurd H (by simp)
    ·replace c17 := Bool.eq_false_iff.mpr c17
     subst c17
     have H1 : (some false) = some true := by rw [if_neg (show ¬ (false = true) by decide)] at H; first | done | exact H
     clear H
     have H := H1
     clear H1
     exact absurd H (by simp)
   ·replace c15 := Bool.eq_false_iff.mpr c15
    subst c15
    have H1 : (some false) = some true := by rw [if_neg (show ¬ (false = true) by decide)] at H; first | done | exact H
    clear H
    have H := H1
    clear H1
    exact absurd H (by simp)
  ·replace c6 := Bool.eq_false_iff.mpr c6
   subst c6
   have H1 : (some true) = some true := by rw [if_neg (show ¬ (false = true) by decide)] at H; first | done | exact H
   clear H
   have H := H1
   clear H1
   have HT := mk0 (Option.some.inj H)
   clear H
   go_enter Tryd.func7, Tryd.ntmps7
   go_wp2_with (first | ((with_reducible refine gate_callee (f := 10) rfl ?_); refine goesL_ (some 15) rfl rfl Tryd.func10 (by kernel_rfl) rfl #[] rfl (by (try simp only [List.map_toArray, List.map_cons, List.map_nil]); first | done | rfl | (simp only [List.length_drop, List.length_take]; rfl)) ?_; (with_reducible refine (furrowlaw3_known.calls k   _ ?side1 A3.out).mono ?_); (case side1 => exact Glob.below HG.out (uL HB.out)); rintro e w57 ⟨rfl, hb⟩; refine ⟨_, rfl, ?_⟩; have n0_ := mk0 (below_step (uL HB.out) hb); clear HB; have HB := n0_; clear n0_; (try clear hb); (try clear hb2); (try clear hk); (try clear hi)) | ((with_reducible refine gate_callee (f := 11) rfl ?_); refine goesL_ (some 19) rfl rfl Tryd.func11 (by kernel_rfl) rfl #[.slice A0 l0.length c0, .slice A1 l1.length c1] rfl (by (try simp only [List.map_toArray, List.map_cons, List.map_nil]); first | done | rfl | (simp only [List.length_drop, List.length_take]; rfl)) ?_; (with_reducible refine (furrowlaw3_few.calls k _ _ l0 _ _ l1 false _ ?side1 ?side2 ?side3 ?side4 A5.out).mono ?_); (case side1 => repeat (first | exact (Kd.C_below HR0.out HB.out) | (with_reducible refine Kd.C_alloc ?_ _) | (with_reducible refine Kd.C_drewN ?_ _) | (with_reducible refine Kd.C_drew ?_))); (case side2 => exact HC0.out); (case side3 => repeat (first | exact (Kd.C_below HR1.out HB.out) | (with_reducible refine Kd.C_alloc ?_ _) | (with_reducible refine Kd.C_drewN ?_ _) | (with_reducible refine Kd.C_drew ?_))); (case side4 => exact HC1.out); rintro e w' ⟨rfl, ⟨nd, rfl⟩⟩; refine ⟨_, rfl, ?_⟩))
   go_ret
   exact ⟨by first | rfl | (simp [errW_none, errW_some] <;> rfl) | (exact congrArg (fun b_ => Ending.returned (Value.bool b_)) HT.out) | (rw [show _ = _ from HT.out]) | (simp [HT.out]; done) | (simp [show _ = _ from HT.out]; done) | (simp [*, errW_none, errW_some] <;> rfl), uL HB.out⟩
 ·replace c4 := Bool.eq_false_iff.mpr c4
  subst c4
  have H1 : (some false) = some true := by rw [if_neg (show ¬ (false = true) by decide)] at H; first | done | exact H
  clear H
  have H := H1
  clear H1
  exact absurd H (by simp)

end Go.Proofs.YteeeoblpfepepaaDoor.X
