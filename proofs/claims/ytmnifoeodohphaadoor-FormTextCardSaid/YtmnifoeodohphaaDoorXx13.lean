-- PRINTED by print.py (a twelfth state) out of the translation. Not trusted: Lean checks it.
import Derived.Test.YtmnifoeodohphaaDoorXx0
import Derived.Test.YtmnifoeodohphaaDoorXx1
import Derived.Test.YtmnifoeodohphaaDoorXx10
import Derived.Test.YtmnifoeodohphaaDoorXx11
import Derived.Test.YtmnifoeodohphaaDoorXx2
import Derived.Test.YtmnifoeodohphaaDoorHandE
import Derived.Test.YtmnifoeodohphaaDoorHandL
import Derived.Test.YtmnifoeodohphaaDoorHandT
namespace Go.Proofs.YtmnifoeodohphaaDoor.X
open Go.Proofs.YtmnifoeodohphaaDoor.Flt Go.Proofs.YtmnifoeodohphaaDoor.H Go.RowKit Go.Proofs.YtmnifoeodohphaaDoorW.PrintWords Go.Proofs.YtmnifoeodohphaaDoorW.PrintLast Go.Proofs.YtmnifoeodohphaaDoorW.PrintMore
attribute [local go_sem] max2_int min2_int max_two min_two max_three min_three max_four min_four   -- for this text's walks alone
set_option linter.unusedVariables false
set_option linter.unusedSimpArgs false

/-! ### furrowlaw11_known: function 9 -/
def furrowlaw11_known.f (k : Nat)  : Option (Bool) := (some (([2, 0, (-1)] : List Int) : List Int)).bind fun y180 => ((lin_At.f k y180 (-5) (([3, 9, 4] : List Int))).bind fun bt187 => ((lin_Range.f k y180 (-5) (([1, 1, 1] : List Int)) (([3, 9, 2] : List Int))).bind fun bt197 => ((lin_Index.f 3 2).bind fun bt202 => ((lin_Add.f y180 (-5) bt202.1 bt202.2).bind fun bt206 => ((lin_Scale.f y180 (-5) 9223372036854775807).bind fun bt214 => ((lin_Const.f 2 1).bind fun bt222 => ((lin_Add.f y180 (-5) bt222.1 bt222.2).bind fun bt226 => (if (bt187.2.length : Int) = 0 then (if bt187.1 = (-3) then (if (bt197.2.2.length : Int) = 0 then (if bt197.1 = (-5) then (if bt197.2.1 = 0 then (if (bt206.2.2.length : Int) = 0 then (if (bt206.1.length : Int) = 3 then (if 2 < (bt206.1.length : Int) then (if (rd bt206.1 2) = 0 then ((lin_Text.f y180 (-5) (([(⟨#[105]⟩ : ByteArray), (⟨#[106]⟩ : ByteArray), (⟨#[107]⟩ : ByteArray)] : List ByteArray))).bind fun t238 => (if t238.toList = ([50, 42, 105, 32, 45, 32, 107, 32, 45, 32, 53] : List UInt8) then ((lin_Const.f 1 0).bind fun bt239 => ((lin_Text.f bt239.1 bt239.2 ([] : List ByteArray)).bind fun t243 => (if t243.toList = ([48] : List UInt8) then ((furrowref4_At.f (⟨#[102, 111, 114, 109]⟩ : ByteArray) 0 5).bind fun bt244 => ((furrowlaw2_Tells.f bt214.2.2 bt244.1 bt244.2).bind fun t248 => (if t248 = true then ((furrowref4_At.f (⟨#[102, 111, 114, 109]⟩ : ByteArray) 0 1).bind fun bt249 => ((furrowlaw2_Tells.f bt226.2.2 bt249.1 bt249.2).bind fun t253 => (if t253 = true then ((lin_Same.f k y180 (-5) y180 (-5)).bind fun t254 => (some t254)) else (some false)))) else (some false)))) else (some false)))) else (some false))) else (some false)) else (none)) else (some false)) else (some false)) else (some false)) else (some false)) else (some false)) else (some false)) else (some false)))))))))
theorem furrowlaw11_known.mono : ∀ k, LeO (furrowlaw11_known.f k ) (furrowlaw11_known.f (k + 1) ) := by
 intro  k
 unfold furrowlaw11_known.f
 repeat' first
   | (with_reducible exact lin_At.mono _ _ _ _)
   | (with_reducible exact lin_Range.mono _ _ _ _ _)
   | (with_reducible exact lin_Same.mono _ _ _ _ _)
   | (with_reducible exact LeO.refl _)
   | (with_reducible exact LeO.none _)
   | (with_reducible refine LeO.ite ?_ ?_)
   | (with_reducible refine LeO.bind ?_ (fun _ => ?_))
   | exact lin_At.mono _ _ _ _
   | exact lin_Range.mono _ _ _ _ _
   | exact lin_Same.mono _ _ _ _ _
   | exact LeO.none _
   | refine LeO.ite ?_ ?_
   | refine LeO.bind ?_ (fun _ => ?_)
def furrowlaw11_known.T4 : Bool × List (List Nat × List Nat) := (true, [([], []), ([], []), ([0, 1, 1], [0, 1]), ([2], [2]), ([3], [3]), ([3], [3]), ([], []), ([6, 4, 2, 0, 1, 2, 3, 4, 6], [4, 6]), ([5, 7, 0, 1, 2, 3, 4, 5, 6, 7], [5])])
def furrowlaw11_known.B4 : List Nat := [0, 0, 3, 7, 15, 15, 0, 95, 255]
theorem furrowlaw11_known.tab4 : rtab .any (opsOf Tryd.f9 4) = furrowlaw11_known.T4 := by kernel_rfl
theorem furrowlaw11_known.bits4 : waitsOk furrowlaw11_known.T4.2 furrowlaw11_known.B4 = true := by kernel_rfl
def furrowlaw11_known.T6 : Bool × List (List Nat × List Nat) := (true, [([], []), ([], []), ([0, 1, 1], [0, 1]), ([2], [2]), ([3], [3]), ([3], [3]), ([], []), ([6, 4, 2, 0, 1, 2, 3, 4, 6], [4, 6]), ([5, 7, 0, 1, 2, 3, 4, 5, 6, 7], [5])])
def furrowlaw11_known.B6 : List Nat := [0, 0, 3, 7, 15, 15, 0, 95, 255]
theorem furrowlaw11_known.tab6 : rtab .any (opsOf Tryd.f9 6) = furrowlaw11_known.T6 := by kernel_rfl
theorem furrowlaw11_known.bits6 : waitsOk furrowlaw11_known.T6.2 furrowlaw11_known.B6 = true := by kernel_rfl
set_option maxHeartbeats 8000000 in
set_option maxRecDepth 100000 in
theorem furrowlaw11_known.calls (k : Nat)  (w : World) (hG : Glob w) (h : furrowlaw11_known.f k  = some true) :
  Calls Tryd.prog 9 #[] w fun e w' => e = .returned (.bool true) ∧ Below w.heap.size w w' := by
 have hu24 := Tryd.underlying24
 have HG := mk0 hG
 clear hG
 have HB := mk0 (Below.refl w.heap.size w)
 have H : ((some (([2, 0, (-1)] : List Int) : List Int)).bind fun y180 => ((lin_At.f k y180 (-5) (([3, 9, 4] : List Int))).bind fun bt187 => ((lin_Range.f k y180 (-5) (([1, 1, 1] : List Int)) (([3, 9, 2] : List Int))).bind fun bt197 => ((lin_Index.f 3 2).bind fun bt202 => ((lin_Add.f y180 (-5) bt202.1 bt202.2).bind fun bt206 => ((lin_Scale.f y180 (-5) 9223372036854775807).bind fun bt214 => ((lin_Const.f 2 1).bind fun bt222 => ((lin_Add.f y180 (-5) bt222.1 bt222.2).bind fun bt226 => (if (bt187.2.length : Int) = 0 then (if bt187.1 = (-3) then (if (bt197.2.2.length : Int) = 0 then (if bt197.1 = (-5) then (if bt197.2.1 = 0 then (if (bt206.2.2.length : Int) = 0 then (if (bt206.1.length : Int) = 3 then (if 2 < (bt206.1.length : Int) then (if (rd bt206.1 2) = 0 then ((lin_Text.f y180 (-5) (([(⟨#[105]⟩ : ByteArray), (⟨#[106]⟩ : ByteArray), (⟨#[107]⟩ : ByteArray)] : List ByteArray))).bind fun t238 => (if t238.toList = ([50, 42, 105, 32, 45, 32, 107, 32, 45, 32, 53] : List UInt8) then ((lin_Const.f 1 0).bind fun bt239 => ((lin_Text.f bt239.1 bt239.2 ([] : List ByteArray)).bind fun t243 => (if t243.toList = ([48] : List UInt8) then ((furrowref4_At.f (⟨#[102, 111, 114, 109]⟩ : ByteArray) 0 5).bind fun bt244 => ((furrowlaw2_Tells.f bt214.2.2 bt244.1 bt244.2).bind fun t248 => (if t248 = true then ((furrowref4_At.f (⟨#[102, 111, 114, 109]⟩ : ByteArray) 0 1).bind fun bt249 => ((furrowlaw2_Tells.f bt226.2.2 bt249.1 bt249.2).bind fun t253 => (if t253 = true then ((lin_Same.f k y180 (-5) y180 (-5)).bind fun t254 => (some t254)) else (some false)))) else (some false)))) else (some false)))) else (some false))) else (some false)) else (none)) else (some false)) else (some false)) else (some false)) else (some false)) else (some false)) else (some false)) else (some false)))))))))) = some true := h
 clear h
 obtain ⟨y180, hy180⟩ : ∃ y_ : List Int, y_ = (([2, 0, (-1)] : List Int)) := ⟨_, rfl⟩
 replace H : ((lin_At.f k y180 (-5) (([3, 9, 4] : List Int))).bind fun bt187 => ((lin_Range.f k y180 (-5) (([1, 1, 1] : List Int)) (([3, 9, 2] : List Int))).bind fun bt197 => ((lin_Index.f 3 2).bind fun bt202 => ((lin_Add.f y180 (-5) bt202.1 bt202.2).bind fun bt206 => ((lin_Scale.f y180 (-5) 9223372036854775807).bind fun bt214 => ((lin_Const.f 2 1).bind fun bt222 => ((lin_Add.f y180 (-5) bt222.1 bt222.2).bind fun bt226 => (if (bt187.2.length : Int) = 0 then (if bt187.1 = (-3) then (if (bt197.2.2.length : Int) = 0 then (if bt197.1 = (-5) then (if bt197.2.1 = 0 then (if (bt206.2.2.length : Int) = 0 then (if (bt206.1.length : Int) = 3 then (if 2 < (bt206.1.length : Int) then (if (rd bt206.1 2) = 0 then ((lin_Text.f y180 (-5) (([(⟨#[105]⟩ : ByteArray), (⟨#[106]⟩ : ByteArray), (⟨#[107]⟩ : ByteArray)] : List ByteArray))).bind fun t238 => (if t238.toList = ([50, 42, 105, 32, 45, 32, 107, 32, 45, 32, 53] : List UInt8) then ((lin_Const.f 1 0).bind fun bt239 => ((lin_Text.f bt239.1 bt239.2 ([] : List ByteArray)).bind fun t243 => (if t243.toList = ([48] : List UInt8) then ((furrowref4_At.f (⟨#[102, 111, 114, 109]⟩ : ByteArray) 0 5).bind fun bt244 => ((furrowlaw2_Tells.f bt214.2.2 bt244.1 bt244.2).bind fun t248 => (if t248 = true then ((furrowref4_At.f (⟨#[102, 111, 114, 109]⟩ : ByteArray) 0 1).bind fun bt249 => ((furrowlaw2_Tells.f bt226.2.2 bt249.1 bt249.2).bind fun t253 => (if t253 = true then ((lin_Same.f k y180 (-5) y180 (-5)).bind fun t254 => (some t254)) else (some false)))) else (some false)))) else (some false)))) else (some false))) else (some false)) else (none)) else (some false)) else (some false)) else (some false)) else (some false)) else (some false)) else (some false)) else (some false))))))))) = some true := by first | (rw [hy180]; with_reducible exact H) | (have H2_ := (Option.bind_some _ _).symm.trans H; rw [hy180]; with_reducible exact H2_) | (have H2_ := (Option.bind_some _ _).symm.trans H; with_reducible exact H2_) | with_reducible exact H | (rw [hy180]; exact H) | exact H
 have Ny180 := mk0 hy180
 clear hy180
 obtain ⟨y184, hy184⟩ : ∃ y_ : List Int, y_ = (([3, 9, 4] : List Int)) := ⟨_, rfl⟩
 replace H : ((lin_At.f k y180 (-5) y184).bind fun bt187 => ((lin_Range.f k y180 (-5) (([1, 1, 1] : List Int)) (([3, 9, 2] : List Int))).bind fun bt197 => ((lin_Index.f 3 2).bind fun bt202 => ((lin_Add.f y180 (-5) bt202.1 bt202.2).bind fun bt206 => ((lin_Scale.f y180 (-5) 9223372036854775807).bind fun bt214 => ((lin_Const.f 2 1).bind fun bt222 => ((lin_Add.f y180 (-5) bt222.1 bt222.2).bind fun bt226 => (if (bt187.2.length : Int) = 0 then (if bt187.1 = (-3) then (if (bt197.2.2.length : Int) = 0 then (if bt197.1 = (-5) then (if bt197.2.1 = 0 then (if (bt206.2.2.length : Int) = 0 then (if (bt206.1.length : Int) = 3 then (if 2 < (bt206.1.length : Int) then (if (rd bt206.1 2) = 0 then ((lin_Text.f y180 (-5) (([(⟨#[105]⟩ : ByteArray), (⟨#[106]⟩ : ByteArray), (⟨#[107]⟩ : ByteArray)] : List ByteArray))).bind fun t238 => (if t238.toList = ([50, 42, 105, 32, 45, 32, 107, 32, 45, 32, 53] : List UInt8) then ((lin_Const.f 1 0).bind fun bt239 => ((lin_Text.f bt239.1 bt239.2 ([] : List ByteArray)).bind fun t243 => (if t243.toList = ([48] : List UInt8) then ((furrowref4_At.f (⟨#[102, 111, 114, 109]⟩ : ByteArray) 0 5).bind fun bt244 => ((furrowlaw2_Tells.f bt214.2.2 bt244.1 bt244.2).bind fun t248 => (if t248 = true then ((furrowref4_At.f (⟨#[102, 111, 114, 109]⟩ : ByteArray) 0 1).bind fun bt249 => ((furrowlaw2_Tells.f bt226.2.2 bt249.1 bt249.2).bind fun t253 => (if t253 = true then ((lin_Same.f k y180 (-5) y180 (-5)).bind fun t254 => (some t254)) else (some false)))) else (some false)))) else (some false)))) else (some false))) else (some false)) else (none)) else (some false)) else (some false)) else (some false)) else (some false)) else (some false)) else (some false)) else (some false))))))))) = some true := by first | (rw [hy184]; with_reducible exact H) | (have H2_ := (Option.bind_some _ _).symm.trans H; rw [hy184]; with_reducible exact H2_) | (have H2_ := (Option.bind_some _ _).symm.trans H; with_reducible exact H2_) | with_reducible exact H | (rw [hy184]; exact H) | exact H
 have Ny184 := mk0 hy184
 clear hy184
 replace H := Option.bind_eq_some_iff.mp H
 obtain ⟨⟨t187, t188⟩, A10, H⟩ := H
 replace H : ((lin_Range.f k y180 (-5) (([1, 1, 1] : List Int)) (([3, 9, 2] : List Int))).bind fun bt197 => ((lin_Index.f 3 2).bind fun bt202 => ((lin_Add.f y180 (-5) bt202.1 bt202.2).bind fun bt206 => ((lin_Scale.f y180 (-5) 9223372036854775807).bind fun bt214 => ((lin_Const.f 2 1).bind fun bt222 => ((lin_Add.f y180 (-5) bt222.1 bt222.2).bind fun bt226 => (if (t188.length : Int) = 0 then (if t187 = (-3) then (if (bt197.2.2.length : Int) = 0 then (if bt197.1 = (-5) then (if bt197.2.1 = 0 then (if (bt206.2.2.length : Int) = 0 then (if (bt206.1.length : Int) = 3 then (if 2 < (bt206.1.length : Int) then (if (rd bt206.1 2) = 0 then ((lin_Text.f y180 (-5) (([(⟨#[105]⟩ : ByteArray), (⟨#[106]⟩ : ByteArray), (⟨#[107]⟩ : ByteArray)] : List ByteArray))).bind fun t238 => (if t238.toList = ([50, 42, 105, 32, 45, 32, 107, 32, 45, 32, 53] : List UInt8) then ((lin_Const.f 1 0).bind fun bt239 => ((lin_Text.f bt239.1 bt239.2 ([] : List ByteArray)).bind fun t243 => (if t243.toList = ([48] : List UInt8) then ((furrowref4_At.f (⟨#[102, 111, 114, 109]⟩ : ByteArray) 0 5).bind fun bt244 => ((furrowlaw2_Tells.f bt214.2.2 bt244.1 bt244.2).bind fun t248 => (if t248 = true then ((furrowref4_At.f (⟨#[102, 111, 114, 109]⟩ : ByteArray) 0 1).bind fun bt249 => ((furrowlaw2_Tells.f bt226.2.2 bt249.1 bt249.2).bind fun t253 => (if t253 = true then ((lin_Same.f k y180 (-5) y180 (-5)).bind fun t254 => (some t254)) else (some false)))) else (some false)))) else (some false)))) else (some false))) else (some false)) else (none)) else (some false)) else (some false)) else (some false)) else (some false)) else (some false)) else (some false)) else (some false)))))))) = some true := H
 have A1 := mk0 A10
 clear A10
 obtain ⟨y191, hy191⟩ : ∃ y_ : List Int, y_ = (([1, 1, 1] : List Int)) := ⟨_, rfl⟩
 replace H : ((lin_Range.f k y180 (-5) y191 (([3, 9, 2] : List Int))).bind fun bt197 => ((lin_Index.f 3 2).bind fun bt202 => ((lin_Add.f y180 (-5) bt202.1 bt202.2).bind fun bt206 => ((lin_Scale.f y180 (-5) 9223372036854775807).bind fun bt214 => ((lin_Const.f 2 1).bind fun bt222 => ((lin_Add.f y180 (-5) bt222.1 bt222.2).bind fun bt226 => (if (t188.length : Int) = 0 then (if t187 = (-3) then (if (bt197.2.2.length : Int) = 0 then (if bt197.1 = (-5) then (if bt197.2.1 = 0 then (if (bt206.2.2.length : Int) = 0 then (if (bt206.1.length : Int) = 3 then (if 2 < (bt206.1.length : Int) then (if (rd bt206.1 2) = 0 then ((lin_Text.f y180 (-5) (([(⟨#[105]⟩ : ByteArray), (⟨#[106]⟩ : ByteArray), (⟨#[107]⟩ : ByteArray)] : List ByteArray))).bind fun t238 => (if t238.toList = ([50, 42, 105, 32, 45, 32, 107, 32, 45, 32, 53] : List UInt8) then ((lin_Const.f 1 0).bind fun bt239 => ((lin_Text.f bt239.1 bt239.2 ([] : List ByteArray)).bind fun t243 => (if t243.toList = ([48] : List UInt8) then ((furrowref4_At.f (⟨#[102, 111, 114, 109]⟩ : ByteArray) 0 5).bind fun bt244 => ((furrowlaw2_Tells.f bt214.2.2 bt244.1 bt244.2).bind fun t248 => (if t248 = true then ((furrowref4_At.f (⟨#[102, 111, 114, 109]⟩ : ByteArray) 0 1).bind fun bt249 => ((furrowlaw2_Tells.f bt226.2.2 bt249.1 bt249.2).bind fun t253 => (if t253 = true then ((lin_Same.f k y180 (-5) y180 (-5)).bind fun t254 => (some t254)) else (some false)))) else (some false)))) else (some false)))) else (some false))) else (some false)) else (none)) else (some false)) else (some false)) else (some false)) else (some false)) else (some false)) else (some false)) else (some false)))))))) = some true := by first | (rw [hy191]; with_reducible exact H) | (have H2_ := (Option.bind_some _ _).symm.trans H; rw [hy191]; with_reducible exact H2_) | (have H2_ := (Option.bind_some _ _).symm.trans H; with_reducible exact H2_) | with_reducible exact H | (rw [hy191]; exact H) | exact H
 have Ny191 := mk0 hy191
 clear hy191
 obtain ⟨y194, hy194⟩ : ∃ y_ : List Int, y_ = (([3, 9, 2] : List Int)) := ⟨_, rfl⟩
 replace H : ((lin_Range.f k y180 (-5) y191 y194).bind fun bt197 => ((lin_Index.f 3 2).bind fun bt202 => ((lin_Add.f y180 (-5) bt202.1 bt202.2).bind fun bt206 => ((lin_Scale.f y180 (-5) 9223372036854775807).bind fun bt214 => ((lin_Const.f 2 1).bind fun bt222 => ((lin_Add.f y180 (-5) bt222.1 bt222.2).bind fun bt226 => (if (t188.length : Int) = 0 then (if t187 = (-3) then (if (bt197.2.2.length : Int) = 0 then (if bt197.1 = (-5) then (if bt197.2.1 = 0 then (if (bt206.2.2.length : Int) = 0 then (if (bt206.1.length : Int) = 3 then (if 2 < (bt206.1.length : Int) then (if (rd bt206.1 2) = 0 then ((lin_Text.f y180 (-5) (([(⟨#[105]⟩ : ByteArray), (⟨#[106]⟩ : ByteArray), (⟨#[107]⟩ : ByteArray)] : List ByteArray))).bind fun t238 => (if t238.toList = ([50, 42, 105, 32, 45, 32, 107, 32, 45, 32, 53] : List UInt8) then ((lin_Const.f 1 0).bind fun bt239 => ((lin_Text.f bt239.1 bt239.2 ([] : List ByteArray)).bind fun t243 => (if t243.toList = ([48] : List UInt8) then ((furrowref4_At.f (⟨#[102, 111, 114, 109]⟩ : ByteArray) 0 5).bind fun bt244 => ((furrowlaw2_Tells.f bt214.2.2 bt244.1 bt244.2).bind fun t248 => (if t248 = true then ((furrowref4_At.f (⟨#[102, 111, 114, 109]⟩ : ByteArray) 0 1).bind fun bt249 => ((furrowlaw2_Tells.f bt226.2.2 bt249.1 bt249.2).bind fun t253 => (if t253 = true then ((lin_Same.f k y180 (-5) y180 (-5)).bind fun t254 => (some t254)) else (some false)))) else (some false)))) else (some false)))) else (some false))) else (some false)) else (none)) else (some false)) else (some false)) else (some false)) else (some false)) else (some false)) else (some false)) else (some false)))))))) = some true := by first | (rw [hy194]; with_reducible exact H) | (have H2_ := (Option.bind_some _ _).symm.trans H; rw [hy194]; with_reducible exact H2_) | (have H2_ := (Option.bind_some _ _).symm.trans H; with_reducible exact H2_) | with_reducible exact H | (rw [hy194]; exact H) | exact H
 have Ny194 := mk0 hy194
 clear hy194
 replace H := Option.bind_eq_some_iff.mp H
 obtain ⟨⟨t197, t198, t199⟩, A20, H⟩ := H
 replace H : ((lin_Index.f 3 2).bind fun bt202 => ((lin_Add.f y180 (-5) bt202.1 bt202.2).bind fun bt206 => ((lin_Scale.f y180 (-5) 9223372036854775807).bind fun bt214 => ((lin_Const.f 2 1).bind fun bt222 => ((lin_Add.f y180 (-5) bt222.1 bt222.2).bind fun bt226 => (if (t188.length : Int) = 0 then (if t187 = (-3) then (if (t199.length : Int) = 0 then (if t197 = (-5) then (if t198 = 0 then (if (bt206.2.2.length : Int) = 0 then (if (bt206.1.length : Int) = 3 then (if 2 < (bt206.1.length : Int) then (if (rd bt206.1 2) = 0 then ((lin_Text.f y180 (-5) (([(⟨#[105]⟩ : ByteArray), (⟨#[106]⟩ : ByteArray), (⟨#[107]⟩ : ByteArray)] : List ByteArray))).bind fun t238 => (if t238.toList = ([50, 42, 105, 32, 45, 32, 107, 32, 45, 32, 53] : List UInt8) then ((lin_Const.f 1 0).bind fun bt239 => ((lin_Text.f bt239.1 bt239.2 ([] : List ByteArray)).bind fun t243 => (if t243.toList = ([48] : List UInt8) then ((furrowref4_At.f (⟨#[102, 111, 114, 109]⟩ : ByteArray) 0 5).bind fun bt244 => ((furrowlaw2_Tells.f bt214.2.2 bt244.1 bt244.2).bind fun t248 => (if t248 = true then ((furrowref4_At.f (⟨#[102, 111, 114, 109]⟩ : ByteArray) 0 1).bind fun bt249 => ((furrowlaw2_Tells.f bt226.2.2 bt249.1 bt249.2).bind fun t253 => (if t253 = true then ((lin_Same.f k y180 (-5) y180 (-5)).bind fun t254 => (some t254)) else (some false)))) else (some false)))) else (some false)))) else (some false))) else (some false)) else (none)) else (some false)) else (some false)) else (some false)) else (some false)) else (some false)) else (some false)) else (some false))))))) = some true := H
 have A2 := mk0 A20
 clear A20
 replace H := Option.bind_eq_some_iff.mp H
 obtain ⟨⟨t202, t205⟩, A30, H⟩ := H
 replace H : ((lin_Add.f y180 (-5) t202 t205).bind fun bt206 => ((lin_Scale.f y180 (-5) 9223372036854775807).bind fun bt214 => ((lin_Const.f 2 1).bind fun bt222 => ((lin_Add.f y180 (-5) bt222.1 bt222.2).bind fun bt226 => (if (t188.length : Int) = 0 then (if t187 = (-3) then (if (t199.length : Int) = 0 then (if t197 = (-5) then (if t198 = 0 then (if (bt206.2.2.length : Int) = 0 then (if (bt206.1.length : Int) = 3 then (if 2 < (bt206.1.length : Int) then (if (rd bt206.1 2) = 0 then ((lin_Text.f y180 (-5) (([(⟨#[105]⟩ : ByteArray), (⟨#[106]⟩ : ByteArray), (⟨#[107]⟩ : ByteArray)] : List ByteArray))).bind fun t238 => (if t238.toList = ([50, 42, 105, 32, 45, 32, 107, 32, 45, 32, 53] : List UInt8) then ((lin_Const.f 1 0).bind fun bt239 => ((lin_Text.f bt239.1 bt239.2 ([] : List ByteArray)).bind fun t243 => (if t243.toList = ([48] : List UInt8) then ((furrowref4_At.f (⟨#[102, 111, 114, 109]⟩ : ByteArray) 0 5).bind fun bt244 => ((furrowlaw2_Tells.f bt214.2.2 bt244.1 bt244.2).bind fun t248 => (if t248 = true then ((furrowref4_At.f (⟨#[102, 111, 114, 109]⟩ : ByteArray) 0 1).bind fun bt249 => ((furrowlaw2_Tells.f bt226.2.2 bt249.1 bt249.2).bind fun t253 => (if t253 = true then ((lin_Same.f k y180 (-5) y180 (-5)).bind fun t254 => (some t254)) else (some false)))) else (some false)))) else (some false)))) else (some false))) else (some false)) else (none)) else (some false)) else (some false)) else (some false)) else (some false)) else (some false)) else (some false)) else (some false)))))) = some true := H
 have A3 := mk0 A30
 clear A30
 replace H := Option.bind_eq_some_iff.mp H
 obtain ⟨⟨t206, t209, t210⟩, A40, H⟩ := H
 replace H : ((lin_Scale.f y180 (-5) 9223372036854775807).bind fun bt214 => ((lin_Const.f 2 1).bind fun bt222 => ((lin_Add.f y180 (-5) bt222.1 bt222.2).bind fun bt226 => (if (t188.length : Int) = 0 then (if t187 = (-3) then (if (t199.length : Int) = 0 then (if t197 = (-5) then (if t198 = 0 then (if (t210.length : Int) = 0 then (if (t206.length : Int) = 3 then (if 2 < (t206.length : Int) then (if (rd t206 2) = 0 then ((lin_Text.f y180 (-5) (([(⟨#[105]⟩ : ByteArray), (⟨#[106]⟩ : ByteArray), (⟨#[107]⟩ : ByteArray)] : List ByteArray))).bind fun t238 => (if t238.toList = ([50, 42, 105, 32, 45, 32, 107, 32, 45, 32, 53] : List UInt8) then ((lin_Const.f 1 0).bind fun bt239 => ((lin_Text.f bt239.1 bt239.2 ([] : List ByteArray)).bind fun t243 => (if t243.toList = ([48] : List UInt8) then ((furrowref4_At.f (⟨#[102, 111, 114, 109]⟩ : ByteArray) 0 5).bind fun bt244 => ((furrowlaw2_Tells.f bt214.2.2 bt244.1 bt244.2).bind fun t248 => (if t248 = true then ((furrowref4_At.f (⟨#[102, 111, 114, 109]⟩ : ByteArray) 0 1).bind fun bt249 => ((furrowlaw2_Tells.f bt226.2.2 bt249.1 bt249.2).bind fun t253 => (if t253 = true then ((lin_Same.f k y180 (-5) y180 (-5)).bind fun t254 => (some t254)) else (some false)))) else (some false)))) else (some false)))) else (some false))) else (some false)) else (none)) else (some false)) else (some false)) else (some false)) else (some false)) else (some false)) else (some false)) else (some false))))) = some true := H
 have A4 := mk0 A40
 clear A40
 replace H := Option.bind_eq_some_iff.mp H
 obtain ⟨⟨t214, t217, t218⟩, A50, H⟩ := H
 replace H : ((lin_Const.f 2 1).bind fun bt222 => ((lin_Add.f y180 (-5) bt222.1 bt222.2).bind fun bt226 => (if (t188.length : Int) = 0 then (if t187 = (-3) then (if (t199.length : Int) = 0 then (if t197 = (-5) then (if t198 = 0 then (if (t210.length : Int) = 0 then (if (t206.length : Int) = 3 then (if 2 < (t206.length : Int) then (if (rd t206 2) = 0 then ((lin_Text.f y180 (-5) (([(⟨#[105]⟩ : ByteArray), (⟨#[106]⟩ : ByteArray), (⟨#[107]⟩ : ByteArray)] : List ByteArray))).bind fun t238 => (if t238.toList = ([50, 42, 105, 32, 45, 32, 107, 32, 45, 32, 53] : List UInt8) then ((lin_Const.f 1 0).bind fun bt239 => ((lin_Text.f bt239.1 bt239.2 ([] : List ByteArray)).bind fun t243 => (if t243.toList = ([48] : List UInt8) then ((furrowref4_At.f (⟨#[102, 111, 114, 109]⟩ : ByteArray) 0 5).bind fun bt244 => ((furrowlaw2_Tells.f t218 bt244.1 bt244.2).bind fun t248 => (if t248 = true then ((furrowref4_At.f (⟨#[102, 111, 114, 109]⟩ : ByteArray) 0 1).bind fun bt249 => ((furrowlaw2_Tells.f bt226.2.2 bt249.1 bt249.2).bind fun t253 => (if t253 = true then ((lin_Same.f k y180 (-5) y180 (-5)).bind fun t254 => (some t254)) else (some false)))) else (some false)))) else (some false)))) else (some false))) else (some false)) else (none)) else (some false)) else (some false)) else (some false)) else (some false)) else (some false)) else (some false)) else (some false)))) = some true := H
 have A5 := mk0 A50
 clear A50
 replace H := Option.bind_eq_some_iff.mp H
 obtain ⟨⟨t222, t225⟩, A60, H⟩ := H
 replace H : ((lin_Add.f y180 (-5) t222 t225).bind fun bt226 => (if (t188.length : Int) = 0 then (if t187 = (-3) then (if (t199.length : Int) = 0 then (if t197 = (-5) then (if t198 = 0 then (if (t210.length : Int) = 0 then (if (t206.length : Int) = 3 then (if 2 < (t206.length : Int) then (if (rd t206 2) = 0 then ((lin_Text.f y180 (-5) (([(⟨#[105]⟩ : ByteArray), (⟨#[106]⟩ : ByteArray), (⟨#[107]⟩ : ByteArray)] : List ByteArray))).bind fun t238 => (if t238.toList = ([50, 42, 105, 32, 45, 32, 107, 32, 45, 32, 53] : List UInt8) then ((lin_Const.f 1 0).bind fun bt239 => ((lin_Text.f bt239.1 bt239.2 ([] : List ByteArray)).bind fun t243 => (if t243.toList = ([48] : List UInt8) then ((furrowref4_At.f (⟨#[102, 111, 114, 109]⟩ : ByteArray) 0 5).bind fun bt244 => ((furrowlaw2_Tells.f t218 bt244.1 bt244.2).bind fun t248 => (if t248 = true then ((furrowref4_At.f (⟨#[102, 111, 114, 109]⟩ : ByteArray) 0 1).bind fun bt249 => ((furrowlaw2_Tells.f bt226.2.2 bt249.1 bt249.2).bind fun t253 => (if t253 = true then ((lin_Same.f k y180 (-5) y180 (-5)).bind fun t254 => (some t254)) else (some false)))) else (some false)))) else (some false)))) else (some false))) else (some false)) else (none)) else (some false)) else (some false)) else (some false)) else (some false)) else (some false)) else (some false)) else (some false))) = some true := H
 have A6 := mk0 A60
 clear A60
 replace H := Option.bind_eq_some_iff.mp H
 obtain ⟨⟨t226, t229, t230⟩, A70, H⟩ := H
 replace H : (if (t188.length : Int) = 0 then (if t187 = (-3) then (if (t199.length : Int) = 0 then (if t197 = (-5) then (if t198 = 0 then (if (t210.length : Int) = 0 then (if (t206.length : Int) = 3 then (if 2 < (t206.length : Int) then (if (rd t206 2) = 0 then ((lin_Text.f y180 (-5) (([(⟨#[105]⟩ : ByteArray), (⟨#[106]⟩ : ByteArray), (⟨#[107]⟩ : ByteArray)] : List ByteArray))).bind fun t238 => (if t238.toList = ([50, 42, 105, 32, 45, 32, 107, 32, 45, 32, 53] : List UInt8) then ((lin_Const.f 1 0).bind fun bt239 => ((lin_Text.f bt239.1 bt239.2 ([] : List ByteArray)).bind fun t243 => (if t243.toList = ([48] : List UInt8) then ((furrowref4_At.f (⟨#[102, 111, 114, 109]⟩ : ByteArray) 0 5).bind fun bt244 => ((furrowlaw2_Tells.f t218 bt244.1 bt244.2).bind fun t248 => (if t248 = true then ((furrowref4_At.f (⟨#[102, 111, 114, 109]⟩ : ByteArray) 0 1).bind fun bt249 => ((furrowlaw2_Tells.f t230 bt249.1 bt249.2).bind fun t253 => (if t253 = true then ((lin_Same.f k y180 (-5) y180 (-5)).bind fun t254 => (some t254)) else (some false)))) else (some false)))) else (some false)))) else (some false))) else (some false)) else (none)) else (some false)) else (some false)) else (some false)) else (some false)) else (some false)) else (some false)) else (some false)) = some true := H
 have A7 := mk0 A70
 clear A70
 by_cases c8 : (t188.length : Int) = 0
 ·rw [if_pos c8] at H
  have c8b0 : ((t188.length : Int) == 0) = true := beq_iff_eq.mpr c8
  have c8b1 : ((t188.length : Int) != 0) = false := bne_eq_false_iff_eq.mpr c8
  clear c8
  by_cases c9 : t187 = (-3)
  ·rw [if_pos c9] at H
   have c9b0 : (t187 == (-3)) = true := beq_iff_eq.mpr c9
   have c9b1 : (t187 != (-3)) = false := bne_eq_false_iff_eq.mpr c9
   clear c9
   by_cases c10 : (t199.length : Int) = 0
   ·rw [if_pos c10] at H
    have c10b0 : ((t199.length : Int) == 0) = true := beq_iff_eq.mpr c10
    have c10b1 : ((t199.length : Int) != 0) = false := bne_eq_false_iff_eq.mpr c10
    clear c10
    by_cases c11 : t197 = (-5)
    ·rw [if_pos c11] at H
     have c11b0 : (t197 == (-5)) = true := beq_iff_eq.mpr c11
     have c11b1 : (t197 != (-5)) = false := bne_eq_false_iff_eq.mpr c11
     clear c11
     by_cases c12 : t198 = 0
     ·rw [if_pos c12] at H
      have c12b0 : (t198 == 0) = true := beq_iff_eq.mpr c12
      have c12b1 : (t198 != 0) = false := bne_eq_false_iff_eq.mpr c12
      clear c12
      by_cases c13 : (t210.length : Int) = 0
      ·rw [if_pos c13] at H
       have c13b0 : ((t210.length : Int) == 0) = true := beq_iff_eq.mpr c13
       have c13b1 : ((t210.length : Int) != 0) = false := bne_eq_false_iff_eq.mpr c13
       clear c13
       by_cases c14 : (t206.length : Int) = 3
       ·rw [if_pos c14] at H
        have c14b0 : ((t206.length : Int) == 3) = true := beq_iff_eq.mpr c14
        have c14b1 : ((t206.length : Int) != 3) = false := bne_eq_false_iff_eq.mpr c14
        clear c14
        by_cases c15 : 2 < (t206.length : Int)
        ·rw [if_pos c15] at H
         have c15b0 : decide (2 < (t206.length : Int)) = true := decide_eq_true c15
         have c15b1 : decide (2 < t206.length) = true := decide_eq_true (by omega)
         clear c15
         by_cases c16 : (rd t206 2) = 0
         ·rw [if_pos c16] at H
          have c16b0 : ((rd t206 2) == 0) = true := beq_iff_eq.mpr c16
          have c16b1 : ((rd t206 2) != 0) = false := bne_eq_false_iff_eq.mpr c16
          clear c16
          obtain ⟨y235, hy235⟩ : ∃ y_ : List ByteArray, y_ = (([(⟨#[105]⟩ : ByteArray), (⟨#[106]⟩ : ByteArray), (⟨#[107]⟩ : ByteArray)] : List ByteArray)) := ⟨_, rfl⟩
          replace H : ((lin_Text.f y180 (-5) y235).bind fun t238 => (if t238.toList = ([50, 42, 105, 32, 45, 32, 107, 32, 45, 32, 53] : List UInt8) then ((lin_Const.f 1 0).bind fun bt239 => ((lin_Text.f bt239.1 bt239.2 ([] : List ByteArray)).bind fun t243 => (if t243.toList = ([48] : List UInt8) then ((furrowref4_At.f (⟨#[102, 111, 114, 109]⟩ : ByteArray) 0 5).bind fun bt244 => ((furrowlaw2_Tells.f t218 bt244.1 bt244.2).bind fun t248 => (if t248 = true then ((furrowref4_At.f (⟨#[102, 111, 114, 109]⟩ : ByteArray) 0 1).bind fun bt249 => ((furrowlaw2_Tells.f t230 bt249.1 bt249.2).bind fun t253 => (if t253 = true then ((lin_Same.f k y180 (-5) y180 (-5)).bind fun t254 => (some t254)) else (some false)))) else (some false)))) else (some false)))) else (some false))) = some true := by first | (rw [hy235]; with_reducible exact H) | (have H2_ := (Option.bind_some _ _).symm.trans H; rw [hy235]; with_reducible exact H2_) | (have H2_ := (Option.bind_some _ _).symm.trans H; with_reducible exact H2_) | with_reducible exact H | (rw [hy235]; exact H) | exact H
          have Ny235 := mk0 hy235
          clear hy235
          replace H := Option.bind_eq_some_iff.mp H
          obtain ⟨t238, A170, H⟩ := H
          replace H : (if t238.toList = ([50, 42, 105, 32, 45, 32, 107, 32, 45, 32, 53] : List UInt8) then ((lin_Const.f 1 0).bind fun bt239 => ((lin_Text.f bt239.1 bt239.2 ([] : List ByteArray)).bind fun t243 => (if t243.toList = ([48] : List UInt8) then ((furrowref4_At.f (⟨#[102, 111, 114, 109]⟩ : ByteArray) 0 5).bind fun bt244 => ((furrowlaw2_Tells.f t218 bt244.1 bt244.2).bind fun t248 => (if t248 = true then ((furrowref4_At.f (⟨#[102, 111, 114, 109]⟩ : ByteArray) 0 1).bind fun bt249 => ((furrowlaw2_Tells.f t230 bt249.1 bt249.2).bind fun t253 => (if t253 = true then ((lin_Same.f k y180 (-5) y180 (-5)).bind fun t254 => (some t254)) else (some false)))) else (some false)))) else (some false)))) else (some false)) = some true := H
          have A17 := mk0 A170
          clear A170
          by_cases c18 : t238.toList = ([50, 42, 105, 32, 45, 32, 107, 32, 45, 32, 53] : List UInt8)
          ·rw [if_pos c18] at H
           have c18b0 : (t238.toList == ([50, 42, 105, 32, 45, 32, 107, 32, 45, 32, 53] : List UInt8)) = true := beq_iff_eq.mpr c18
           have c18b1 : (t238.toList != ([50, 42, 105, 32, 45, 32, 107, 32, 45, 32, 53] : List UInt8)) = false := bne_eq_false_iff_eq.mpr c18
           clear c18
           replace H := Option.bind_eq_some_iff.mp H
           obtain ⟨⟨t239, t242⟩, A190, H⟩ := H
           replace H : ((lin_Text.f t239 t242 ([] : List ByteArray)).bind fun t243 => (if t243.toList = ([48] : List UInt8) then ((furrowref4_At.f (⟨#[102, 111, 114, 109]⟩ : ByteArray) 0 5).bind fun bt244 => ((furrowlaw2_Tells.f t218 bt244.1 bt244.2).bind fun t248 => (if t248 = true then ((furrowref4_At.f (⟨#[102, 111, 114, 109]⟩ : ByteArray) 0 1).bind fun bt249 => ((furrowlaw2_Tells.f t230 bt249.1 bt249.2).bind fun t253 => (if t253 = true then ((lin_Same.f k y180 (-5) y180 (-5)).bind fun t254 => (some t254)) else (some false)))) else (some false)))) else (some false))) = some true := H
           have A19 := mk0 A190
           clear A190
           replace H := Option.bind_eq_some_iff.mp H
           obtain ⟨t243, A200, H⟩ := H
           replace H : (if t243.toList = ([48] : List UInt8) then ((furrowref4_At.f (⟨#[102, 111, 114, 109]⟩ : ByteArray) 0 5).bind fun bt244 => ((furrowlaw2_Tells.f t218 bt244.1 bt244.2).bind fun t248 => (if t248 = true then ((furrowref4_At.f (⟨#[102, 111, 114, 109]⟩ : ByteArray) 0 1).bind fun bt249 => ((furrowlaw2_Tells.f t230 bt249.1 bt249.2).bind fun t253 => (if t253 = true then ((lin_Same.f k y180 (-5) y180 (-5)).bind fun t254 => (some t254)) else (some false)))) else (some false)))) else (some false)) = some true := H
           have A20 := mk0 A200
           clear A200
           by_cases c21 : t243.toList = ([48] : List UInt8)
           ·rw [if_pos c21] at H
            have c21b0 : (t243.toList == ([48] : List UInt8)) = true := beq_iff_eq.mpr c21
            have c21b1 : (t243.toList != ([48] : List UInt8)) = false := bne_eq_false_iff_eq.mpr c21
            clear c21
            replace H := Option.bind_eq_some_iff.mp H
            obtain ⟨⟨t244, t247⟩, A220, H⟩ := H
            replace H : ((furrowlaw2_Tells.f t218 t244 t247).bind fun t248 => (if t248 = true then ((furrowref4_At.f (⟨#[102, 111, 114, 109]⟩ : ByteArray) 0 1).bind fun bt249 => ((furrowlaw2_Tells.f t230 bt249.1 bt249.2).bind fun t253 => (if t253 = true then ((lin_Same.f k y180 (-5) y180 (-5)).bind fun t254 => (some t254)) else (some false)))) else (some false))) = some true := H
            have A22 := mk0 A220
            clear A220
            replace H := Option.bind_eq_some_iff.mp H
            obtain ⟨t248, A230, H⟩ := H
            replace H : (if t248 = true then ((furrowref4_At.f (⟨#[102, 111, 114, 109]⟩ : ByteArray) 0 1).bind fun bt249 => ((furrowlaw2_Tells.f t230 bt249.1 bt249.2).bind fun t253 => (if t253 = true then ((lin_Same.f k y180 (-5) y180 (-5)).bind fun t254 => (some t254)) else (some false)))) else (some false)) = some true := H
            have A23 := mk0 A230
            clear A230
            by_cases c24 : t248 = true
            ·subst c24
             have H1 : ((furrowref4_At.f (⟨#[102, 111, 114, 109]⟩ : ByteArray) 0 1).bind fun bt249 => ((furrowlaw2_Tells.f t230 bt249.1 bt249.2).bind fun t253 => (if t253 = true then ((lin_Same.f k y180 (-5) y180 (-5)).bind fun t254 => (some t254)) else (some false)))) = some true := by rw [if_pos rfl] at H; first | done | exact H
             clear H
             have H := H1
             clear H1
             replace H := Option.bind_eq_some_iff.mp H
             obtain ⟨⟨t249, t252⟩, A250, H⟩ := H
             replace H : ((furrowlaw2_Tells.f t230 t249 t252).bind fun t253 => (if t253 = true then ((lin_Same.f k y180 (-5) y180 (-5)).bind fun t254 => (some t254)) else (some false))) = some true := H
             have A25 := mk0 A250
             clear A250
             replace H := Option.bind_eq_some_iff.mp H
             obtain ⟨t253, A260, H⟩ := H
             replace H : (if t253 = true then ((lin_Same.f k y180 (-5) y180 (-5)).bind fun t254 => (some t254)) else (some false)) = some true := H
             have A26 := mk0 A260
             clear A260
             by_cases c27 : t253 = true
             ·subst c27
              have H1 : ((lin_Same.f k y180 (-5) y180 (-5)).bind fun t254 => (some t254)) = some true := by rw [if_pos rfl] at H; first | done | exact H
              clear H
              have H := H1
              clear H1
              replace H := Option.bind_eq_some_iff.mp H
              obtain ⟨t254, A280, H⟩ := H
              replace H : (some t254) = some true := H
              have A28 := mk0 A280
              clear A280
              have HT := mk0 (Option.some.inj H)
              clear H
              go_enter Tryd.func9, Tryd.ntmps9
              try go_wp2_with (first | ((with_reducible refine gate_dst (N := 13) rfl ?_); (try (refine gate_guard (by rfl) ?_; dsimp only)); refine Kd.R_lit (Kd.int .i64) _ 2 ?hg (N := 13) ?hd (xs := ([2, 0, (-1)] : List Int)) (inner := [.int .i64 2, .int .i64 0, .int .i64 (-1)]) (ok := fun _ => True) (okp := fun _ => True) ?hr ?hp (fun _ hk => hk) trivial (Below.refl _ _) (Nat.le_refl _) (by simp) ?_; (case hd => rfl); (case hg => rfl); (case hr => first | (go_simp; done) | (go_simp; rfl)); (case hp => exact (Reps.one (show Kd.M (Kd.int .i64) _ _ _ 2 [.int .i64 2] from rfl) (Reps.one (show Kd.M (Kd.int .i64) _ _ _ 0 [.int .i64 0] from rfl) (Reps.one (show Kd.M (Kd.int .i64) _ _ _ (-1) [.int .i64 (-1)] from rfl) (Reps.none _ _))))); intro v181 w29 ho30 hb hg_ hnew_; clear hg_ hnew_; (first | rw [← Ny180.out] at ho30 | (simp only [Int.reduceToNat] at ho30; rw [← Ny180.out] at ho30)); have n0_ := mk0 (Kd.R_lower ho30 (below_size (uL HB.out))); have n1_ := mk0 (below_step (uL HB.out) hb); clear HB; have HO182 := n0_; have HB := n1_; clear n0_ n1_; clear hb ho30; obtain ⟨Ao31, co31, eo31⟩ := Kd.R_slice HO182.out; subst eo31) | ((with_reducible refine gate_dst (N := 1) rfl ?_); (try (refine gate_guard (by rfl) ?_; dsimp only)); refine box_event ?hg (N := 1) ?hd (cs := #[.slice none 0 0, .int .i64 0]) (t := 24) ?hr ?_; (case hd => rfl); (case hg => rfl); (case hr => first | (go_simp; done) | (go_simp; rfl)); intro gb183 hg w32 hbox hb; have n0_ := mk0 (Kd.R_below (uR HO182.out) hb); have n1_ := mk0 (below_step (uL HB.out) hb); have n2_ := mk0 (hbox); have n3_ := mk0 ((by rw [hg]; exact (below_size (uL HB.out)) : w.heap.size ≤ gb183)); have n4_ := mk0 ((by rw [hg]; exact (below_size (uL HB.out)) : w.heap.size ≤ gb183)); clear HO182; clear HB; have HO182 := n0_; have HB := n1_; have BK183 := n2_; have GW183 := n3_; have GE183 := n4_; clear n0_ n1_ n2_ n3_ n4_; clear hb hbox hg; have hcz33_0 : w32.cell? ⟨gb183, 0, none⟩ = some (.slice none 0 0) := (blk_cell BK183.out 0).trans rfl; have hcz33_1 : w32.cell? ⟨gb183, 1, none⟩ = some (.int .i64 0) := (blk_cell BK183.out 1).trans rfl; have hfz33_0 := blk_frozen BK183.out 0; have hfz33_1 := blk_frozen BK183.out 1) | ((with_reducible refine gate_dst (N := 17) rfl ?_); (try (refine gate_guard (by rfl) ?_; dsimp only)); refine Kd.R_lit (Kd.int .i64) _ 2 ?hg (N := 17) ?hd (xs := ([3, 9, 4] : List Int)) (inner := [.int .i64 3, .int .i64 9, .int .i64 4]) (ok := fun _ => True) (okp := fun _ => True) ?hr ?hp (fun _ hk => hk) trivial (Below.refl _ _) (Nat.le_refl _) (by simp) ?_; (case hd => rfl); (case hg => rfl); (case hr => first | (go_simp; done) | (go_simp; rfl)); (case hp => exact (Reps.one (show Kd.M (Kd.int .i64) _ _ _ 3 [.int .i64 3] from rfl) (Reps.one (show Kd.M (Kd.int .i64) _ _ _ 9 [.int .i64 9] from rfl) (Reps.one (show Kd.M (Kd.int .i64) _ _ _ 4 [.int .i64 4] from rfl) (Reps.none _ _))))); intro v185 w34 ho35 hb hg_ hnew_; clear hg_ hnew_; (first | rw [← Ny184.out] at ho35 | (simp only [Int.reduceToNat] at ho35; rw [← Ny184.out] at ho35)); have n0_ := mk0 (Kd.R_elder' (uR (Kd.R_mono (Kd.R_far (p := ⟨gb183, 1, none⟩) (Kd.R_far (p := ⟨gb183, 0, none⟩) (Kd.R_types HO182.out BK183.out (by decide)) (fun _ hk => hk.2) (.slice Ao31 y180.length co31)) (fun _ hk => hk.2) (.int .i64 (-5))) (fun _ h_ => h_.1))) (Kd.R_base ho35) hb); have n1_ := mk0 (Kd.R_lower (Kd.R_new' ho35 (Kd.R_lt (uR (Kd.R_mono (Kd.R_far (p := ⟨gb183, 1, none⟩) (Kd.R_far (p := ⟨gb183, 0, none⟩) (Kd.R_types HO182.out BK183.out (by decide)) (fun _ hk => hk.2) (.slice Ao31 y180.length co31)) (fun _ hk => hk.2) (.int .i64 (-5))) (fun _ h_ => h_.1))))) (below_size (by repeat (first | (with_reducible first | exact HB.out | apply bA | apply bN | apply bD | refine bS ?_ (by assumption)) | exact HB.out)))); have n2_ := mk0 (blk_below (g := gb183) (o := .cells #[.slice Ao31 y180.length co31, .int .i64 (-5)] 24 (0, 0)) (by (with_reducible repeat (first | refine blk_drewN ?_ _ | refine blk_drew ?_ | refine blk_alloc ?_ _)); refine blk_put (cs := #[.slice Ao31 y180.length co31, .int .i64 0]) ?_ 1 _ rfl; (with_reducible repeat (first | refine blk_drewN ?_ _ | refine blk_drew ?_ | refine blk_alloc ?_ _)); refine blk_put (cs := #[.slice none 0 0, .int .i64 0]) ?_ 0 _ rfl; (with_reducible repeat (first | refine blk_drewN ?_ _ | refine blk_drew ?_ | refine blk_alloc ?_ _)); exact BK183.out) hb); have n3_ := mk0 (below_step (by repeat (first | (with_reducible first | exact HB.out | apply bA | apply bN | apply bD | refine bS ?_ (by assumption)) | exact HB.out)) hb); clear HO182; clear BK183; clear HB; have HO182 := n0_; have HO186 := n1_; have BK183 := n2_; have HB := n3_; clear n0_ n1_ n2_ n3_; clear hb ho35; obtain ⟨Ao36, co36, eo36⟩ := Kd.R_slice HO186.out; subst eo36) | ((with_reducible refine gate_callee (f := 19) rfl ?_); refine goesL_ (some 18) rfl rfl Tryd.func19 (by kernel_rfl) rfl #[.agg #[.slice Ao31 y180.length co31, .int .i64 (-5)], .slice Ao36 y184.length co36] rfl (by (try simp only [List.map_toArray, List.map_cons, List.map_nil]); first | done | rfl | (simp only [List.length_drop, List.length_take]; rfl)) ?_; (with_reducible refine (lin_At.calls k _ _ y180 (-5) _ _ y184 t187 t188 _ ?side1 ?side2 ?side3 ?side4 A1.out).mono ?_); (case side1 => repeat (first | exact (Kd.R_reads' HO182.out).2.2 | (with_reducible refine Kd.C_alloc ?_ _) | (with_reducible refine Kd.C_drewN ?_ _) | (with_reducible refine Kd.C_drew ?_))); (case side2 => exact (Kd.R_reads' HO182.out).2.1); (case side3 => repeat (first | exact (Kd.R_reads' HO186.out).2.2 | (with_reducible refine Kd.C_alloc ?_ _) | (with_reducible refine Kd.C_drewN ?_ _) | (with_reducible refine Kd.C_drew ?_))); (case side4 => exact (Kd.R_reads' HO186.out).2.1); rintro e w37 ⟨v189, rfl, ho0, hb⟩; refine ⟨_, rfl, ?_⟩; have n0_ := mk0 (Kd.R_below (uR HO182.out) hb); have n1_ := mk0 (Kd.R_below (uR HO186.out) hb); have n2_ := mk0 (Kd.R_lower ho0 (below_size (by repeat (first | (with_reducible first | exact HB.out | apply bA | apply bN | apply bD | refine bS ?_ (by assumption)) | exact HB.out)))); have n3_ := mk0 (blk_below (g := gb183) (o := .cells #[.slice Ao31 y180.length co31, .int .i64 (-5)] 24 (0, 0)) (uB BK183.out) hb); have n4_ := mk0 (below_step (by repeat (first | (with_reducible first | exact HB.out | apply bA | apply bN | apply bD | refine bS ?_ (by assumption)) | exact HB.out)) hb); clear HO182; clear HO186; clear BK183; clear HB; have HO182 := n0_; have HO186 := n1_; have HO190 := n2_; have BK183 := n3_; have HB := n4_; clear n0_ n1_ n2_ n3_ n4_; (try clear hb); (try clear hb2); (try clear hk); (try clear hi); (try clear ho0); (first | (have EHO190 := cmpV_no HO190.out (by with_reducible assumption)) | (have EHO190 := cmpV_yes HO190.out (by with_reducible assumption)) | skip); have hcz38_0 : w37.cell? ⟨gb183, 0, none⟩ = some (.slice Ao31 y180.length co31) := (blk_cell BK183.out 0).trans rfl; have hcz38_1 : w37.cell? ⟨gb183, 1, none⟩ = some (.int .i64 (-5)) := (blk_cell BK183.out 1).trans rfl; have hfz38_0 := blk_frozen BK183.out 0; have hfz38_1 := blk_frozen BK183.out 1) | ((with_reducible refine gate_dst (N := 23) rfl ?_); (try (refine gate_guard (by rfl) ?_; dsimp only)); refine Kd.R_lit (Kd.int .i64) _ 2 ?hg (N := 23) ?hd (xs := ([1, 1, 1] : List Int)) (inner := [.int .i64 1, .int .i64 1, .int .i64 1]) (ok := fun _ => True) (okp := fun _ => True) ?hr ?hp (fun _ hk => hk) trivial (Below.refl _ _) (Nat.le_refl _) (by simp) ?_; (case hd => rfl); (case hg => rfl); (case hr => first | (go_simp; done) | (go_simp; rfl)); (case hp => exact (Reps.one (show Kd.M (Kd.int .i64) _ _ _ 1 [.int .i64 1] from rfl) (Reps.one (show Kd.M (Kd.int .i64) _ _ _ 1 [.int .i64 1] from rfl) (Reps.one (show Kd.M (Kd.int .i64) _ _ _ 1 [.int .i64 1] from rfl) (Reps.none _ _))))); intro v192 w39 ho40 hb hg_ hnew_; clear hg_ hnew_; (first | rw [← Ny191.out] at ho40 | (simp only [Int.reduceToNat] at ho40; rw [← Ny191.out] at ho40)); have n0_ := mk0 (Kd.R_elder' (uR HO182.out) (Kd.R_base ho40) hb); have n1_ := mk0 (Kd.R_elder' (uR HO186.out) (Kd.R_base ho40) hb); have n2_ := mk0 (Kd.R_below (uR HO190.out) hb); have n3_ := mk0 (Kd.R_lower (Kd.R_new' (Kd.R_new' ho40 (Kd.R_lt (uR HO182.out))) (Kd.R_lt (uR HO186.out))) (below_size (by repeat (first | (with_reducible first | exact HB.out | apply bA | apply bN | apply bD | refine bS ?_ (by assumption)) | exact HB.out)))); have n4_ := mk0 (blk_below (g := gb183) (o := .cells #[.slice Ao31 y180.length co31, .int .i64 (-5)] 24 (0, 0)) (uB BK183.out) hb); have n5_ := mk0 (below_step (by repeat (first | (with_reducible first | exact HB.out | apply bA | apply bN | apply bD | refine bS ?_ (by assumption)) | exact HB.out)) hb); clear HO182; clear HO186; clear HO190; clear BK183; clear HB; have HO182 := n0_; have HO186 := n1_; have HO190 := n2_; have HO193 := n3_; have BK183 := n4_; have HB := n5_; clear n0_ n1_ n2_ n3_ n4_ n5_; clear hb ho40) | ((with_reducible refine gate_dst (N := 24) rfl ?_); (try (refine gate_guard (by rfl) ?_; dsimp only)); refine Kd.R_lit (Kd.int .i64) _ 2 ?hg (N := 24) ?hd (xs := ([3, 9, 2] : List Int)) (inner := [.int .i64 3, .int .i64 9, .int .i64 2]) (ok := fun _ => True) (okp := fun _ => True) ?hr ?hp (fun _ hk => hk) trivial (Below.refl _ _) (Nat.le_refl _) (by simp) ?_; (case hd => rfl); (case hg => rfl); (case hr => first | (go_simp; done) | (go_simp; rfl)); (case hp => exact (Reps.one (show Kd.M (Kd.int .i64) _ _ _ 3 [.int .i64 3] from rfl) (Reps.one (show Kd.M (Kd.int .i64) _ _ _ 9 [.int .i64 9] from rfl) (Reps.one (show Kd.M (Kd.int .i64) _ _ _ 2 [.int .i64 2] from rfl) (Reps.none _ _))))); intro v195 w41 ho42 hb hg_ hnew_; clear hg_ hnew_; (first | rw [← Ny194.out] at ho42 | (simp only [Int.reduceToNat] at ho42; rw [← Ny194.out] at ho42)); have n0_ := mk0 (Kd.R_elder' (uR HO182.out) (Kd.R_base ho42) hb); have n1_ := mk0 (Kd.R_elder' (uR HO186.out) (Kd.R_base ho42) hb); have n2_ := mk0 (Kd.R_below (uR HO190.out) hb); have n3_ := mk0 (Kd.R_elder' (uR HO193.out) (Kd.R_base ho42) hb); have n4_ := mk0 (Kd.R_lower (Kd.R_new' (Kd.R_new' (Kd.R_new' ho42 (Kd.R_lt (uR HO182.out))) (Kd.R_lt (uR HO186.out))) (Kd.R_lt (uR HO193.out))) (below_size (by repeat (first | (with_reducible first | exact HB.out | apply bA | apply bN | apply bD | refine bS ?_ (by assumption)) | exact HB.out)))); have n5_ := mk0 (blk_below (g := gb183) (o := .cells #[.slice Ao31 y180.length co31, .int .i64 (-5)] 24 (0, 0)) (uB BK183.out) hb); have n6_ := mk0 (below_step (by repeat (first | (with_reducible first | exact HB.out | apply bA | apply bN | apply bD | refine bS ?_ (by assumption)) | exact HB.out)) hb); clear HO182; clear HO186; clear HO190; clear HO193; clear BK183; clear HB; have HO182 := n0_; have HO186 := n1_; have HO190 := n2_; have HO193 := n3_; have HO196 := n4_; have BK183 := n5_; have HB := n6_; clear n0_ n1_ n2_ n3_ n4_ n5_ n6_; clear hb ho42; obtain ⟨Ao43, co43, eo43⟩ := Kd.R_slice HO193.out; subst eo43; obtain ⟨Ao44, co44, eo44⟩ := Kd.R_slice HO196.out; subst eo44) | ((with_reducible refine gate_callee (f := 21) rfl ?_); refine goesL_ (some 25) rfl rfl Tryd.func21 (by kernel_rfl) rfl #[.agg #[.slice Ao31 y180.length co31, .int .i64 (-5)], .slice Ao43 y191.length co43, .slice Ao44 y194.length co44] rfl (by (try simp only [List.map_toArray, List.map_cons, List.map_nil]); first | done | rfl | (simp only [List.length_drop, List.length_take]; rfl)) ?_; (with_reducible refine (lin_Range.calls k _ _ y180 (-5) _ _ y191 _ _ y194 t197 t198 t199 _ ?side1 ?side2 ?side3 ?side4 ?side5 ?side6 A2.out).mono ?_); (case side1 => repeat (first | exact (Kd.R_reads' HO182.out).2.2 | (with_reducible refine Kd.C_alloc ?_ _) | (with_reducible refine Kd.C_drewN ?_ _) | (with_reducible refine Kd.C_drew ?_))); (case side2 => exact (Kd.R_reads' HO182.out).2.1); (case side3 => repeat (first | exact (Kd.R_reads' HO193.out).2.2 | (with_reducible refine Kd.C_alloc ?_ _) | (with_reducible refine Kd.C_drewN ?_ _) | (with_reducible refine Kd.C_drew ?_))); (case side4 => exact (Kd.R_reads' HO193.out).2.1); (case side5 => repeat (first | exact (Kd.R_reads' HO196.out).2.2 | (with_reducible refine Kd.C_alloc ?_ _) | (with_reducible refine Kd.C_drewN ?_ _) | (with_reducible refine Kd.C_drew ?_))); (case side6 => exact (Kd.R_reads' HO196.out).2.1); rintro e w45 ⟨v200, rfl, ho0, hb⟩; refine ⟨_, rfl, ?_⟩; have n0_ := mk0 (Kd.R_below (uR HO182.out) hb); have n1_ := mk0 (Kd.R_below (uR HO186.out) hb); have n2_ := mk0 (Kd.R_elder' (uR HO190.out) (Kd.R_base ho0) hb); have n3_ := mk0 (Kd.R_below (uR HO193.out) hb); have n4_ := mk0 (Kd.R_below (uR HO196.out) hb); have n5_ := mk0 (Kd.R_lower (Kd.R_new' ho0 (Kd.R_lt (uR HO190.out))) (below_size (by repeat (first | (with_reducible first | exact HB.out | apply bA | apply bN | apply bD | refine bS ?_ (by assumption)) | exact HB.out)))); have n6_ := mk0 (blk_below (g := gb183) (o := .cells #[.slice Ao31 y180.length co31, .int .i64 (-5)] 24 (0, 0)) (uB BK183.out) hb); have n7_ := mk0 (below_step (by repeat (first | (with_reducible first | exact HB.out | apply bA | apply bN | apply bD | refine bS ?_ (by assumption)) | exact HB.out)) hb); clear HO182; clear HO186; clear HO190; clear HO193; clear HO196; clear BK183; clear HB; have HO182 := n0_; have HO186 := n1_; have HO190 := n2_; have HO193 := n3_; have HO196 := n4_; have HO201 := n5_; have BK183 := n6_; have HB := n7_; clear n0_ n1_ n2_ n3_ n4_ n5_ n6_ n7_; (try clear hb); (try clear hb2); (try clear hk); (try clear hi); (try clear ho0); (first | (have EHO201 := cmpV_no HO201.out (by with_reducible assumption)) | (have EHO201 := cmpV_yes HO201.out (by with_reducible assumption)) | skip)))
              have n0_ := mk0 (Kd.R_drew HO182.out)
              have n1_ := mk0 (Kd.R_drew HO186.out)
              have n2_ := mk0 (Kd.R_drew HO190.out)
              have n3_ := mk0 (Kd.R_drew HO193.out)
              have n4_ := mk0 (Kd.R_drew HO196.out)
              have n5_ := mk0 (Kd.R_drew HO201.out)
              have n6_ := mk0 (blk_drew BK183.out)
              have n7_ := mk0 (below_drew1 HB.out)
              clear HO182
              clear HO186
              clear HO190
              clear HO193
              clear HO196
              clear HO201
              clear BK183
              clear HB
              have HO182 := n0_
              have HO186 := n1_
              have HO190 := n2_
              have HO193 := n3_
              have HO196 := n4_
              have HO201 := n5_
              have BK183 := n6_
              have HB := n7_
              clear n0_ n1_ n2_ n3_ n4_ n5_ n6_ n7_
              refine start_ (n := 9) (S := fun w' => w'.cell? ⟨gb183, 0, none⟩ = some (.slice Ao31 y180.length co31) ∧ w'.cell? ⟨gb183, 1, none⟩ = some (.int .i64 (-5))) (ds := []) #[false, false, false, false, false, false, false, false, false] (by kernel_rfl) rfl rfl ⟨(blk_cell BK183.out 0).trans rfl, (blk_cell BK183.out 1).trans rfl⟩ (fun hHeld => ?_); refine with_tabW furrowlaw11_known.tab4 furrowlaw11_known.bits4 (fun HT_ HW_ => ?_)
              generalize w45.drew = w46 at HO182 HO186 HO190 HO193 HO196 HO201 BK183 HB hHeld ⊢
              refine take_ (i := 0) (N := some 30) (v := ?_) (a' := ?_) #[true, false, false, false, false, false, false, false, false] rfl rfl (take_ofW HT_.out HW_.out (by kernel_rfl)) (fun _ _ _ h => h) (Or.inl ⟨by rfl, ?_⟩) hHeld ?_ ?_
              rotate_left
              ·rintro w' ⟨s0, s1⟩
               go_simp
               with_reducible rfl
              rotate_left
              ·simp only [Act.put, List.setIfInBounds_toArray, List.set_cons_zero, List.set_cons_succ, i64_w, i32_w]
               rfl
              refine join_ (σ := Value × Value × Value × Nat) 2 #[true, true, true, true, true, true, true, false, false] (fun s_ => [(31, .agg #[s_.1, .int .i64 t205]), (32, .tuple #[.agg #[s_.2.1, .int .i64 t209], errV (s_.2.2.1)]), (7, .pointer (some ⟨s_.2.2.2, 0, none⟩)), (29, .tuple #[.agg #[s_.2.1, .int .i64 t209], errV s_.2.2.1]), (33, .agg #[s_.2.1, .int .i64 t209]), (34, errV s_.2.2.1)]) (fun s_ w' => (w'.cell? ⟨gb183, 0, none⟩ = some (.slice Ao31 y180.length co31) ∧ w'.cell? ⟨gb183, 1, none⟩ = some (.int .i64 (-5))) ∧ (Kd.R (Kd.int .i64) 2 w' w.heap.size (fun k_ => some k_ ≠ (.slice Ao36 y184.length co36 : Value).ownBlock ∧ some k_ ≠ (.slice Ao43 y191.length co43 : Value).ownBlock ∧ some k_ ≠ (.slice Ao44 y194.length co44 : Value).ownBlock ∧ some k_ ≠ (s_.1 : Value).ownBlock ∧ some k_ ≠ (s_.2.1 : Value).ownBlock) (.slice Ao31 y180.length co31) y180) ∧ (Kd.R (Kd.int .i64) 2 w' w.heap.size (fun k_ => some k_ ≠ (.slice Ao31 y180.length co31 : Value).ownBlock ∧ some k_ ≠ (.slice Ao43 y191.length co43 : Value).ownBlock ∧ some k_ ≠ (.slice Ao44 y194.length co44 : Value).ownBlock ∧ some k_ ≠ (s_.1 : Value).ownBlock ∧ some k_ ≠ (s_.2.1 : Value).ownBlock) (.slice Ao36 y184.length co36) y184) ∧ (Kd.R fltK 84 w' w.heap.size (fun k_ => some k_ ≠ (v200 : Value).ownBlock ∧ some k_ ≠ (s_.2.2.1 : Value).ownBlock) v189 t188) ∧ (Kd.R (Kd.int .i64) 2 w' w.heap.size (fun k_ => some k_ ≠ (.slice Ao31 y180.length co31 : Value).ownBlock ∧ some k_ ≠ (.slice Ao36 y184.length co36 : Value).ownBlock ∧ some k_ ≠ (.slice Ao44 y194.length co44 : Value).ownBlock ∧ some k_ ≠ (s_.1 : Value).ownBlock ∧ some k_ ≠ (s_.2.1 : Value).ownBlock) (.slice Ao43 y191.length co43) y191) ∧ (Kd.R (Kd.int .i64) 2 w' w.heap.size (fun k_ => some k_ ≠ (.slice Ao31 y180.length co31 : Value).ownBlock ∧ some k_ ≠ (.slice Ao36 y184.length co36 : Value).ownBlock ∧ some k_ ≠ (.slice Ao43 y191.length co43 : Value).ownBlock ∧ some k_ ≠ (s_.1 : Value).ownBlock ∧ some k_ ≠ (s_.2.1 : Value).ownBlock) (.slice Ao44 y194.length co44) y194) ∧ (Kd.R fltK 84 w' w.heap.size (fun k_ => some k_ ≠ (v189 : Value).ownBlock ∧ some k_ ≠ (s_.2.2.1 : Value).ownBlock) v200 t199) ∧ (Kd.R (Kd.int .i64) 2 w' w.heap.size (fun k_ => some k_ ≠ (.slice Ao31 y180.length co31 : Value).ownBlock ∧ some k_ ≠ (.slice Ao36 y184.length co36 : Value).ownBlock ∧ some k_ ≠ (.slice Ao43 y191.length co43 : Value).ownBlock ∧ some k_ ≠ (.slice Ao44 y194.length co44 : Value).ownBlock ∧ some k_ ≠ (s_.2.1 : Value).ownBlock) s_.1 t202) ∧ (Kd.R (Kd.int .i64) 2 w' w.heap.size (fun k_ => some k_ ≠ (.slice Ao31 y180.length co31 : Value).ownBlock ∧ some k_ ≠ (.slice Ao36 y184.length co36 : Value).ownBlock ∧ some k_ ≠ (.slice Ao43 y191.length co43 : Value).ownBlock ∧ some k_ ≠ (.slice Ao44 y194.length co44 : Value).ownBlock ∧ some k_ ≠ (s_.1 : Value).ownBlock) s_.2.1 t206) ∧ (Kd.R fltK 84 w' w.heap.size (fun k_ => some k_ ≠ (v189 : Value).ownBlock ∧ some k_ ≠ (v200 : Value).ownBlock) s_.2.2.1 t210) ∧ (w'.heap[gb183]? = some (.cells #[.slice Ao31 y180.length co31, .int .i64 (-5)] 24 (0, 0))) ∧ (w'.heap[s_.2.2.2]? = some (.cells #[.slice none 0 0, .int .i64 0] 24 (0, 0))) ∧ (w.heap.size ≤ s_.2.2.2) ∧ (w.heap.size ≤ s_.2.2.2) ∧ (gb183 ≠ s_.2.2.2) ∧ (s_.2.2.2 ≠ gb183) ∧ (Below w.heap.size w w')) ?_ ?_
              rotate_left
              ·intro hCont
               refine two_ (i := 1) (j := 6) (Ni := some 31) (Nj := some 7) #[true, true, false, false, false, false, false, false, false] #[true, false, false, false, false, false, true, false, false] rfl rfl rfl rfl (two_of HT_.out (by kernel_rfl)) (by decide) (by decide) (fun K hK => ?_) (fun K hK => ?_)
               ·skip
                refine goes_ Tryd.func25 (by kernel_rfl) rfl #[.int .i64 3, .int .i64 2] (by rfl) rfl rfl (by (try simp only [List.map_toArray, List.map_cons, List.map_nil]); first | done | rfl | (simp only [List.length_drop, List.length_take]; rfl)) ?_
                with_reducible refine (lin_Index.calls 3 2 t202 t205 _ A3.out).mono ?_
                rintro e w47 ⟨v203, rfl, ho0, hb⟩
                refine ⟨_, rfl, ?_⟩
                have n0_ := mk0 (Kd.R_elder' (uR HO182.out) (Kd.R_base ho0) hb)
                have n1_ := mk0 (Kd.R_elder' (uR HO186.out) (Kd.R_base ho0) hb)
                have n2_ := mk0 (Kd.R_below (uR HO190.out) hb)
                have n3_ := mk0 (Kd.R_elder' (uR HO193.out) (Kd.R_base ho0) hb)
                have n4_ := mk0 (Kd.R_elder' (uR HO196.out) (Kd.R_base ho0) hb)
                have n5_ := mk0 (Kd.R_below (uR HO201.out) hb)
                have n6_ := mk0 (Kd.R_lower (Kd.R_new' (Kd.R_new' (Kd.R_new' (Kd.R_new' ho0 (Kd.R_lt (uR HO182.out))) (Kd.R_lt (uR HO186.out))) (Kd.R_lt (uR HO193.out))) (Kd.R_lt (uR HO196.out))) (below_size (by repeat (first | (with_reducible first | exact HB.out | apply bA | apply bN | apply bD | refine bS ?_ (by assumption)) | exact HB.out))))
                have n7_ := mk0 (blk_below (g := gb183) (o := .cells #[.slice Ao31 y180.length co31, .int .i64 (-5)] 24 (0, 0)) (uB BK183.out) hb)
                have n8_ := mk0 (below_step (by repeat (first | (with_reducible first | exact HB.out | apply bA | apply bN | apply bD | refine bS ?_ (by assumption)) | exact HB.out)) hb)
                clear HO182
                clear HO186
                clear HO190
                clear HO193
                clear HO196
                clear HO201
                clear BK183
                clear HB
                have HO182 := n0_
                have HO186 := n1_
                have HO190 := n2_
                have HO193 := n3_
                have HO196 := n4_
                have HO201 := n5_
                have HO204 := n6_
                have BK183 := n7_
                have HB := n8_
                clear n0_ n1_ n2_ n3_ n4_ n5_ n6_ n7_ n8_
                (try clear hb)
                (try clear hb2)
                (try clear hk)
                (try clear hi)
                (try clear ho0)
                obtain ⟨Ao48, co48, eo48⟩ := Kd.R_slice HO204.out
                (first | subst eo48 | (injection eo48 with f1_ f2_ f3_; have f4_ := f1_.symm; have f5_ := f3_.symm; clear f1_ f2_ f3_; subst f4_; subst f5_))
                refine hK.out _ _ ⟨(blk_cell BK183.out 0).trans rfl, (blk_cell BK183.out 1).trans rfl⟩ (fun hHeld => ?_)
                clear hK K
                refine norm_ (a' := ?_) ?_ ?_
                rotate_left
                ·show Act.put _ (some 31) _ = _
                 simp only [Act.put, List.setIfInBounds_toArray, List.set_cons_zero, List.set_cons_succ, i64_w, i32_w]
                 rfl
                refine two_ (i := 2) (j := 6) (Ni := some 32) (Nj := some 7) #[true, true, true, false, false, false, false, false, false] #[true, true, false, false, false, false, true, false, false] rfl rfl rfl rfl (two_of HT_.out (by kernel_rfl)) (by decide) (by decide) (fun K hK => ?_) (fun K hK => ?_)
                ·skip
                 refine goes_ Tryd.func11 (by kernel_rfl) rfl #[.agg #[.slice Ao31 y180.length co31, .int .i64 (-5)], .agg #[.slice Ao48 t202.length co48, .int .i64 t205]] (by rfl) rfl rfl (by (try simp only [List.map_toArray, List.map_cons, List.map_nil]); first | done | rfl | (simp only [List.length_drop, List.length_take]; rfl)) ?_
                 with_reducible refine (lin_Add.calls _ _ y180 (-5) _ _ t202 t205 t206 t209 t210 _ ?side1 ?side2 ?side3 ?side4 A4.out).mono ?_
                 (case side1 => repeat (first | exact (Kd.R_reads' HO182.out).2.2 | (with_reducible refine Kd.C_alloc ?_ _) | (with_reducible refine Kd.C_drewN ?_ _) | (with_reducible refine Kd.C_drew ?_)))
                 (case side2 => exact (Kd.R_reads' HO182.out).2.1)
                 (case side3 => repeat (first | exact (Kd.R_reads' HO204.out).2.2 | (with_reducible refine Kd.C_alloc ?_ _) | (with_reducible refine Kd.C_drewN ?_ _) | (with_reducible refine Kd.C_drew ?_)))
                 (case side4 => exact (Kd.R_reads' HO204.out).2.1)
                 rintro e w49 ⟨v207, v211, rfl, ho0, ho1, hb⟩
                 refine ⟨_, rfl, ?_⟩
                 have n0_ := mk0 (Kd.R_elder' (uR HO182.out) (Kd.R_base ho0) hb)
                 have n1_ := mk0 (Kd.R_elder' (uR HO186.out) (Kd.R_base ho0) hb)
                 have n2_ := mk0 (Kd.R_elder' (uR HO190.out) (Kd.R_base ho1) hb)
                 have n3_ := mk0 (Kd.R_elder' (uR HO193.out) (Kd.R_base ho0) hb)
                 have n4_ := mk0 (Kd.R_elder' (uR HO196.out) (Kd.R_base ho0) hb)
                 have n5_ := mk0 (Kd.R_elder' (uR HO201.out) (Kd.R_base ho1) hb)
                 have n6_ := mk0 (Kd.R_elder' (uR HO204.out) (Kd.R_base ho0) hb)
                 have n7_ := mk0 (Kd.R_lower (Kd.R_new' (Kd.R_new' (Kd.R_new' (Kd.R_new' (Kd.R_new' ho0 (Kd.R_lt (uR HO182.out))) (Kd.R_lt (uR HO186.out))) (Kd.R_lt (uR HO193.out))) (Kd.R_lt (uR HO196.out))) (Kd.R_lt (uR HO204.out))) (below_size (by repeat (first | (with_reducible first | exact HB.out | apply bA | apply bN | apply bD | refine bS ?_ (by assumption)) | exact HB.out))))
                 have n8_ := mk0 (Kd.R_lower (Kd.R_new' (Kd.R_new' ho1 (Kd.R_lt (uR HO190.out))) (Kd.R_lt (uR HO201.out))) (below_size (by repeat (first | (with_reducible first | exact HB.out | apply bA | apply bN | apply bD | refine bS ?_ (by assumption)) | exact HB.out))))
                 have n9_ := mk0 (blk_below (g := gb183) (o := .cells #[.slice Ao31 y180.length co31, .int .i64 (-5)] 24 (0, 0)) (uB BK183.out) hb)
                 have n10_ := mk0 (below_step (by repeat (first | (with_reducible first | exact HB.out | apply bA | apply bN | apply bD | refine bS ?_ (by assumption)) | exact HB.out)) hb)
                 clear HO182
                 clear HO186
                 clear HO190
                 clear HO193
                 clear HO196
                 clear HO201
                 clear HO204
                 clear BK183
                 clear HB
                 have HO182 := n0_
                 have HO186 := n1_
                 have HO190 := n2_
                 have HO193 := n3_
                 have HO196 := n4_
                 have HO201 := n5_
                 have HO204 := n6_
                 have HO208 := n7_
                 have HO212 := n8_
                 have BK183 := n9_
                 have HB := n10_
                 clear n0_ n1_ n2_ n3_ n4_ n5_ n6_ n7_ n8_ n9_ n10_
                 (try clear hb)
                 (try clear hb2)
                 (try clear hk)
                 (try clear hi)
                 (try clear ho0)
                 (try clear ho1)
                 (first | (have EHO212 := cmpV_no HO212.out (by with_reducible assumption)) | (have EHO212 := cmpV_yes HO212.out (by with_reducible assumption)) | skip)
                 refine hK.out _ _ ⟨(blk_cell BK183.out 0).trans rfl, (blk_cell BK183.out 1).trans rfl⟩ (fun hHeld => ?_)
                 clear hK K
                 refine norm_ (a' := ?_) ?_ ?_
                 rotate_left
                 ·show Act.put _ (some 32) _ = _
                  simp only [Act.put, List.setIfInBounds_toArray, List.set_cons_zero, List.set_cons_succ, i64_w, i32_w]
                  rfl
                 refine pure_ (i := 3) (N := some 29) (v := ?_) (a' := ?_) #[true, true, true, true, false, false, false, false, false] rfl rfl (any_of HT_.out (by kernel_rfl)) (fun _ _ _ h => h) (Or.inl ⟨by rfl, ?_⟩) ?_ ?_
                 rotate_left
                 ·intro w'
                  go_simp
                  with_reducible rfl
                 rotate_left
                 ·simp only [Act.put, List.setIfInBounds_toArray, List.set_cons_zero, List.set_cons_succ, i64_w, i32_w]
                  rfl
                 refine pure_ (i := 4) (N := some 33) (v := ?_) (a' := ?_) #[true, true, true, true, true, false, false, false, false] rfl rfl (any_of HT_.out (by kernel_rfl)) (fun _ _ _ h => h) (Or.inl ⟨by rfl, ?_⟩) ?_ ?_
                 rotate_left
                 ·intro w'
                  go_simp
                  with_reducible rfl
                 rotate_left
                 ·simp only [Act.put, List.setIfInBounds_toArray, List.set_cons_zero, List.set_cons_succ, i64_w, i32_w]
                  rfl
                 refine pure_ (i := 5) (N := some 34) (v := ?_) (a' := ?_) #[true, true, true, true, true, true, false, false, false] rfl rfl (any_of HT_.out (by kernel_rfl)) (fun _ _ _ h => h) (Or.inl ⟨by rfl, ?_⟩) ?_ ?_
                 rotate_left
                 ·intro w'
                  go_simp
                  with_reducible rfl
                 rotate_left
                 ·simp only [Act.put, List.setIfInBounds_toArray, List.set_cons_zero, List.set_cons_succ, i64_w, i32_w]
                  rfl
                 refine one_ (i := 6) (N := some 7) #[true, true, true, true, true, true, true, false, false] rfl rfl (one_of HT_.out (by kernel_rfl)) (by decide) (fun K hK => ?_)
                 refine box_step ?hg (N := 7) ?hd (cs := #[.slice none 0 0, .int .i64 0]) (t := 24) ?hr ?_; (case hd => rfl); (case hg => rfl); (case hr => first | (go_simp; done) | (go_simp; rfl))
                 intro gb213 hg w50 hbox hb
                 have n0_ := mk0 (Kd.R_below (uR HO182.out) hb)
                 have n1_ := mk0 (Kd.R_below (uR HO186.out) hb)
                 have n2_ := mk0 (Kd.R_below (uR HO190.out) hb)
                 have n3_ := mk0 (Kd.R_below (uR HO193.out) hb)
                 have n4_ := mk0 (Kd.R_below (uR HO196.out) hb)
                 have n5_ := mk0 (Kd.R_below (uR HO201.out) hb)
                 have n6_ := mk0 (Kd.R_below (uR HO204.out) hb)
                 have n7_ := mk0 (Kd.R_below (uR HO208.out) hb)
                 have n8_ := mk0 (Kd.R_below (uR HO212.out) hb)
                 have n9_ := mk0 (blk_below (g := gb183) (o := .cells #[.slice Ao31 y180.length co31, .int .i64 (-5)] 24 (0, 0)) (uB BK183.out) hb)
                 have n10_ := mk0 (below_step (by repeat (first | (with_reducible first | exact HB.out | apply bA | apply bN | apply bD | refine bS ?_ (by assumption)) | exact HB.out)) hb)
                 have n11_ := mk0 (hbox)
                 have n12_ := mk0 ((by rw [hg]; exact (below_size (by repeat (first | (with_reducible first | exact HB.out | apply bA | apply bN | apply bD | refine bS ?_ (by assumption)) | exact HB.out))) : w.heap.size ≤ gb213))
                 have n13_ := mk0 ((by rw [hg]; exact (below_size (by repeat (first | (with_reducible first | exact HB.out | apply bA | apply bN | apply bD | refine bS ?_ (by assumption)) | exact HB.out))) : w.heap.size ≤ gb213))
                 have n14_ := mk0 ((by rw [hg]; exact Nat.ne_of_lt (blk_lt (g := gb183) (o := .cells #[.slice Ao31 y180.length co31, .int .i64 (-5)] 24 (0, 0)) (uB BK183.out)) : gb183 ≠ gb213))
                 have n15_ := mk0 ((by rw [hg]; exact Nat.ne_of_gt (blk_lt (g := gb183) (o := .cells #[.slice Ao31 y180.length co31, .int .i64 (-5)] 24 (0, 0)) (uB BK183.out)) : gb213 ≠ gb183))
                 clear HO182
                 clear HO186
                 clear HO190
                 clear HO193
                 clear HO196
                 clear HO201
                 clear HO204
                 clear HO208
                 clear HO212
                 clear BK183
                 clear HB
                 have HO182 := n0_
                 have HO186 := n1_
                 have HO190 := n2_
                 have HO193 := n3_
                 have HO196 := n4_
                 have HO201 := n5_
                 have HO204 := n6_
                 have HO208 := n7_
                 have HO212 := n8_
                 have BK183 := n9_
                 have HB := n10_
                 have BK213 := n11_
                 have GW213 := n12_
                 have GE213 := n13_
                 have NB183_213 := n14_
                 have NB213_183 := n15_
                 clear n0_ n1_ n2_ n3_ n4_ n5_ n6_ n7_ n8_ n9_ n10_ n11_ n12_ n13_ n14_ n15_
                 clear hb hbox hg
                 refine hK.out _ _ ⟨(blk_cell BK183.out 0).trans rfl, (blk_cell BK183.out 1).trans rfl⟩ (fun hHeld => ?_)
                 clear hK K
                 refine norm_ (a' := ?_) ?_ ?_
                 rotate_left
                 ·show Act.put _ (some 7) _ = _
                  simp only [Act.put, List.setIfInBounds_toArray, List.set_cons_zero, List.set_cons_succ, i64_w, i32_w]
                  rfl
                 exact norm_ (by first | (simp only [putAll, Act.put, List.setIfInBounds_toArray, List.set_cons_zero, List.set_cons_succ]; done) | (simp only [putAll, Act.put, List.setIfInBounds_toArray, List.set_cons_zero, List.set_cons_succ, *]; done)) (hCont (.slice Ao48 t202.length co48, v207, v211, gb213) _ ⟨hHeld, (uR (Kd.R_mono HO182.out (fun _ hk => ⟨hk.1.1.1.1.2, ⟨hk.1.1.1.2, ⟨hk.1.1.2, ⟨hk.1.2, hk.2⟩⟩⟩⟩))), (uR (Kd.R_mono HO186.out (fun _ hk => ⟨hk.1.1.1.1.2, ⟨hk.1.1.1.2, ⟨hk.1.1.2, ⟨hk.1.2, hk.2⟩⟩⟩⟩))), (uR (Kd.R_mono HO190.out (fun _ hk => ⟨hk.1.2, hk.2⟩))), (uR (Kd.R_mono HO193.out (fun _ hk => ⟨hk.1.1.1.1.2, ⟨hk.1.1.1.2, ⟨hk.1.1.2, ⟨hk.1.2, hk.2⟩⟩⟩⟩))), (uR (Kd.R_mono HO196.out (fun _ hk => ⟨hk.1.1.1.1.2, ⟨hk.1.1.1.2, ⟨hk.1.1.2, ⟨hk.1.2, hk.2⟩⟩⟩⟩))), (uR (Kd.R_mono HO201.out (fun _ hk => ⟨hk.1.2, hk.2⟩))), (uR (Kd.R_mono HO204.out (fun _ hk => ⟨hk.1.1.1.1.2, ⟨hk.1.1.1.2, ⟨hk.1.1.2, ⟨hk.1.2, hk.2⟩⟩⟩⟩))), (uR (Kd.R_mono HO208.out (fun _ hk => ⟨hk.1.1.1.1.2, ⟨hk.1.1.1.2, ⟨hk.1.1.2, ⟨hk.1.2, hk.2⟩⟩⟩⟩))), (uR (Kd.R_mono HO212.out (fun _ hk => ⟨hk.1.2, hk.2⟩))), (uB BK183.out), (uB BK213.out), GW213.out, GE213.out, NB183_213.out, NB213_183.out, (by repeat (first | (with_reducible first | exact HB.out | apply bA | apply bN | apply bD | refine bS ?_ (by assumption)) | exact HB.out))⟩)
                ·skip
                 refine box_step ?hg (N := 7) ?hd (cs := #[.slice none 0 0, .int .i64 0]) (t := 24) ?hr ?_; (case hd => rfl); (case hg => rfl); (case hr => first | (go_simp; done) | (go_simp; rfl))
                 intro gb213 hg w48 hbox hb
                 have n0_ := mk0 (Kd.R_below (uR HO182.out) hb)
                 have n1_ := mk0 (Kd.R_below (uR HO186.out) hb)
                 have n2_ := mk0 (Kd.R_below (uR HO190.out) hb)
                 have n3_ := mk0 (Kd.R_below (uR HO193.out) hb)
                 have n4_ := mk0 (Kd.R_below (uR HO196.out) hb)
                 have n5_ := mk0 (Kd.R_below (uR HO201.out) hb)
                 have n6_ := mk0 (Kd.R_below (uR HO204.out) hb)
                 have n7_ := mk0 (blk_below (g := gb183) (o := .cells #[.slice Ao31 y180.length co31, .int .i64 (-5)] 24 (0, 0)) (uB BK183.out) hb)
                 have n8_ := mk0 (below_step (by repeat (first | (with_reducible first | exact HB.out | apply bA | apply bN | apply bD | refine bS ?_ (by assumption)) | exact HB.out)) hb)
                 have n9_ := mk0 (hbox)
                 have n10_ := mk0 ((by rw [hg]; exact (below_size (by repeat (first | (with_reducible first | exact HB.out | apply bA | apply bN | apply bD | refine bS ?_ (by assumption)) | exact HB.out))) : w.heap.size ≤ gb213))
                 have n11_ := mk0 ((by rw [hg]; exact (below_size (by repeat (first | (with_reducible first | exact HB.out | apply bA | apply bN | apply bD | refine bS ?_ (by assumption)) | exact HB.out))) : w.heap.size ≤ gb213))
                 have n12_ := mk0 ((by rw [hg]; exact Nat.ne_of_lt (blk_lt (g := gb183) (o := .cells #[.slice Ao31 y180.length co31, .int .i64 (-5)] 24 (0, 0)) (uB BK183.out)) : gb183 ≠ gb213))
                 have n13_ := mk0 ((by rw [hg]; exact Nat.ne_of_gt (blk_lt (g := gb183) (o := .cells #[.slice Ao31 y180.length co31, .int .i64 (-5)] 24 (0, 0)) (uB BK183.out)) : gb213 ≠ gb183))
                 clear HO182
                 clear HO186
                 clear HO190
                 clear HO193
                 clear HO196
                 clear HO201
                 clear HO204
                 clear BK183
                 clear HB
                 have HO182 := n0_
                 have HO186 := n1_
                 have HO190 := n2_
                 have HO193 := n3_
                 have HO196 := n4_
                 have HO201 := n5_
                 have HO204 := n6_
                 have BK183 := n7_
                 have HB := n8_
                 have BK213 := n9_
                 have GW213 := n10_
                 have GE213 := n11_
                 have NB183_213 := n12_
                 have NB213_183 := n13_
                 clear n0_ n1_ n2_ n3_ n4_ n5_ n6_ n7_ n8_ n9_ n10_ n11_ n12_ n13_
                 clear hb hbox hg
                 obtain ⟨Ao49, co49, eo49⟩ := Kd.R_slice HO204.out
                 (first | subst eo49 | (injection eo49 with f1_ f2_ f3_; have f4_ := f1_.symm; have f5_ := f3_.symm; clear f1_ f2_ f3_; subst f4_; subst f5_))
                 refine hK.out _ _ ⟨(blk_cell BK183.out 0).trans rfl, (blk_cell BK183.out 1).trans rfl⟩ (fun hHeld => ?_)
                 clear hK K
                 refine norm_ (a' := ?_) ?_ ?_
                 rotate_left
                 ·show Act.put _ (some 7) _ = _
                  simp only [Act.put, List.setIfInBounds_toArray, List.set_cons_zero, List.set_cons_succ, i64_w, i32_w]
                  rfl
                 refine one_ (i := 2) (N := some 32) #[true, true, true, false, false, false, true, false, false] rfl rfl (one_of HT_.out (by kernel_rfl)) (by decide) (fun K hK => ?_)
                 refine goes_ Tryd.func11 (by kernel_rfl) rfl #[.agg #[.slice Ao31 y180.length co31, .int .i64 (-5)], .agg #[.slice Ao49 t202.length co49, .int .i64 t205]] (by rfl) rfl rfl (by (try simp only [List.map_toArray, List.map_cons, List.map_nil]); first | done | rfl | (simp only [List.length_drop, List.length_take]; rfl)) ?_
                 with_reducible refine (lin_Add.calls _ _ y180 (-5) _ _ t202 t205 t206 t209 t210 _ ?side1 ?side2 ?side3 ?side4 A4.out).mono ?_
                 (case side1 => repeat (first | exact (Kd.R_reads' HO182.out).2.2 | (with_reducible refine Kd.C_alloc ?_ _) | (with_reducible refine Kd.C_drewN ?_ _) | (with_reducible refine Kd.C_drew ?_)))
                 (case side2 => exact (Kd.R_reads' HO182.out).2.1)
                 (case side3 => repeat (first | exact (Kd.R_reads' HO204.out).2.2 | (with_reducible refine Kd.C_alloc ?_ _) | (with_reducible refine Kd.C_drewN ?_ _) | (with_reducible refine Kd.C_drew ?_)))
                 (case side4 => exact (Kd.R_reads' HO204.out).2.1)
                 rintro e w50 ⟨v207, v211, rfl, ho0, ho1, hb⟩
                 refine ⟨_, rfl, ?_⟩
                 have n0_ := mk0 (Kd.R_elder' (uR HO182.out) (Kd.R_base ho0) hb)
                 have n1_ := mk0 (Kd.R_elder' (uR HO186.out) (Kd.R_base ho0) hb)
                 have n2_ := mk0 (Kd.R_elder' (uR HO190.out) (Kd.R_base ho1) hb)
                 have n3_ := mk0 (Kd.R_elder' (uR HO193.out) (Kd.R_base ho0) hb)
                 have n4_ := mk0 (Kd.R_elder' (uR HO196.out) (Kd.R_base ho0) hb)
                 have n5_ := mk0 (Kd.R_elder' (uR HO201.out) (Kd.R_base ho1) hb)
                 have n6_ := mk0 (Kd.R_elder' (uR HO204.out) (Kd.R_base ho0) hb)
                 have n7_ := mk0 (Kd.R_lower (Kd.R_new' (Kd.R_new' (Kd.R_new' (Kd.R_new' (Kd.R_new' ho0 (Kd.R_lt (uR HO182.out))) (Kd.R_lt (uR HO186.out))) (Kd.R_lt (uR HO193.out))) (Kd.R_lt (uR HO196.out))) (Kd.R_lt (uR HO204.out))) (below_size (by repeat (first | (with_reducible first | exact HB.out | apply bA | apply bN | apply bD | refine bS ?_ (by assumption)) | exact HB.out))))
                 have n8_ := mk0 (Kd.R_lower (Kd.R_new' (Kd.R_new' ho1 (Kd.R_lt (uR HO190.out))) (Kd.R_lt (uR HO201.out))) (below_size (by repeat (first | (with_reducible first | exact HB.out | apply bA | apply bN | apply bD | refine bS ?_ (by assumption)) | exact HB.out))))
                 have n9_ := mk0 (blk_below (g := gb183) (o := .cells #[.slice Ao31 y180.length co31, .int .i64 (-5)] 24 (0, 0)) (uB BK183.out) hb)
                 have n10_ := mk0 (blk_below (g := gb213) (o := .cells #[.slice none 0 0, .int .i64 0] 24 (0, 0)) (uB BK213.out) hb)
                 have n11_ := mk0 (below_step (by repeat (first | (with_reducible first | exact HB.out | apply bA | apply bN | apply bD | refine bS ?_ (by assumption)) | exact HB.out)) hb)
                 clear HO182
                 clear HO186
                 clear HO190
                 clear HO193
                 clear HO196
                 clear HO201
                 clear HO204
                 clear BK183
                 clear BK213
                 clear HB
                 have HO182 := n0_
                 have HO186 := n1_
                 have HO190 := n2_
                 have HO193 := n3_
                 have HO196 := n4_
                 have HO201 := n5_
                 have HO204 := n6_
                 have HO208 := n7_
                 have HO212 := n8_
                 have BK183 := n9_
                 have BK213 := n10_
                 have HB := n11_
                 clear n0_ n1_ n2_ n3_ n4_ n5_ n6_ n7_ n8_ n9_ n10_ n11_
                 (try clear hb)
                 (try clear hb2)
                 (try clear hk)
                 (try clear hi)
                 (try clear ho0)
                 (try clear ho1)
                 (first | (have EHO212 := cmpV_no HO212.out (by with_reducible assumption)) | (have EHO212 := cmpV_yes HO212.out (by with_reducible assumption)) | skip)
                 refine hK.out _ _ ⟨(blk_cell BK183.out 0).trans rfl, (blk_cell BK183.out 1).trans rfl⟩ (fun hHeld => ?_)
                 clear hK K
                 refine norm_ (a' := ?_) ?_ ?_
                 rotate_left
                 ·show Act.put _ (some 32) _ = _
                  simp only [Act.put, List.setIfInBounds_toArray, List.set_cons_zero, List.set_cons_succ, i64_w, i32_w]
                  rfl
                 refine pure_ (i := 3) (N := some 29) (v := ?_) (a' := ?_) #[true, true, true, true, false, false, true, false, false] rfl rfl (any_of HT_.out (by kernel_rfl)) (fun _ _ _ h => h) (Or.inl ⟨by rfl, ?_⟩) ?_ ?_
                 rotate_left
                 ·intro w'
                  go_simp
                  with_reducible rfl
                 rotate_left
                 ·simp only [Act.put, List.setIfInBounds_toArray, List.set_cons_zero, List.set_cons_succ, i64_w, i32_w]
                  rfl
                 refine pure_ (i := 4) (N := some 33) (v := ?_) (a' := ?_) #[true, true, true, true, true, false, true, false, false] rfl rfl (any_of HT_.out (by kernel_rfl)) (fun _ _ _ h => h) (Or.inl ⟨by rfl, ?_⟩) ?_ ?_
                 rotate_left
                 ·intro w'
                  go_simp
                  with_reducible rfl
                 rotate_left
                 ·simp only [Act.put, List.setIfInBounds_toArray, List.set_cons_zero, List.set_cons_succ, i64_w, i32_w]
                  rfl
                 refine pure_ (i := 5) (N := some 34) (v := ?_) (a' := ?_) #[true, true, true, true, true, true, true, false, false] rfl rfl (any_of HT_.out (by kernel_rfl)) (fun _ _ _ h => h) (Or.inl ⟨by rfl, ?_⟩) ?_ ?_
                 rotate_left
                 ·intro w'
                  go_simp
                  with_reducible rfl
                 rotate_left
                 ·simp only [Act.put, List.setIfInBounds_toArray, List.set_cons_zero, List.set_cons_succ, i64_w, i32_w]
                  rfl
                 exact norm_ (by first | (simp only [putAll, Act.put, List.setIfInBounds_toArray, List.set_cons_zero, List.set_cons_succ]; done) | (simp only [putAll, Act.put, List.setIfInBounds_toArray, List.set_cons_zero, List.set_cons_succ, *]; done)) (hCont (.slice Ao49 t202.length co49, v207, v211, gb213) _ ⟨hHeld, (uR (Kd.R_mono HO182.out (fun _ hk => ⟨hk.1.1.1.1.2, ⟨hk.1.1.1.2, ⟨hk.1.1.2, ⟨hk.1.2, hk.2⟩⟩⟩⟩))), (uR (Kd.R_mono HO186.out (fun _ hk => ⟨hk.1.1.1.1.2, ⟨hk.1.1.1.2, ⟨hk.1.1.2, ⟨hk.1.2, hk.2⟩⟩⟩⟩))), (uR (Kd.R_mono HO190.out (fun _ hk => ⟨hk.1.2, hk.2⟩))), (uR (Kd.R_mono HO193.out (fun _ hk => ⟨hk.1.1.1.1.2, ⟨hk.1.1.1.2, ⟨hk.1.1.2, ⟨hk.1.2, hk.2⟩⟩⟩⟩))), (uR (Kd.R_mono HO196.out (fun _ hk => ⟨hk.1.1.1.1.2, ⟨hk.1.1.1.2, ⟨hk.1.1.2, ⟨hk.1.2, hk.2⟩⟩⟩⟩))), (uR (Kd.R_mono HO201.out (fun _ hk => ⟨hk.1.2, hk.2⟩))), (uR (Kd.R_mono HO204.out (fun _ hk => ⟨hk.1.1.1.1.2, ⟨hk.1.1.1.2, ⟨hk.1.1.2, ⟨hk.1.2, hk.2⟩⟩⟩⟩))), (uR (Kd.R_mono HO208.out (fun _ hk => ⟨hk.1.1.1.1.2, ⟨hk.1.1.1.2, ⟨hk.1.1.2, ⟨hk.1.2, hk.2⟩⟩⟩⟩))), (uR (Kd.R_mono HO212.out (fun _ hk => ⟨hk.1.2, hk.2⟩))), (uB BK183.out), (uB BK213.out), GW213.out, GE213.out, NB183_213.out, NB213_183.out, (by repeat (first | (with_reducible first | exact HB.out | apply bA | apply bN | apply bD | refine bS ?_ (by assumption)) | exact HB.out))⟩)
               ·skip
                refine box_step ?hg (N := 7) ?hd (cs := #[.slice none 0 0, .int .i64 0]) (t := 24) ?hr ?_; (case hd => rfl); (case hg => rfl); (case hr => first | (go_simp; done) | (go_simp; rfl))
                intro gb213 hg w47 hbox hb
                have n0_ := mk0 (Kd.R_below (uR HO182.out) hb)
                have n1_ := mk0 (Kd.R_below (uR HO186.out) hb)
                have n2_ := mk0 (Kd.R_below (uR HO190.out) hb)
                have n3_ := mk0 (Kd.R_below (uR HO193.out) hb)
                have n4_ := mk0 (Kd.R_below (uR HO196.out) hb)
                have n5_ := mk0 (Kd.R_below (uR HO201.out) hb)
                have n6_ := mk0 (blk_below (g := gb183) (o := .cells #[.slice Ao31 y180.length co31, .int .i64 (-5)] 24 (0, 0)) (uB BK183.out) hb)
                have n7_ := mk0 (below_step (by repeat (first | (with_reducible first | exact HB.out | apply bA | apply bN | apply bD | refine bS ?_ (by assumption)) | exact HB.out)) hb)
                have n8_ := mk0 (hbox)
                have n9_ := mk0 ((by rw [hg]; exact (below_size (by repeat (first | (with_reducible first | exact HB.out | apply bA | apply bN | apply bD | refine bS ?_ (by assumption)) | exact HB.out))) : w.heap.size ≤ gb213))
                have n10_ := mk0 ((by rw [hg]; exact (below_size (by repeat (first | (with_reducible first | exact HB.out | apply bA | apply bN | apply bD | refine bS ?_ (by assumption)) | exact HB.out))) : w.heap.size ≤ gb213))
                have n11_ := mk0 ((by rw [hg]; exact Nat.ne_of_lt (blk_lt (g := gb183) (o := .cells #[.slice Ao31 y180.length co31, .int .i64 (-5)] 24 (0, 0)) (uB BK183.out)) : gb183 ≠ gb213))
                have n12_ := mk0 ((by rw [hg]; exact Nat.ne_of_gt (blk_lt (g := gb183) (o := .cells #[.slice Ao31 y180.length co31, .int .i64 (-5)] 24 (0, 0)) (uB BK183.out)) : gb213 ≠ gb183))
                clear HO182
                clear HO186
                clear HO190
                clear HO193
                clear HO196
                clear HO201
                clear BK183
                clear HB
                have HO182 := n0_
                have HO186 := n1_
                have HO190 := n2_
                have HO193 := n3_
                have HO196 := n4_
                have HO201 := n5_
                have BK183 := n6_
                have HB := n7_
                have BK213 := n8_
                have GW213 := n9_
                have GE213 := n10_
                have NB183_213 := n11_
                have NB213_183 := n12_
                clear n0_ n1_ n2_ n3_ n4_ n5_ n6_ n7_ n8_ n9_ n10_ n11_ n12_
                clear hb hbox hg
                refine hK.out _ _ ⟨(blk_cell BK183.out 0).trans rfl, (blk_cell BK183.out 1).trans rfl⟩ (fun hHeld => ?_)
                clear hK K
                refine norm_ (a' := ?_) ?_ ?_
                rotate_left
                ·show Act.put _ (some 7) _ = _
                 simp only [Act.put, List.setIfInBounds_toArray, List.set_cons_zero, List.set_cons_succ, i64_w, i32_w]
                 rfl
                refine one_ (i := 1) (N := some 31) #[true, true, false, false, false, false, true, false, false] rfl rfl (one_of HT_.out (by kernel_rfl)) (by decide) (fun K hK => ?_)
                refine goes_ Tryd.func25 (by kernel_rfl) rfl #[.int .i64 3, .int .i64 2] (by rfl) rfl rfl (by (try simp only [List.map_toArray, List.map_cons, List.map_nil]); first | done | rfl | (simp only [List.length_drop, List.length_take]; rfl)) ?_
                with_reducible refine (lin_Index.calls 3 2 t202 t205 _ A3.out).mono ?_
                rintro e w48 ⟨v203, rfl, ho0, hb⟩
                refine ⟨_, rfl, ?_⟩
                have n0_ := mk0 (Kd.R_elder' (uR HO182.out) (Kd.R_base ho0) hb)
                have n1_ := mk0 (Kd.R_elder' (uR HO186.out) (Kd.R_base ho0) hb)
                have n2_ := mk0 (Kd.R_below (uR HO190.out) hb)
                have n3_ := mk0 (Kd.R_elder' (uR HO193.out) (Kd.R_base ho0) hb)
                have n4_ := mk0 (Kd.R_elder' (uR HO196.out) (Kd.R_base ho0) hb)
                have n5_ := mk0 (Kd.R_below (uR HO201.out) hb)
                have n6_ := mk0 (Kd.R_lower (Kd.R_new' (Kd.R_new' (Kd.R_new' (Kd.R_new' ho0 (Kd.R_lt (uR HO182.out))) (Kd.R_lt (uR HO186.out))) (Kd.R_lt (uR HO193.out))) (Kd.R_lt (uR HO196.out))) (below_size (by repeat (first | (with_reducible first | exact HB.out | apply bA | apply bN | apply bD | refine bS ?_ (by assumption)) | exact HB.out))))
                have n7_ := mk0 (blk_below (g := gb183) (o := .cells #[.slice Ao31 y180.length co31, .int .i64 (-5)] 24 (0, 0)) (uB BK183.out) hb)
                have n8_ := mk0 (blk_below (g := gb213) (o := .cells #[.slice none 0 0, .int .i64 0] 24 (0, 0)) (uB BK213.out) hb)
                have n9_ := mk0 (below_step (by repeat (first | (with_reducible first | exact HB.out | apply bA | apply bN | apply bD | refine bS ?_ (by assumption)) | exact HB.out)) hb)
                clear HO182
                clear HO186
                clear HO190
                clear HO193
                clear HO196
                clear HO201
                clear BK183
                clear BK213
                clear HB
                have HO182 := n0_
                have HO186 := n1_
                have HO190 := n2_
                have HO193 := n3_
                have HO196 := n4_
                have HO201 := n5_
                have HO204 := n6_
                have BK183 := n7_
                have BK213 := n8_
                have HB := n9_
                clear n0_ n1_ n2_ n3_ n4_ n5_ n6_ n7_ n8_ n9_
                (try clear hb)
                (try clear hb2)
                (try clear hk)
                (try clear hi)
                (try clear ho0)
                obtain ⟨Ao49, co49, eo49⟩ := Kd.R_slice HO204.out
                (first | subst eo49 | (injection eo49 with f1_ f2_ f3_; have f4_ := f1_.symm; have f5_ := f3_.symm; clear f1_ f2_ f3_; subst f4_; subst f5_))
                refine hK.out _ _ ⟨(blk_cell BK183.out 0).trans rfl, (blk_cell BK183.out 1).trans rfl⟩ (fun hHeld => ?_)
                clear hK K
                refine norm_ (a' := ?_) ?_ ?_
                rotate_left
                ·show Act.put _ (some 31) _ = _
                 simp only [Act.put, List.setIfInBounds_toArray, List.set_cons_zero, List.set_cons_succ, i64_w, i32_w]
                 rfl
                refine one_ (i := 2) (N := some 32) #[true, true, true, false, false, false, true, false, false] rfl rfl (one_of HT_.out (by kernel_rfl)) (by decide) (fun K hK => ?_)
                refine goes_ Tryd.func11 (by kernel_rfl) rfl #[.agg #[.slice Ao31 y180.length co31, .int .i64 (-5)], .agg #[.slice Ao49 t202.length co49, .int .i64 t205]] (by rfl) rfl rfl (by (try simp only [List.map_toArray, List.map_cons, List.map_nil]); first | done | rfl | (simp only [List.length_drop, List.length_take]; rfl)) ?_
                with_reducible refine (lin_Add.calls _ _ y180 (-5) _ _ t202 t205 t206 t209 t210 _ ?side1 ?side2 ?side3 ?side4 A4.out).mono ?_
                (case side1 => repeat (first | exact (Kd.R_reads' HO182.out).2.2 | (with_reducible refine Kd.C_alloc ?_ _) | (with_reducible refine Kd.C_drewN ?_ _) | (with_reducible refine Kd.C_drew ?_)))
                (case side2 => exact (Kd.R_reads' HO182.out).2.1)
                (case side3 => repeat (first | exact (Kd.R_reads' HO204.out).2.2 | (with_reducible refine Kd.C_alloc ?_ _) | (with_reducible refine Kd.C_drewN ?_ _) | (with_reducible refine Kd.C_drew ?_)))
                (case side4 => exact (Kd.R_reads' HO204.out).2.1)
                rintro e w50 ⟨v207, v211, rfl, ho0, ho1, hb⟩
                refine ⟨_, rfl, ?_⟩
                have n0_ := mk0 (Kd.R_elder' (uR HO182.out) (Kd.R_base ho0) hb)
                have n1_ := mk0 (Kd.R_elder' (uR HO186.out) (Kd.R_base ho0) hb)
                have n2_ := mk0 (Kd.R_elder' (uR HO190.out) (Kd.R_base ho1) hb)
                have n3_ := mk0 (Kd.R_elder' (uR HO193.out) (Kd.R_base ho0) hb)
                have n4_ := mk0 (Kd.R_elder' (uR HO196.out) (Kd.R_base ho0) hb)
                have n5_ := mk0 (Kd.R_elder' (uR HO201.out) (Kd.R_base ho1) hb)
                have n6_ := mk0 (Kd.R_elder' (uR HO204.out) (Kd.R_base ho0) hb)
                have n7_ := mk0 (Kd.R_lower (Kd.R_new' (Kd.R_new' (Kd.R_new' (Kd.R_new' (Kd.R_new' ho0 (Kd.R_lt (uR HO182.out))) (Kd.R_lt (uR HO186.out))) (Kd.R_lt (uR HO193.out))) (Kd.R_lt (uR HO196.out))) (Kd.R_lt (uR HO204.out))) (below_size (by repeat (first | (with_reducible first | exact HB.out | apply bA | apply bN | apply bD | refine bS ?_ (by assumption)) | exact HB.out))))
                have n8_ := mk0 (Kd.R_lower (Kd.R_new' (Kd.R_new' ho1 (Kd.R_lt (uR HO190.out))) (Kd.R_lt (uR HO201.out))) (below_size (by repeat (first | (with_reducible first | exact HB.out | apply bA | apply bN | apply bD | refine bS ?_ (by assumption)) | exact HB.out))))
                have n9_ := mk0 (blk_below (g := gb183) (o := .cells #[.slice Ao31 y180.length co31, .int .i64 (-5)] 24 (0, 0)) (uB BK183.out) hb)
                have n10_ := mk0 (blk_below (g := gb213) (o := .cells #[.slice none 0 0, .int .i64 0] 24 (0, 0)) (uB BK213.out) hb)
                have n11_ := mk0 (below_step (by repeat (first | (with_reducible first | exact HB.out | apply bA | apply bN | apply bD | refine bS ?_ (by assumption)) | exact HB.out)) hb)
                clear HO182
                clear HO186
                clear HO190
                clear HO193
                clear HO196
                clear HO201
                clear HO204
                clear BK183
                clear BK213
                clear HB
                have HO182 := n0_
                have HO186 := n1_
                have HO190 := n2_
                have HO193 := n3_
                have HO196 := n4_
                have HO201 := n5_
                have HO204 := n6_
                have HO208 := n7_
                have HO212 := n8_
                have BK183 := n9_
                have BK213 := n10_
                have HB := n11_
                clear n0_ n1_ n2_ n3_ n4_ n5_ n6_ n7_ n8_ n9_ n10_ n11_
                (try clear hb)
                (try clear hb2)
                (try clear hk)
                (try clear hi)
                (try clear ho0)
                (try clear ho1)
                (first | (have EHO212 := cmpV_no HO212.out (by with_reducible assumption)) | (have EHO212 := cmpV_yes HO212.out (by with_reducible assumption)) | skip)
                refine hK.out _ _ ⟨(blk_cell BK183.out 0).trans rfl, (blk_cell BK183.out 1).trans rfl⟩ (fun hHeld => ?_)
                clear hK K
                refine norm_ (a' := ?_) ?_ ?_
                rotate_left
                ·show Act.put _ (some 32) _ = _
                 simp only [Act.put, List.setIfInBounds_toArray, List.set_cons_zero, List.set_cons_succ, i64_w, i32_w]
                 rfl
                refine pure_ (i := 3) (N := some 29) (v := ?_) (a' := ?_) #[true, true, true, true, false, false, true, false, false] rfl rfl (any_of HT_.out (by kernel_rfl)) (fun _ _ _ h => h) (Or.inl ⟨by rfl, ?_⟩) ?_ ?_
                rotate_left
                ·intro w'
                 go_simp
                 with_reducible rfl
                rotate_left
                ·simp only [Act.put, List.setIfInBounds_toArray, List.set_cons_zero, List.set_cons_succ, i64_w, i32_w]
                 rfl
                refine pure_ (i := 4) (N := some 33) (v := ?_) (a' := ?_) #[true, true, true, true, true, false, true, false, false] rfl rfl (any_of HT_.out (by kernel_rfl)) (fun _ _ _ h => h) (Or.inl ⟨by rfl, ?_⟩) ?_ ?_
                rotate_left
                ·intro w'
                 go_simp
                 with_reducible rfl
                rotate_left
                ·simp only [Act.put, List.setIfInBounds_toArray, List.set_cons_zero, List.set_cons_succ, i64_w, i32_w]
                 rfl
                refine pure_ (i := 5) (N := some 34) (v := ?_) (a' := ?_) #[true, true, true, true, true, true, true, false, false] rfl rfl (any_of HT_.out (by kernel_rfl)) (fun _ _ _ h => h) (Or.inl ⟨by rfl, ?_⟩) ?_ ?_
                rotate_left
                ·intro w'
                 go_simp
                 with_reducible rfl
                rotate_left
                ·simp only [Act.put, List.setIfInBounds_toArray, List.set_cons_zero, List.set_cons_succ, i64_w, i32_w]
                 rfl
                exact norm_ (by first | (simp only [putAll, Act.put, List.setIfInBounds_toArray, List.set_cons_zero, List.set_cons_succ]; done) | (simp only [putAll, Act.put, List.setIfInBounds_toArray, List.set_cons_zero, List.set_cons_succ, *]; done)) (hCont (.slice Ao49 t202.length co49, v207, v211, gb213) _ ⟨hHeld, (uR (Kd.R_mono HO182.out (fun _ hk => ⟨hk.1.1.1.1.2, ⟨hk.1.1.1.2, ⟨hk.1.1.2, ⟨hk.1.2, hk.2⟩⟩⟩⟩))), (uR (Kd.R_mono HO186.out (fun _ hk => ⟨hk.1.1.1.1.2, ⟨hk.1.1.1.2, ⟨hk.1.1.2, ⟨hk.1.2, hk.2⟩⟩⟩⟩))), (uR (Kd.R_mono HO190.out (fun _ hk => ⟨hk.1.2, hk.2⟩))), (uR (Kd.R_mono HO193.out (fun _ hk => ⟨hk.1.1.1.1.2, ⟨hk.1.1.1.2, ⟨hk.1.1.2, ⟨hk.1.2, hk.2⟩⟩⟩⟩))), (uR (Kd.R_mono HO196.out (fun _ hk => ⟨hk.1.1.1.1.2, ⟨hk.1.1.1.2, ⟨hk.1.1.2, ⟨hk.1.2, hk.2⟩⟩⟩⟩))), (uR (Kd.R_mono HO201.out (fun _ hk => ⟨hk.1.2, hk.2⟩))), (uR (Kd.R_mono HO204.out (fun _ hk => ⟨hk.1.1.1.1.2, ⟨hk.1.1.1.2, ⟨hk.1.1.2, ⟨hk.1.2, hk.2⟩⟩⟩⟩))), (uR (Kd.R_mono HO208.out (fun _ hk => ⟨hk.1.1.1.1.2, ⟨hk.1.1.1.2, ⟨hk.1.1.2, ⟨hk.1.2, hk.2⟩⟩⟩⟩))), (uR (Kd.R_mono HO212.out (fun _ hk => ⟨hk.1.2, hk.2⟩))), (uB BK183.out), (uB BK213.out), GW213.out, GE213.out, NB183_213.out, NB213_183.out, (by repeat (first | (with_reducible first | exact HB.out | apply bA | apply bN | apply bD | refine bS ?_ (by assumption)) | exact HB.out))⟩)
              rintro ⟨v203, v207, v211, gb213⟩ w51 ⟨hS_, h0_, h1_, h2_, h3_, h4_, h5_, h6_, h7_, h8_, h9_, h10_, h11_, h12_, h13_, h14_, h15_⟩
              have n0_ : Aside0 (Kd.R (Kd.int .i64) 2 w51 w.heap.size (fun k_ => some k_ ≠ (.slice Ao36 y184.length co36 : Value).ownBlock ∧ some k_ ≠ (.slice Ao43 y191.length co43 : Value).ownBlock ∧ some k_ ≠ (.slice Ao44 y194.length co44 : Value).ownBlock ∧ some k_ ≠ (v203 : Value).ownBlock ∧ some k_ ≠ (v207 : Value).ownBlock) (.slice Ao31 y180.length co31) y180) := ⟨h0_⟩
              have n1_ : Aside0 (Kd.R (Kd.int .i64) 2 w51 w.heap.size (fun k_ => some k_ ≠ (.slice Ao31 y180.length co31 : Value).ownBlock ∧ some k_ ≠ (.slice Ao43 y191.length co43 : Value).ownBlock ∧ some k_ ≠ (.slice Ao44 y194.length co44 : Value).ownBlock ∧ some k_ ≠ (v203 : Value).ownBlock ∧ some k_ ≠ (v207 : Value).ownBlock) (.slice Ao36 y184.length co36) y184) := ⟨h1_⟩
              have n2_ : Aside0 (Kd.R fltK 84 w51 w.heap.size (fun k_ => some k_ ≠ (v200 : Value).ownBlock ∧ some k_ ≠ (v211 : Value).ownBlock) v189 t188) := ⟨h2_⟩
              have n3_ : Aside0 (Kd.R (Kd.int .i64) 2 w51 w.heap.size (fun k_ => some k_ ≠ (.slice Ao31 y180.length co31 : Value).ownBlock ∧ some k_ ≠ (.slice Ao36 y184.length co36 : Value).ownBlock ∧ some k_ ≠ (.slice Ao44 y194.length co44 : Value).ownBlock ∧ some k_ ≠ (v203 : Value).ownBlock ∧ some k_ ≠ (v207 : Value).ownBlock) (.slice Ao43 y191.length co43) y191) := ⟨h3_⟩
              have n4_ : Aside0 (Kd.R (Kd.int .i64) 2 w51 w.heap.size (fun k_ => some k_ ≠ (.slice Ao31 y180.length co31 : Value).ownBlock ∧ some k_ ≠ (.slice Ao36 y184.length co36 : Value).ownBlock ∧ some k_ ≠ (.slice Ao43 y191.length co43 : Value).ownBlock ∧ some k_ ≠ (v203 : Value).ownBlock ∧ some k_ ≠ (v207 : Value).ownBlock) (.slice Ao44 y194.length co44) y194) := ⟨h4_⟩
              have n5_ : Aside0 (Kd.R fltK 84 w51 w.heap.size (fun k_ => some k_ ≠ (v189 : Value).ownBlock ∧ some k_ ≠ (v211 : Value).ownBlock) v200 t199) := ⟨h5_⟩
              have n6_ : Aside0 (Kd.R (Kd.int .i64) 2 w51 w.heap.size (fun k_ => some k_ ≠ (.slice Ao31 y180.length co31 : Value).ownBlock ∧ some k_ ≠ (.slice Ao36 y184.length co36 : Value).ownBlock ∧ some k_ ≠ (.slice Ao43 y191.length co43 : Value).ownBlock ∧ some k_ ≠ (.slice Ao44 y194.length co44 : Value).ownBlock ∧ some k_ ≠ (v207 : Value).ownBlock) v203 t202) := ⟨h6_⟩
              have n7_ : Aside0 (Kd.R (Kd.int .i64) 2 w51 w.heap.size (fun k_ => some k_ ≠ (.slice Ao31 y180.length co31 : Value).ownBlock ∧ some k_ ≠ (.slice Ao36 y184.length co36 : Value).ownBlock ∧ some k_ ≠ (.slice Ao43 y191.length co43 : Value).ownBlock ∧ some k_ ≠ (.slice Ao44 y194.length co44 : Value).ownBlock ∧ some k_ ≠ (v203 : Value).ownBlock) v207 t206) := ⟨h7_⟩
              have n8_ : Aside0 (Kd.R fltK 84 w51 w.heap.size (fun k_ => some k_ ≠ (v189 : Value).ownBlock ∧ some k_ ≠ (v200 : Value).ownBlock) v211 t210) := ⟨h8_⟩
              have n9_ : Aside0 (w51.heap[gb183]? = some (.cells #[.slice Ao31 y180.length co31, .int .i64 (-5)] 24 (0, 0))) := ⟨h9_⟩
              have n10_ : Aside0 (w51.heap[gb213]? = some (.cells #[.slice none 0 0, .int .i64 0] 24 (0, 0))) := ⟨h10_⟩
              have n11_ : Aside0 (w.heap.size ≤ gb213) := ⟨h11_⟩
              have n12_ : Aside0 (w.heap.size ≤ gb213) := ⟨h12_⟩
              have n13_ : Aside0 (gb183 ≠ gb213) := ⟨h13_⟩
              have n14_ : Aside0 (gb213 ≠ gb183) := ⟨h14_⟩
              have n15_ : Aside0 (Below w.heap.size w w51) := ⟨h15_⟩
              clear HO182
              clear HO186
              clear HO190
              clear HO193
              clear HO196
              clear HO201
              clear BK183
              clear HB
              clear h0_ h1_ h2_ h3_ h4_ h5_ h6_ h7_ h8_ h9_ h10_ h11_ h12_ h13_ h14_ h15_
              have HO182 := n0_
              have HO186 := n1_
              have HO190 := n2_
              have HO193 := n3_
              have HO196 := n4_
              have HO201 := n5_
              have HO204 := n6_
              have HO208 := n7_
              have HO212 := n8_
              have BK183 := n9_
              have BK213 := n10_
              have GW213 := n11_
              have GE213 := n12_
              have NB183_213 := n13_
              have NB213_183 := n14_
              have HB := n15_
              clear n0_ n1_ n2_ n3_ n4_ n5_ n6_ n7_ n8_ n9_ n10_ n11_ n12_ n13_ n14_ n15_
              (first | (have EHO190 := cmpV_no HO190.out (by with_reducible assumption)) | (have EHO190 := cmpV_yes HO190.out (by with_reducible assumption)) | skip)
              (first | (have EHO201 := cmpV_no HO201.out (by with_reducible assumption)) | (have EHO201 := cmpV_yes HO201.out (by with_reducible assumption)) | skip)
              (first | (have EHO212 := cmpV_no HO212.out (by with_reducible assumption)) | (have EHO212 := cmpV_yes HO212.out (by with_reducible assumption)) | skip)
              have hHeld : w51.cell? ⟨gb183, 0, none⟩ = some (.slice Ao31 y180.length co31) ∧ w51.cell? ⟨gb183, 1, none⟩ = some (.int .i64 (-5)) := hS_
              obtain ⟨Ao52, co52, eo52⟩ := Kd.R_slice HO208.out
              (first | subst eo52 | (injection eo52 with f1_ f2_ f3_; have f4_ := f1_.symm; have f5_ := f3_.symm; clear f1_ f2_ f3_; subst f4_; subst f5_))
              refine norm_ (a' := ?_) ?_ ?_
              rotate_left
              ·simp only [putAll, Act.put, List.setIfInBounds_toArray, List.set_cons_zero, List.set_cons_succ]
               rfl
              refine one_ (i := 7) (N := none) #[true, true, true, true, true, true, true, true, false] rfl rfl (one_of HT_.out (by kernel_rfl)) (by decide) (fun K hK => ?_)
              have hs53 : w51.cell? ⟨gb213, 0, none⟩ = some (.slice none 0 0) := (blk_cell BK213.out 0).trans rfl
              have hfs53 := blk_frozen BK213.out 0
              have hns53_0 := NB183_213.out
              have hms53_0 := NB213_183.out
              have hs54 : w51.cell? ⟨gb213, 1, none⟩ = some (.int .i64 0) := (blk_cell BK213.out 1).trans rfl
              have hfs54 := blk_frozen BK213.out 1
              have hns54_0 := NB183_213.out
              have hms54_0 := NB213_183.out
              refine skip_ (w1 := ?_) (by rfl) rfl ?_ ?_
              rotate_left
              ·go_simp
               rfl
              refine hK.out _ _ ⟨((cell_far (p := ⟨gb213, _, none⟩) NB183_213.out _).trans (((cell_far (p := ⟨gb213, _, none⟩) NB183_213.out _).trans (hHeld.1)))), ((cell_far (p := ⟨gb213, _, none⟩) NB183_213.out _).trans (((cell_far (p := ⟨gb213, _, none⟩) NB183_213.out _).trans (hHeld.2))))⟩ (fun hHeld => ?_)
              clear hK K
              refine pure_ (i := 8) (N := some 8) (v := ?_) (a' := ?_) #[true, true, true, true, true, true, true, true, true] rfl rfl (any_of HT_.out (by kernel_rfl)) (fun _ _ _ h => h) (Or.inl ⟨by rfl, ?_⟩) ?_ ?_
              rotate_left
              ·intro w'
               go_simp
               with_reducible rfl
              rotate_left
              ·simp only [Act.put, List.setIfInBounds_toArray, List.set_cons_zero, List.set_cons_succ, i64_w, i32_w]
               rfl
              refine done_ (done_of HT_.out (by kernel_rfl)) ?_
              have hnb55 := NB183_213.out
              have hnc55 := NB213_183.out
              have hcz56_0 : w51.cell? ⟨gb183, 0, none⟩ = some (.slice Ao31 y180.length co31) := (blk_cell BK183.out 0).trans rfl
              have hcz56_1 : w51.cell? ⟨gb183, 1, none⟩ = some (.int .i64 (-5)) := (blk_cell BK183.out 1).trans rfl
              have hfz56_0 := blk_frozen BK183.out 0
              have hfz56_1 := blk_frozen BK183.out 1
              try go_wp2_with (first | ((with_reducible refine gate_callee (f := 14) rfl ?_); refine goesL_ (some 37) rfl rfl Tryd.func14 (by kernel_rfl) rfl #[.agg #[.slice Ao31 y180.length co31, .int .i64 (-5)], .int .i64 9223372036854775807] rfl (by (try simp only [List.map_toArray, List.map_cons, List.map_nil]); first | done | rfl | (simp only [List.length_drop, List.length_take]; rfl)) ?_; (with_reducible refine (lin_Scale.calls _ _ y180 (-5) 9223372036854775807 t214 t217 t218 _ ?side1 ?side2 A5.out).mono ?_); (case side1 => refine (Kd.R_reads' (e := 2) (base := w.heap.size) (ok := fun k_ => (some k_ ≠ (.slice Ao36 y184.length co36 : Value).ownBlock ∧ (some k_ ≠ (.slice Ao43 y191.length co43 : Value).ownBlock ∧ (some k_ ≠ (.slice Ao44 y194.length co44 : Value).ownBlock ∧ (some k_ ≠ (v203 : Value).ownBlock ∧ some k_ ≠ (.slice Ao52 t206.length co52 : Value).ownBlock))))) (n := y180.length) (c := co31) ?_).2.2; exact (uR (Kd.R_mono (Kd.R_far (p := ⟨gb213, 1, none⟩) (Kd.R_far (p := ⟨gb213, 0, none⟩) (Kd.R_types HO182.out BK213.out (by decide)) (fun _ hk => hk.2) (.slice Ao52 t206.length co52)) (fun _ hk => hk.2) (.int .i64 t209)) (fun _ h_ => h_.1)))); (case side2 => exact (Kd.R_reads' HO182.out).2.1); rintro e w57 ⟨v215, v219, rfl, ho0, ho1, hb⟩; refine ⟨_, rfl, ?_⟩; have n0_ := mk0 (Kd.R_elder' (uR (Kd.R_mono (Kd.R_far (p := ⟨gb213, 1, none⟩) (Kd.R_far (p := ⟨gb213, 0, none⟩) (Kd.R_types HO182.out BK213.out (by decide)) (fun _ hk => hk.2) (.slice Ao52 t206.length co52)) (fun _ hk => hk.2) (.int .i64 t209)) (fun _ h_ => h_.1))) (Kd.R_base ho0) hb); have n1_ := mk0 (Kd.R_elder' (uR (Kd.R_mono (Kd.R_far (p := ⟨gb213, 1, none⟩) (Kd.R_far (p := ⟨gb213, 0, none⟩) (Kd.R_types HO186.out BK213.out (by decide)) (fun _ hk => hk.2) (.slice Ao52 t206.length co52)) (fun _ hk => hk.2) (.int .i64 t209)) (fun _ h_ => h_.1))) (Kd.R_base ho0) hb); have n2_ := mk0 (Kd.R_elder' (uR (Kd.R_mono (Kd.R_far (p := ⟨gb213, 1, none⟩) (Kd.R_far (p := ⟨gb213, 0, none⟩) (Kd.R_types HO190.out BK213.out (by decide)) (fun _ hk => hk.2) (.slice Ao52 t206.length co52)) (fun _ hk => hk.2) (.int .i64 t209)) (fun _ h_ => h_.1))) (Kd.R_base ho1) hb); have n3_ := mk0 (Kd.R_elder' (uR (Kd.R_mono (Kd.R_far (p := ⟨gb213, 1, none⟩) (Kd.R_far (p := ⟨gb213, 0, none⟩) (Kd.R_types HO193.out BK213.out (by decide)) (fun _ hk => hk.2) (.slice Ao52 t206.length co52)) (fun _ hk => hk.2) (.int .i64 t209)) (fun _ h_ => h_.1))) (Kd.R_base ho0) hb); have n4_ := mk0 (Kd.R_elder' (uR (Kd.R_mono (Kd.R_far (p := ⟨gb213, 1, none⟩) (Kd.R_far (p := ⟨gb213, 0, none⟩) (Kd.R_types HO196.out BK213.out (by decide)) (fun _ hk => hk.2) (.slice Ao52 t206.length co52)) (fun _ hk => hk.2) (.int .i64 t209)) (fun _ h_ => h_.1))) (Kd.R_base ho0) hb); have n5_ := mk0 (Kd.R_elder' (uR (Kd.R_mono (Kd.R_far (p := ⟨gb213, 1, none⟩) (Kd.R_far (p := ⟨gb213, 0, none⟩) (Kd.R_types HO201.out BK213.out (by decide)) (fun _ hk => hk.2) (.slice Ao52 t206.length co52)) (fun _ hk => hk.2) (.int .i64 t209)) (fun _ h_ => h_.1))) (Kd.R_base ho1) hb); have n6_ := mk0 (Kd.R_elder' (uR (Kd.R_mono (Kd.R_far (p := ⟨gb213, 1, none⟩) (Kd.R_far (p := ⟨gb213, 0, none⟩) (Kd.R_types HO204.out BK213.out (by decide)) (fun _ hk => hk.2) (.slice Ao52 t206.length co52)) (fun _ hk => hk.2) (.int .i64 t209)) (fun _ h_ => h_.1))) (Kd.R_base ho0) hb); have n7_ := mk0 (Kd.R_elder' (uR (Kd.R_mono (Kd.R_far (p := ⟨gb213, 1, none⟩) (Kd.R_far (p := ⟨gb213, 0, none⟩) (Kd.R_types HO208.out BK213.out (by decide)) (fun _ hk => hk.2) (.slice Ao52 t206.length co52)) (fun _ hk => hk.2) (.int .i64 t209)) (fun _ h_ => h_.1))) (Kd.R_base ho0) hb); have n8_ := mk0 (Kd.R_elder' (uR (Kd.R_mono (Kd.R_far (p := ⟨gb213, 1, none⟩) (Kd.R_far (p := ⟨gb213, 0, none⟩) (Kd.R_types HO212.out BK213.out (by decide)) (fun _ hk => hk.2) (.slice Ao52 t206.length co52)) (fun _ hk => hk.2) (.int .i64 t209)) (fun _ h_ => h_.1))) (Kd.R_base ho1) hb); have n9_ := mk0 (Kd.R_lower (Kd.R_new' (Kd.R_new' (Kd.R_new' (Kd.R_new' (Kd.R_new' (Kd.R_new' ho0 (Kd.R_lt (uR (Kd.R_mono (Kd.R_far (p := ⟨gb213, 1, none⟩) (Kd.R_far (p := ⟨gb213, 0, none⟩) (Kd.R_types HO182.out BK213.out (by decide)) (fun _ hk => hk.2) (.slice Ao52 t206.length co52)) (fun _ hk => hk.2) (.int .i64 t209)) (fun _ h_ => h_.1))))) (Kd.R_lt (uR (Kd.R_mono (Kd.R_far (p := ⟨gb213, 1, none⟩) (Kd.R_far (p := ⟨gb213, 0, none⟩) (Kd.R_types HO186.out BK213.out (by decide)) (fun _ hk => hk.2) (.slice Ao52 t206.length co52)) (fun _ hk => hk.2) (.int .i64 t209)) (fun _ h_ => h_.1))))) (Kd.R_lt (uR (Kd.R_mono (Kd.R_far (p := ⟨gb213, 1, none⟩) (Kd.R_far (p := ⟨gb213, 0, none⟩) (Kd.R_types HO193.out BK213.out (by decide)) (fun _ hk => hk.2) (.slice Ao52 t206.length co52)) (fun _ hk => hk.2) (.int .i64 t209)) (fun _ h_ => h_.1))))) (Kd.R_lt (uR (Kd.R_mono (Kd.R_far (p := ⟨gb213, 1, none⟩) (Kd.R_far (p := ⟨gb213, 0, none⟩) (Kd.R_types HO196.out BK213.out (by decide)) (fun _ hk => hk.2) (.slice Ao52 t206.length co52)) (fun _ hk => hk.2) (.int .i64 t209)) (fun _ h_ => h_.1))))) (Kd.R_lt (uR (Kd.R_mono (Kd.R_far (p := ⟨gb213, 1, none⟩) (Kd.R_far (p := ⟨gb213, 0, none⟩) (Kd.R_types HO204.out BK213.out (by decide)) (fun _ hk => hk.2) (.slice Ao52 t206.length co52)) (fun _ hk => hk.2) (.int .i64 t209)) (fun _ h_ => h_.1))))) (Kd.R_lt (uR (Kd.R_mono (Kd.R_far (p := ⟨gb213, 1, none⟩) (Kd.R_far (p := ⟨gb213, 0, none⟩) (Kd.R_types HO208.out BK213.out (by decide)) (fun _ hk => hk.2) (.slice Ao52 t206.length co52)) (fun _ hk => hk.2) (.int .i64 t209)) (fun _ h_ => h_.1))))) (below_size (by repeat (first | (with_reducible first | exact HB.out | apply bA | apply bN | apply bD | refine bS ?_ (by assumption)) | exact HB.out)))); have n10_ := mk0 (Kd.R_lower (Kd.R_new' (Kd.R_new' (Kd.R_new' ho1 (Kd.R_lt (uR (Kd.R_mono (Kd.R_far (p := ⟨gb213, 1, none⟩) (Kd.R_far (p := ⟨gb213, 0, none⟩) (Kd.R_types HO190.out BK213.out (by decide)) (fun _ hk => hk.2) (.slice Ao52 t206.length co52)) (fun _ hk => hk.2) (.int .i64 t209)) (fun _ h_ => h_.1))))) (Kd.R_lt (uR (Kd.R_mono (Kd.R_far (p := ⟨gb213, 1, none⟩) (Kd.R_far (p := ⟨gb213, 0, none⟩) (Kd.R_types HO201.out BK213.out (by decide)) (fun _ hk => hk.2) (.slice Ao52 t206.length co52)) (fun _ hk => hk.2) (.int .i64 t209)) (fun _ h_ => h_.1))))) (Kd.R_lt (uR (Kd.R_mono (Kd.R_far (p := ⟨gb213, 1, none⟩) (Kd.R_far (p := ⟨gb213, 0, none⟩) (Kd.R_types HO212.out BK213.out (by decide)) (fun _ hk => hk.2) (.slice Ao52 t206.length co52)) (fun _ hk => hk.2) (.int .i64 t209)) (fun _ h_ => h_.1))))) (below_size (by repeat (first | (with_reducible first | exact HB.out | apply bA | apply bN | apply bD | refine bS ?_ (by assumption)) | exact HB.out)))); have n11_ := mk0 (blk_below (g := gb183) (o := .cells #[.slice Ao31 y180.length co31, .int .i64 (-5)] 24 (0, 0)) (by (with_reducible repeat (first | refine blk_drewN ?_ _ | refine blk_drew ?_ | refine blk_alloc ?_ _)); refine blk_far ?_ NB183_213.out _; (with_reducible repeat (first | refine blk_drewN ?_ _ | refine blk_drew ?_ | refine blk_alloc ?_ _)); refine blk_far ?_ NB183_213.out _; (with_reducible repeat (first | refine blk_drewN ?_ _ | refine blk_drew ?_ | refine blk_alloc ?_ _)); exact BK183.out) hb); have n12_ := mk0 (blk_below (g := gb213) (o := .cells #[.slice Ao52 t206.length co52, .int .i64 t209] 24 (0, 0)) (by (with_reducible repeat (first | refine blk_drewN ?_ _ | refine blk_drew ?_ | refine blk_alloc ?_ _)); refine blk_put (cs := #[.slice Ao52 t206.length co52, .int .i64 0]) ?_ 1 _ rfl; (with_reducible repeat (first | refine blk_drewN ?_ _ | refine blk_drew ?_ | refine blk_alloc ?_ _)); refine blk_put (cs := #[.slice none 0 0, .int .i64 0]) ?_ 0 _ rfl; (with_reducible repeat (first | refine blk_drewN ?_ _ | refine blk_drew ?_ | refine blk_alloc ?_ _)); exact BK213.out) hb); have n13_ := mk0 (below_step (by repeat (first | (with_reducible first | exact HB.out | apply bA | apply bN | apply bD | refine bS ?_ (by assumption)) | exact HB.out)) hb); clear HO182; clear HO186; clear HO190; clear HO193; clear HO196; clear HO201; clear HO204; clear HO208; clear HO212; clear BK183; clear BK213; clear HB; have HO182 := n0_; have HO186 := n1_; have HO190 := n2_; have HO193 := n3_; have HO196 := n4_; have HO201 := n5_; have HO204 := n6_; have HO208 := n7_; have HO212 := n8_; have HO216 := n9_; have HO220 := n10_; have BK183 := n11_; have BK213 := n12_; have HB := n13_; clear n0_ n1_ n2_ n3_ n4_ n5_ n6_ n7_ n8_ n9_ n10_ n11_ n12_ n13_; (try clear hb); (try clear hb2); (try clear hk); (try clear hi); (try clear ho0); (try clear ho1); (first | (have EHO220 := cmpV_no HO220.out (by with_reducible assumption)) | (have EHO220 := cmpV_yes HO220.out (by with_reducible assumption)) | skip)) | ((with_reducible refine gate_dst (N := 9) rfl ?_); (try (refine gate_guard (by rfl) ?_; dsimp only)); refine box_event ?hg (N := 9) ?hd (cs := #[.slice none 0 0, .int .i64 0]) (t := 24) ?hr ?_; (case hd => rfl); (case hg => rfl); (case hr => first | (go_simp; done) | (go_simp; rfl)); intro gb221 hg w58 hbox hb; have n0_ := mk0 (Kd.R_below (uR HO182.out) hb); have n1_ := mk0 (Kd.R_below (uR HO186.out) hb); have n2_ := mk0 (Kd.R_below (uR HO190.out) hb); have n3_ := mk0 (Kd.R_below (uR HO193.out) hb); have n4_ := mk0 (Kd.R_below (uR HO196.out) hb); have n5_ := mk0 (Kd.R_below (uR HO201.out) hb); have n6_ := mk0 (Kd.R_below (uR HO204.out) hb); have n7_ := mk0 (Kd.R_below (uR HO208.out) hb); have n8_ := mk0 (Kd.R_below (uR HO212.out) hb); have n9_ := mk0 (Kd.R_below (uR HO216.out) hb); have n10_ := mk0 (Kd.R_below (uR HO220.out) hb); have n11_ := mk0 (blk_below (g := gb183) (o := .cells #[.slice Ao31 y180.length co31, .int .i64 (-5)] 24 (0, 0)) (uB BK183.out) hb); have n12_ := mk0 (blk_below (g := gb213) (o := .cells #[.slice Ao52 t206.length co52, .int .i64 t209] 24 (0, 0)) (uB BK213.out) hb); have n13_ := mk0 (below_step (by repeat (first | (with_reducible first | exact HB.out | apply bA | apply bN | apply bD | refine bS ?_ (by assumption)) | exact HB.out)) hb); have n14_ := mk0 (hbox); have n15_ := mk0 ((by rw [hg]; exact (below_size (by repeat (first | (with_reducible first | exact HB.out | apply bA | apply bN | apply bD | refine bS ?_ (by assumption)) | exact HB.out))) : w.heap.size ≤ gb221)); have n16_ := mk0 ((by rw [hg]; exact (below_size (by repeat (first | (with_reducible first | exact HB.out | apply bA | apply bN | apply bD | refine bS ?_ (by assumption)) | exact HB.out))) : w.heap.size ≤ gb221)); have n17_ := mk0 ((by rw [hg]; exact Nat.ne_of_lt (blk_lt (g := gb183) (o := .cells #[.slice Ao31 y180.length co31, .int .i64 (-5)] 24 (0, 0)) (uB BK183.out)) : gb183 ≠ gb221)); have n18_ := mk0 ((by rw [hg]; exact Nat.ne_of_gt (blk_lt (g := gb183) (o := .cells #[.slice Ao31 y180.length co31, .int .i64 (-5)] 24 (0, 0)) (uB BK183.out)) : gb221 ≠ gb183)); have n19_ := mk0 ((by rw [hg]; exact Nat.ne_of_lt (blk_lt (g := gb213) (o := .cells #[.slice Ao52 t206.length co52, .int .i64 t209] 24 (0, 0)) (uB BK213.out)) : gb213 ≠ gb221)); have n20_ := mk0 ((by rw [hg]; exact Nat.ne_of_gt (blk_lt (g := gb213) (o := .cells #[.slice Ao52 t206.length co52, .int .i64 t209] 24 (0, 0)) (uB BK213.out)) : gb221 ≠ gb213)); clear HO182; clear HO186; clear HO190; clear HO193; clear HO196; clear HO201; clear HO204; clear HO208; clear HO212; clear HO216; clear HO220; clear BK183; clear BK213; clear HB; have HO182 := n0_; have HO186 := n1_; have HO190 := n2_; have HO193 := n3_; have HO196 := n4_; have HO201 := n5_; have HO204 := n6_; have HO208 := n7_; have HO212 := n8_; have HO216 := n9_; have HO220 := n10_; have BK183 := n11_; have BK213 := n12_; have HB := n13_; have BK221 := n14_; have GW221 := n15_; have GE221 := n16_; have NB183_221 := n17_; have NB221_183 := n18_; have NB213_221 := n19_; have NB221_213 := n20_; clear n0_ n1_ n2_ n3_ n4_ n5_ n6_ n7_ n8_ n9_ n10_ n11_ n12_ n13_ n14_ n15_ n16_ n17_ n18_ n19_ n20_; clear hb hbox hg; obtain ⟨Ao59, co59, eo59⟩ := Kd.R_slice HO216.out; subst eo59; have hnb60 := NB221_183.out; have hnc60 := NB183_221.out; have hnb61 := NB221_213.out; have hnc61 := NB213_221.out; have hcz62_0 : w58.cell? ⟨gb221, 0, none⟩ = some (.slice none 0 0) := (blk_cell BK221.out 0).trans rfl; have hcz62_1 : w58.cell? ⟨gb221, 1, none⟩ = some (.int .i64 0) := (blk_cell BK221.out 1).trans rfl; have hfz62_0 := blk_frozen BK221.out 0; have hfz62_1 := blk_frozen BK221.out 1))
              have n0_ : Aside0 (Kd.R (Kd.int .i64) 2 ((w58.setCell ⟨gb221, 0, none⟩ (.slice Ao59 t214.length co59)).setCell ⟨gb221, 1, none⟩ (.int .i64 t217)) w.heap.size (fun k_ => some k_ ≠ (.slice Ao36 y184.length co36 : Value).ownBlock ∧ some k_ ≠ (.slice Ao43 y191.length co43 : Value).ownBlock ∧ some k_ ≠ (.slice Ao44 y194.length co44 : Value).ownBlock ∧ some k_ ≠ (v203 : Value).ownBlock ∧ some k_ ≠ (.slice Ao52 t206.length co52 : Value).ownBlock ∧ some k_ ≠ (.slice Ao59 t214.length co59 : Value).ownBlock) (.slice Ao31 y180.length co31) y180) := ⟨uR (Kd.R_mono (Kd.R_far (p := ⟨gb221, 1, none⟩) (Kd.R_far (p := ⟨gb221, 0, none⟩) (Kd.R_types HO182.out BK221.out (by decide)) (fun _ hk => hk.2) (.slice Ao59 t214.length co59)) (fun _ hk => hk.2) (.int .i64 t217)) (fun _ hk => ⟨hk.1.1.1, ⟨hk.1.1.2.1, ⟨hk.1.1.2.2.1, ⟨hk.1.1.2.2.2.1, ⟨hk.1.1.2.2.2.2, hk.1.2⟩⟩⟩⟩⟩))⟩
              have n1_ : Aside0 (Kd.R (Kd.int .i64) 2 ((w58.setCell ⟨gb221, 0, none⟩ (.slice Ao59 t214.length co59)).setCell ⟨gb221, 1, none⟩ (.int .i64 t217)) w.heap.size (fun k_ => some k_ ≠ (.slice Ao31 y180.length co31 : Value).ownBlock ∧ some k_ ≠ (.slice Ao43 y191.length co43 : Value).ownBlock ∧ some k_ ≠ (.slice Ao44 y194.length co44 : Value).ownBlock ∧ some k_ ≠ (v203 : Value).ownBlock ∧ some k_ ≠ (.slice Ao52 t206.length co52 : Value).ownBlock ∧ some k_ ≠ (.slice Ao59 t214.length co59 : Value).ownBlock) (.slice Ao36 y184.length co36) y184) := ⟨uR (Kd.R_mono (Kd.R_far (p := ⟨gb221, 1, none⟩) (Kd.R_far (p := ⟨gb221, 0, none⟩) (Kd.R_types HO186.out BK221.out (by decide)) (fun _ hk => hk.2) (.slice Ao59 t214.length co59)) (fun _ hk => hk.2) (.int .i64 t217)) (fun _ hk => ⟨hk.1.1.1, ⟨hk.1.1.2.1, ⟨hk.1.1.2.2.1, ⟨hk.1.1.2.2.2.1, ⟨hk.1.1.2.2.2.2, hk.1.2⟩⟩⟩⟩⟩))⟩
              have n2_ : Aside0 (Kd.R fltK 84 ((w58.setCell ⟨gb221, 0, none⟩ (.slice Ao59 t214.length co59)).setCell ⟨gb221, 1, none⟩ (.int .i64 t217)) w.heap.size (fun k_ => some k_ ≠ (v200 : Value).ownBlock ∧ some k_ ≠ (v211 : Value).ownBlock ∧ some k_ ≠ (v219 : Value).ownBlock) v189 t188) := ⟨uR (Kd.R_mono (Kd.R_far (p := ⟨gb221, 1, none⟩) (Kd.R_far (p := ⟨gb221, 0, none⟩) (Kd.R_types HO190.out BK221.out (by decide)) (fun _ hk => hk.2) (.slice Ao59 t214.length co59)) (fun _ hk => hk.2) (.int .i64 t217)) (fun _ hk => ⟨hk.1.1.1, ⟨hk.1.1.2, hk.1.2⟩⟩))⟩
              have n3_ : Aside0 (Kd.R (Kd.int .i64) 2 ((w58.setCell ⟨gb221, 0, none⟩ (.slice Ao59 t214.length co59)).setCell ⟨gb221, 1, none⟩ (.int .i64 t217)) w.heap.size (fun k_ => some k_ ≠ (.slice Ao31 y180.length co31 : Value).ownBlock ∧ some k_ ≠ (.slice Ao36 y184.length co36 : Value).ownBlock ∧ some k_ ≠ (.slice Ao44 y194.length co44 : Value).ownBlock ∧ some k_ ≠ (v203 : Value).ownBlock ∧ some k_ ≠ (.slice Ao52 t206.length co52 : Value).ownBlock ∧ some k_ ≠ (.slice Ao59 t214.length co59 : Value).ownBlock) (.slice Ao43 y191.length co43) y191) := ⟨uR (Kd.R_mono (Kd.R_far (p := ⟨gb221, 1, none⟩) (Kd.R_far (p := ⟨gb221, 0, none⟩) (Kd.R_types HO193.out BK221.out (by decide)) (fun _ hk => hk.2) (.slice Ao59 t214.length co59)) (fun _ hk => hk.2) (.int .i64 t217)) (fun _ hk => ⟨hk.1.1.1, ⟨hk.1.1.2.1, ⟨hk.1.1.2.2.1, ⟨hk.1.1.2.2.2.1, ⟨hk.1.1.2.2.2.2, hk.1.2⟩⟩⟩⟩⟩))⟩
              have n4_ : Aside0 (Kd.R (Kd.int .i64) 2 ((w58.setCell ⟨gb221, 0, none⟩ (.slice Ao59 t214.length co59)).setCell ⟨gb221, 1, none⟩ (.int .i64 t217)) w.heap.size (fun k_ => some k_ ≠ (.slice Ao31 y180.length co31 : Value).ownBlock ∧ some k_ ≠ (.slice Ao36 y184.length co36 : Value).ownBlock ∧ some k_ ≠ (.slice Ao43 y191.length co43 : Value).ownBlock ∧ some k_ ≠ (v203 : Value).ownBlock ∧ some k_ ≠ (.slice Ao52 t206.length co52 : Value).ownBlock ∧ some k_ ≠ (.slice Ao59 t214.length co59 : Value).ownBlock) (.slice Ao44 y194.length co44) y194) := ⟨uR (Kd.R_mono (Kd.R_far (p := ⟨gb221, 1, none⟩) (Kd.R_far (p := ⟨gb221, 0, none⟩) (Kd.R_types HO196.out BK221.out (by decide)) (fun _ hk => hk.2) (.slice Ao59 t214.length co59)) (fun _ hk => hk.2) (.int .i64 t217)) (fun _ hk => ⟨hk.1.1.1, ⟨hk.1.1.2.1, ⟨hk.1.1.2.2.1, ⟨hk.1.1.2.2.2.1, ⟨hk.1.1.2.2.2.2, hk.1.2⟩⟩⟩⟩⟩))⟩
              have n5_ : Aside0 (Kd.R fltK 84 ((w58.setCell ⟨gb221, 0, none⟩ (.slice Ao59 t214.length co59)).setCell ⟨gb221, 1, none⟩ (.int .i64 t217)) w.heap.size (fun k_ => some k_ ≠ (v189 : Value).ownBlock ∧ some k_ ≠ (v211 : Value).ownBlock ∧ some k_ ≠ (v219 : Value).ownBlock) v200 t199) := ⟨uR (Kd.R_mono (Kd.R_far (p := ⟨gb221, 1, none⟩) (Kd.R_far (p := ⟨gb221, 0, none⟩) (Kd.R_types HO201.out BK221.out (by decide)) (fun _ hk => hk.2) (.slice Ao59 t214.length co59)) (fun _ hk => hk.2) (.int .i64 t217)) (fun _ hk => ⟨hk.1.1.1, ⟨hk.1.1.2, hk.1.2⟩⟩))⟩
              have n6_ : Aside0 (Kd.R (Kd.int .i64) 2 ((w58.setCell ⟨gb221, 0, none⟩ (.slice Ao59 t214.length co59)).setCell ⟨gb221, 1, none⟩ (.int .i64 t217)) w.heap.size (fun k_ => some k_ ≠ (.slice Ao31 y180.length co31 : Value).ownBlock ∧ some k_ ≠ (.slice Ao36 y184.length co36 : Value).ownBlock ∧ some k_ ≠ (.slice Ao43 y191.length co43 : Value).ownBlock ∧ some k_ ≠ (.slice Ao44 y194.length co44 : Value).ownBlock ∧ some k_ ≠ (.slice Ao52 t206.length co52 : Value).ownBlock ∧ some k_ ≠ (.slice Ao59 t214.length co59 : Value).ownBlock) v203 t202) := ⟨uR (Kd.R_mono (Kd.R_far (p := ⟨gb221, 1, none⟩) (Kd.R_far (p := ⟨gb221, 0, none⟩) (Kd.R_types HO204.out BK221.out (by decide)) (fun _ hk => hk.2) (.slice Ao59 t214.length co59)) (fun _ hk => hk.2) (.int .i64 t217)) (fun _ hk => ⟨hk.1.1.1, ⟨hk.1.1.2.1, ⟨hk.1.1.2.2.1, ⟨hk.1.1.2.2.2.1, ⟨hk.1.1.2.2.2.2, hk.1.2⟩⟩⟩⟩⟩))⟩
              have n7_ : Aside0 (Kd.R (Kd.int .i64) 2 ((w58.setCell ⟨gb221, 0, none⟩ (.slice Ao59 t214.length co59)).setCell ⟨gb221, 1, none⟩ (.int .i64 t217)) w.heap.size (fun k_ => some k_ ≠ (.slice Ao31 y180.length co31 : Value).ownBlock ∧ some k_ ≠ (.slice Ao36 y184.length co36 : Value).ownBlock ∧ some k_ ≠ (.slice Ao43 y191.length co43 : Value).ownBlock ∧ some k_ ≠ (.slice Ao44 y194.length co44 : Value).ownBlock ∧ some k_ ≠ (v203 : Value).ownBlock ∧ some k_ ≠ (.slice Ao59 t214.length co59 : Value).ownBlock) (.slice Ao52 t206.length co52) t206) := ⟨uR (Kd.R_mono (Kd.R_far (p := ⟨gb221, 1, none⟩) (Kd.R_far (p := ⟨gb221, 0, none⟩) (Kd.R_types HO208.out BK221.out (by decide)) (fun _ hk => hk.2) (.slice Ao59 t214.length co59)) (fun _ hk => hk.2) (.int .i64 t217)) (fun _ hk => ⟨hk.1.1.1, ⟨hk.1.1.2.1, ⟨hk.1.1.2.2.1, ⟨hk.1.1.2.2.2.1, ⟨hk.1.1.2.2.2.2, hk.1.2⟩⟩⟩⟩⟩))⟩
              have n8_ : Aside0 (Kd.R fltK 84 ((w58.setCell ⟨gb221, 0, none⟩ (.slice Ao59 t214.length co59)).setCell ⟨gb221, 1, none⟩ (.int .i64 t217)) w.heap.size (fun k_ => some k_ ≠ (v189 : Value).ownBlock ∧ some k_ ≠ (v200 : Value).ownBlock ∧ some k_ ≠ (v219 : Value).ownBlock) v211 t210) := ⟨uR (Kd.R_mono (Kd.R_far (p := ⟨gb221, 1, none⟩) (Kd.R_far (p := ⟨gb221, 0, none⟩) (Kd.R_types HO212.out BK221.out (by decide)) (fun _ hk => hk.2) (.slice Ao59 t214.length co59)) (fun _ hk => hk.2) (.int .i64 t217)) (fun _ hk => ⟨hk.1.1.1, ⟨hk.1.1.2, hk.1.2⟩⟩))⟩
              have n9_ : Aside0 (Kd.R (Kd.int .i64) 2 ((w58.setCell ⟨gb221, 0, none⟩ (.slice Ao59 t214.length co59)).setCell ⟨gb221, 1, none⟩ (.int .i64 t217)) w.heap.size (fun k_ => some k_ ≠ (.slice Ao31 y180.length co31 : Value).ownBlock ∧ some k_ ≠ (.slice Ao36 y184.length co36 : Value).ownBlock ∧ some k_ ≠ (.slice Ao43 y191.length co43 : Value).ownBlock ∧ some k_ ≠ (.slice Ao44 y194.length co44 : Value).ownBlock ∧ some k_ ≠ (v203 : Value).ownBlock ∧ some k_ ≠ (.slice Ao52 t206.length co52 : Value).ownBlock) (.slice Ao59 t214.length co59) t214) := ⟨uR (Kd.R_mono (Kd.R_far (p := ⟨gb221, 1, none⟩) (Kd.R_far (p := ⟨gb221, 0, none⟩) (Kd.R_types HO216.out BK221.out (by decide)) (fun _ hk => hk.2) (.slice Ao59 t214.length co59)) (fun _ hk => hk.2) (.int .i64 t217)) (fun _ hk => ⟨hk.1.1.1.1.1.1.2, ⟨hk.1.1.1.1.1.2, ⟨hk.1.1.1.1.2, ⟨hk.1.1.1.2, ⟨hk.1.1.2, hk.1.2⟩⟩⟩⟩⟩))⟩
              have n10_ : Aside0 (Kd.R fltK 84 ((w58.setCell ⟨gb221, 0, none⟩ (.slice Ao59 t214.length co59)).setCell ⟨gb221, 1, none⟩ (.int .i64 t217)) w.heap.size (fun k_ => some k_ ≠ (v189 : Value).ownBlock ∧ some k_ ≠ (v200 : Value).ownBlock ∧ some k_ ≠ (v211 : Value).ownBlock) v219 t218) := ⟨uR (Kd.R_mono (Kd.R_far (p := ⟨gb221, 1, none⟩) (Kd.R_far (p := ⟨gb221, 0, none⟩) (Kd.R_types HO220.out BK221.out (by decide)) (fun _ hk => hk.2) (.slice Ao59 t214.length co59)) (fun _ hk => hk.2) (.int .i64 t217)) (fun _ hk => ⟨hk.1.1.1.2, ⟨hk.1.1.2, hk.1.2⟩⟩))⟩
              have n11_ : Aside0 (((w58.setCell ⟨gb221, 0, none⟩ (.slice Ao59 t214.length co59)).setCell ⟨gb221, 1, none⟩ (.int .i64 t217)).heap[gb183]? = some (.cells #[.slice Ao31 y180.length co31, .int .i64 (-5)] 24 (0, 0))) := ⟨by (with_reducible repeat (first | refine blk_drewN ?_ _ | refine blk_drew ?_ | refine blk_alloc ?_ _)); refine blk_far ?_ NB183_221.out _; (with_reducible repeat (first | refine blk_drewN ?_ _ | refine blk_drew ?_ | refine blk_alloc ?_ _)); refine blk_far ?_ NB183_221.out _; (with_reducible repeat (first | refine blk_drewN ?_ _ | refine blk_drew ?_ | refine blk_alloc ?_ _)); exact BK183.out⟩
              have n12_ : Aside0 (((w58.setCell ⟨gb221, 0, none⟩ (.slice Ao59 t214.length co59)).setCell ⟨gb221, 1, none⟩ (.int .i64 t217)).heap[gb213]? = some (.cells #[.slice Ao52 t206.length co52, .int .i64 t209] 24 (0, 0))) := ⟨by (with_reducible repeat (first | refine blk_drewN ?_ _ | refine blk_drew ?_ | refine blk_alloc ?_ _)); refine blk_far ?_ NB213_221.out _; (with_reducible repeat (first | refine blk_drewN ?_ _ | refine blk_drew ?_ | refine blk_alloc ?_ _)); refine blk_far ?_ NB213_221.out _; (with_reducible repeat (first | refine blk_drewN ?_ _ | refine blk_drew ?_ | refine blk_alloc ?_ _)); exact BK213.out⟩
              have n13_ : Aside0 (((w58.setCell ⟨gb221, 0, none⟩ (.slice Ao59 t214.length co59)).setCell ⟨gb221, 1, none⟩ (.int .i64 t217)).heap[gb221]? = some (.cells #[.slice Ao59 t214.length co59, .int .i64 t217] 24 (0, 0))) := ⟨by (with_reducible repeat (first | refine blk_drewN ?_ _ | refine blk_drew ?_ | refine blk_alloc ?_ _)); refine blk_put (cs := #[.slice Ao59 t214.length co59, .int .i64 0]) ?_ 1 _ rfl; (with_reducible repeat (first | refine blk_drewN ?_ _ | refine blk_drew ?_ | refine blk_alloc ?_ _)); refine blk_put (cs := #[.slice none 0 0, .int .i64 0]) ?_ 0 _ rfl; (with_reducible repeat (first | refine blk_drewN ?_ _ | refine blk_drew ?_ | refine blk_alloc ?_ _)); exact BK221.out⟩
              have n14_ : Aside0 (Below w.heap.size w ((w58.setCell ⟨gb221, 0, none⟩ (.slice Ao59 t214.length co59)).setCell ⟨gb221, 1, none⟩ (.int .i64 t217))) := ⟨by repeat (first | (with_reducible first | exact HB.out | apply bA | apply bN | apply bD | refine bS ?_ (by assumption)) | exact HB.out)⟩
              (try clear HO182)
              (try clear HO186)
              (try clear HO190)
              (try clear HO193)
              (try clear HO196)
              (try clear HO201)
              (try clear HO204)
              (try clear HO208)
              (try clear HO212)
              (try clear HO216)
              (try clear HO220)
              (try clear BK183)
              (try clear BK213)
              (try clear BK221)
              (try clear HB)
              generalize ((w58.setCell ⟨gb221, 0, none⟩ (.slice Ao59 t214.length co59)).setCell ⟨gb221, 1, none⟩ (.int .i64 t217)) = w63 at n0_ n1_ n2_ n3_ n4_ n5_ n6_ n7_ n8_ n9_ n10_ n11_ n12_ n13_ n14_ ⊢
              have HO182 := n0_
              have HO186 := n1_
              have HO190 := n2_
              have HO193 := n3_
              have HO196 := n4_
              have HO201 := n5_
              have HO204 := n6_
              have HO208 := n7_
              have HO212 := n8_
              have HO216 := n9_
              have HO220 := n10_
              have BK183 := n11_
              have BK213 := n12_
              have BK221 := n13_
              have HB := n14_
              clear n0_ n1_ n2_ n3_ n4_ n5_ n6_ n7_ n8_ n9_ n10_ n11_ n12_ n13_ n14_
              have n0_ := mk0 (Kd.R_drew HO182.out)
              have n1_ := mk0 (Kd.R_drew HO186.out)
              have n2_ := mk0 (Kd.R_drew HO190.out)
              have n3_ := mk0 (Kd.R_drew HO193.out)
              have n4_ := mk0 (Kd.R_drew HO196.out)
              have n5_ := mk0 (Kd.R_drew HO201.out)
              have n6_ := mk0 (Kd.R_drew HO204.out)
              have n7_ := mk0 (Kd.R_drew HO208.out)
              have n8_ := mk0 (Kd.R_drew HO212.out)
              have n9_ := mk0 (Kd.R_drew HO216.out)
              have n10_ := mk0 (Kd.R_drew HO220.out)
              have n11_ := mk0 (blk_drew BK183.out)
              have n12_ := mk0 (blk_drew BK213.out)
              have n13_ := mk0 (blk_drew BK221.out)
              have n14_ := mk0 (below_drew1 HB.out)
              clear HO182
              clear HO186
              clear HO190
              clear HO193
              clear HO196
              clear HO201
              clear HO204
              clear HO208
              clear HO212
              clear HO216
              clear HO220
              clear BK183
              clear BK213
              clear BK221
              clear HB
              have HO182 := n0_
              have HO186 := n1_
              have HO190 := n2_
              have HO193 := n3_
              have HO196 := n4_
              have HO201 := n5_
              have HO204 := n6_
              have HO208 := n7_
              have HO212 := n8_
              have HO216 := n9_
              have HO220 := n10_
              have BK183 := n11_
              have BK213 := n12_
              have BK221 := n13_
              have HB := n14_
              clear n0_ n1_ n2_ n3_ n4_ n5_ n6_ n7_ n8_ n9_ n10_ n11_ n12_ n13_ n14_
              refine start_ (n := 9) (S := fun w' => w'.cell? ⟨gb183, 0, none⟩ = some (.slice Ao31 y180.length co31) ∧ w'.cell? ⟨gb183, 1, none⟩ = some (.int .i64 (-5))) (ds := []) #[false, false, false, false, false, false, false, false, false] (by kernel_rfl) rfl rfl ⟨(blk_cell BK183.out 0).trans rfl, (blk_cell BK183.out 1).trans rfl⟩ (fun hHeld => ?_); refine with_tabW furrowlaw11_known.tab6 furrowlaw11_known.bits6 (fun HT_ HW_ => ?_)
              generalize w63.drew = w64 at HO182 HO186 HO190 HO193 HO196 HO201 HO204 HO208 HO212 HO216 HO220 BK183 BK213 BK221 HB hHeld ⊢
              refine take_ (i := 0) (N := some 41) (v := ?_) (a' := ?_) #[true, false, false, false, false, false, false, false, false] rfl rfl (take_ofW HT_.out HW_.out (by kernel_rfl)) (fun _ _ _ h => h) (Or.inl ⟨by rfl, ?_⟩) hHeld ?_ ?_
              rotate_left
              ·rintro w' ⟨s0, s1⟩
               go_simp
               with_reducible rfl
              rotate_left
              ·simp only [Act.put, List.setIfInBounds_toArray, List.set_cons_zero, List.set_cons_succ, i64_w, i32_w]
               rfl
              refine join_ (σ := Value × Value × Value × Nat) 2 #[true, true, true, true, true, true, true, false, false] (fun s_ => [(42, .agg #[s_.1, .int .i64 t225]), (43, .tuple #[.agg #[s_.2.1, .int .i64 t229], errV (s_.2.2.1)]), (11, .pointer (some ⟨s_.2.2.2, 0, none⟩)), (40, .tuple #[.agg #[s_.2.1, .int .i64 t229], errV s_.2.2.1]), (44, .agg #[s_.2.1, .int .i64 t229]), (45, errV s_.2.2.1)]) (fun s_ w' => (w'.cell? ⟨gb183, 0, none⟩ = some (.slice Ao31 y180.length co31) ∧ w'.cell? ⟨gb183, 1, none⟩ = some (.int .i64 (-5))) ∧ (Kd.R (Kd.int .i64) 2 w' w.heap.size (fun k_ => some k_ ≠ (.slice Ao36 y184.length co36 : Value).ownBlock ∧ some k_ ≠ (.slice Ao43 y191.length co43 : Value).ownBlock ∧ some k_ ≠ (.slice Ao44 y194.length co44 : Value).ownBlock ∧ some k_ ≠ (v203 : Value).ownBlock ∧ some k_ ≠ (.slice Ao52 t206.length co52 : Value).ownBlock ∧ some k_ ≠ (.slice Ao59 t214.length co59 : Value).ownBlock ∧ some k_ ≠ (s_.1 : Value).ownBlock ∧ some k_ ≠ (s_.2.1 : Value).ownBlock) (.slice Ao31 y180.length co31) y180) ∧ (Kd.R (Kd.int .i64) 2 w' w.heap.size (fun k_ => some k_ ≠ (.slice Ao31 y180.length co31 : Value).ownBlock ∧ some k_ ≠ (.slice Ao43 y191.length co43 : Value).ownBlock ∧ some k_ ≠ (.slice Ao44 y194.length co44 : Value).ownBlock ∧ some k_ ≠ (v203 : Value).ownBlock ∧ some k_ ≠ (.slice Ao52 t206.length co52 : Value).ownBlock ∧ some k_ ≠ (.slice Ao59 t214.length co59 : Value).ownBlock ∧ some k_ ≠ (s_.1 : Value).ownBlock ∧ some k_ ≠ (s_.2.1 : Value).ownBlock) (.slice Ao36 y184.length co36) y184) ∧ (Kd.R fltK 84 w' w.heap.size (fun k_ => some k_ ≠ (v200 : Value).ownBlock ∧ some k_ ≠ (v211 : Value).ownBlock ∧ some k_ ≠ (v219 : Value).ownBlock ∧ some k_ ≠ (s_.2.2.1 : Value).ownBlock) v189 t188) ∧ (Kd.R (Kd.int .i64) 2 w' w.heap.size (fun k_ => some k_ ≠ (.slice Ao31 y180.length co31 : Value).ownBlock ∧ some k_ ≠ (.slice Ao36 y184.length co36 : Value).ownBlock ∧ some k_ ≠ (.slice Ao44 y194.length co44 : Value).ownBlock ∧ some k_ ≠ (v203 : Value).ownBlock ∧ some k_ ≠ (.slice Ao52 t206.length co52 : Value).ownBlock ∧ some k_ ≠ (.slice Ao59 t214.length co59 : Value).ownBlock ∧ some k_ ≠ (s_.1 : Value).ownBlock ∧ some k_ ≠ (s_.2.1 : Value).ownBlock) (.slice Ao43 y191.length co43) y191) ∧ (Kd.R (Kd.int .i64) 2 w' w.heap.size (fun k_ => some k_ ≠ (.slice Ao31 y180.length co31 : Value).ownBlock ∧ some k_ ≠ (.slice Ao36 y184.length co36 : Value).ownBlock ∧ some k_ ≠ (.slice Ao43 y191.length co43 : Value).ownBlock ∧ some k_ ≠ (v203 : Value).ownBlock ∧ some k_ ≠ (.slice Ao52 t206.length co52 : Value).ownBlock ∧ some k_ ≠ (.slice Ao59 t214.length co59 : Value).ownBlock ∧ some k_ ≠ (s_.1 : Value).ownBlock ∧ some k_ ≠ (s_.2.1 : Value).ownBlock) (.slice Ao44 y194.length co44) y194) ∧ (Kd.R fltK 84 w' w.heap.size (fun k_ => some k_ ≠ (v189 : Value).ownBlock ∧ some k_ ≠ (v211 : Value).ownBlock ∧ some k_ ≠ (v219 : Value).ownBlock ∧ some k_ ≠ (s_.2.2.1 : Value).ownBlock) v200 t199) ∧ (Kd.R (Kd.int .i64) 2 w' w.heap.size (fun k_ => some k_ ≠ (.slice Ao31 y180.length co31 : Value).ownBlock ∧ some k_ ≠ (.slice Ao36 y184.length co36 : Value).ownBlock ∧ some k_ ≠ (.slice Ao43 y191.length co43 : Value).ownBlock ∧ some k_ ≠ (.slice Ao44 y194.length co44 : Value).ownBlock ∧ some k_ ≠ (.slice Ao52 t206.length co52 : Value).ownBlock ∧ some k_ ≠ (.slice Ao59 t214.length co59 : Value).ownBlock ∧ some k_ ≠ (s_.1 : Value).ownBlock ∧ some k_ ≠ (s_.2.1 : Value).ownBlock) v203 t202) ∧ (Kd.R (Kd.int .i64) 2 w' w.heap.size (fun k_ => some k_ ≠ (.slice Ao31 y180.length co31 : Value).ownBlock ∧ some k_ ≠ (.slice Ao36 y184.length co36 : Value).ownBlock ∧ some k_ ≠ (.slice Ao43 y191.length co43 : Value).ownBlock ∧ some k_ ≠ (.slice Ao44 y194.length co44 : Value).ownBlock ∧ some k_ ≠ (v203 : Value).ownBlock ∧ some k_ ≠ (.slice Ao59 t214.length co59 : Value).ownBlock ∧ some k_ ≠ (s_.1 : Value).ownBlock ∧ some k_ ≠ (s_.2.1 : Value).ownBlock) (.slice Ao52 t206.length co52) t206) ∧ (Kd.R fltK 84 w' w.heap.size (fun k_ => some k_ ≠ (v189 : Value).ownBlock ∧ some k_ ≠ (v200 : Value).ownBlock ∧ some k_ ≠ (v219 : Value).ownBlock ∧ some k_ ≠ (s_.2.2.1 : Value).ownBlock) v211 t210) ∧ (Kd.R (Kd.int .i64) 2 w' w.heap.size (fun k_ => some k_ ≠ (.slice Ao31 y180.length co31 : Value).ownBlock ∧ some k_ ≠ (.slice Ao36 y184.length co36 : Value).ownBlock ∧ some k_ ≠ (.slice Ao43 y191.length co43 : Value).ownBlock ∧ some k_ ≠ (.slice Ao44 y194.length co44 : Value).ownBlock ∧ some k_ ≠ (v203 : Value).ownBlock ∧ some k_ ≠ (.slice Ao52 t206.length co52 : Value).ownBlock ∧ some k_ ≠ (s_.1 : Value).ownBlock ∧ some k_ ≠ (s_.2.1 : Value).ownBlock) (.slice Ao59 t214.length co59) t214) ∧ (Kd.R fltK 84 w' w.heap.size (fun k_ => some k_ ≠ (v189 : Value).ownBlock ∧ some k_ ≠ (v200 : Value).ownBlock ∧ some k_ ≠ (v211 : Value).ownBlock ∧ some k_ ≠ (s_.2.2.1 : Value).ownBlock) v219 t218) ∧ (Kd.R (Kd.int .i64) 2 w' w.heap.size (fun k_ => some k_ ≠ (.slice Ao31 y180.length co31 : Value).ownBlock ∧ some k_ ≠ (.slice Ao36 y184.length co36 : Value).ownBlock ∧ some k_ ≠ (.slice Ao43 y191.length co43 : Value).ownBlock ∧ some k_ ≠ (.slice Ao44 y194.length co44 : Value).ownBlock ∧ some k_ ≠ (v203 : Value).ownBlock ∧ some k_ ≠ (.slice Ao52 t206.length co52 : Value).ownBlock ∧ some k_ ≠ (.slice Ao59 t214.length co59 : Value).ownBlock ∧ some k_ ≠ (s_.2.1 : Value).ownBlock) s_.1 t222) ∧ (Kd.R (Kd.int .i64) 2 w' w.heap.size (fun k_ => some k_ ≠ (.slice Ao31 y180.length co31 : Value).ownBlock ∧ some k_ ≠ (.slice Ao36 y184.length co36 : Value).ownBlock ∧ some k_ ≠ (.slice Ao43 y191.length co43 : Value).ownBlock ∧ some k_ ≠ (.slice Ao44 y194.length co44 : Value).ownBlock ∧ some k_ ≠ (v203 : Value).ownBlock ∧ some k_ ≠ (.slice Ao52 t206.length co52 : Value).ownBlock ∧ some k_ ≠ (.slice Ao59 t214.length co59 : Value).ownBlock ∧ some k_ ≠ (s_.1 : Value).ownBlock) s_.2.1 t226) ∧ (Kd.R fltK 84 w' w.heap.size (fun k_ => some k_ ≠ (v189 : Value).ownBlock ∧ some k_ ≠ (v200 : Value).ownBlock ∧ some k_ ≠ (v211 : Value).ownBlock ∧ some k_ ≠ (v219 : Value).ownBlock) s_.2.2.1 t230) ∧ (w'.heap[gb183]? = some (.cells #[.slice Ao31 y180.length co31, .int .i64 (-5)] 24 (0, 0))) ∧ (w'.heap[gb213]? = some (.cells #[.slice Ao52 t206.length co52, .int .i64 t209] 24 (0, 0))) ∧ (w'.heap[gb221]? = some (.cells #[.slice Ao59 t214.length co59, .int .i64 t217] 24 (0, 0))) ∧ (w'.heap[s_.2.2.2]? = some (.cells #[.slice none 0 0, .int .i64 0] 24 (0, 0))) ∧ (w.heap.size ≤ s_.2.2.2) ∧ (w.heap.size ≤ s_.2.2.2) ∧ (gb183 ≠ s_.2.2.2) ∧ (s_.2.2.2 ≠ gb183) ∧ (gb213 ≠ s_.2.2.2) ∧ (s_.2.2.2 ≠ gb213) ∧ (gb221 ≠ s_.2.2.2) ∧ (s_.2.2.2 ≠ gb221) ∧ (Below w.heap.size w w')) ?_ ?_
              rotate_left
              ·intro hCont
               refine two_ (i := 1) (j := 6) (Ni := some 42) (Nj := some 11) #[true, true, false, false, false, false, false, false, false] #[true, false, false, false, false, false, true, false, false] rfl rfl rfl rfl (two_of HT_.out (by kernel_rfl)) (by decide) (by decide) (fun K hK => ?_) (fun K hK => ?_)
               ·skip
                refine goes_ Tryd.func23 (by kernel_rfl) rfl #[.int .i64 2, .int .i64 1] (by rfl) rfl rfl (by (try simp only [List.map_toArray, List.map_cons, List.map_nil]); first | done | rfl | (simp only [List.length_drop, List.length_take]; rfl)) ?_
                with_reducible refine (lin_Const.calls 2 1 t222 t225 _ A6.out).mono ?_
                rintro e w65 ⟨v223, rfl, ho0, hb⟩
                refine ⟨_, rfl, ?_⟩
                have n0_ := mk0 (Kd.R_elder' (uR HO182.out) (Kd.R_base ho0) hb)
                have n1_ := mk0 (Kd.R_elder' (uR HO186.out) (Kd.R_base ho0) hb)
                have n2_ := mk0 (Kd.R_below (uR HO190.out) hb)
                have n3_ := mk0 (Kd.R_elder' (uR HO193.out) (Kd.R_base ho0) hb)
                have n4_ := mk0 (Kd.R_elder' (uR HO196.out) (Kd.R_base ho0) hb)
                have n5_ := mk0 (Kd.R_below (uR HO201.out) hb)
                have n6_ := mk0 (Kd.R_elder' (uR HO204.out) (Kd.R_base ho0) hb)
                have n7_ := mk0 (Kd.R_elder' (uR HO208.out) (Kd.R_base ho0) hb)
                have n8_ := mk0 (Kd.R_below (uR HO212.out) hb)
                have n9_ := mk0 (Kd.R_elder' (uR HO216.out) (Kd.R_base ho0) hb)
                have n10_ := mk0 (Kd.R_below (uR HO220.out) hb)
                have n11_ := mk0 (Kd.R_lower (Kd.R_new' (Kd.R_new' (Kd.R_new' (Kd.R_new' (Kd.R_new' (Kd.R_new' (Kd.R_new' ho0 (Kd.R_lt (uR HO182.out))) (Kd.R_lt (uR HO186.out))) (Kd.R_lt (uR HO193.out))) (Kd.R_lt (uR HO196.out))) (Kd.R_lt (uR HO204.out))) (Kd.R_lt (uR HO208.out))) (Kd.R_lt (uR HO216.out))) (below_size (by repeat (first | (with_reducible first | exact HB.out | apply bA | apply bN | apply bD | refine bS ?_ (by assumption)) | exact HB.out))))
                have n12_ := mk0 (blk_below (g := gb183) (o := .cells #[.slice Ao31 y180.length co31, .int .i64 (-5)] 24 (0, 0)) (uB BK183.out) hb)
                have n13_ := mk0 (blk_below (g := gb213) (o := .cells #[.slice Ao52 t206.length co52, .int .i64 t209] 24 (0, 0)) (uB BK213.out) hb)
                have n14_ := mk0 (blk_below (g := gb221) (o := .cells #[.slice Ao59 t214.length co59, .int .i64 t217] 24 (0, 0)) (uB BK221.out) hb)
                have n15_ := mk0 (below_step (by repeat (first | (with_reducible first | exact HB.out | apply bA | apply bN | apply bD | refine bS ?_ (by assumption)) | exact HB.out)) hb)
                clear HO182
                clear HO186
                clear HO190
                clear HO193
                clear HO196
                clear HO201
                clear HO204
                clear HO208
                clear HO212
                clear HO216
                clear HO220
                clear BK183
                clear BK213
                clear BK221
                clear HB
                have HO182 := n0_
                have HO186 := n1_
                have HO190 := n2_
                have HO193 := n3_
                have HO196 := n4_
                have HO201 := n5_
                have HO204 := n6_
                have HO208 := n7_
                have HO212 := n8_
                have HO216 := n9_
                have HO220 := n10_
                have HO224 := n11_
                have BK183 := n12_
                have BK213 := n13_
                have BK221 := n14_
                have HB := n15_
                clear n0_ n1_ n2_ n3_ n4_ n5_ n6_ n7_ n8_ n9_ n10_ n11_ n12_ n13_ n14_ n15_
                (try clear hb)
                (try clear hb2)
                (try clear hk)
                (try clear hi)
                (try clear ho0)
                obtain ⟨Ao66, co66, eo66⟩ := Kd.R_slice HO224.out
                (first | subst eo66 | (injection eo66 with f1_ f2_ f3_; have f4_ := f1_.symm; have f5_ := f3_.symm; clear f1_ f2_ f3_; subst f4_; subst f5_))
                refine hK.out _ _ ⟨(blk_cell BK183.out 0).trans rfl, (blk_cell BK183.out 1).trans rfl⟩ (fun hHeld => ?_)
                clear hK K
                refine norm_ (a' := ?_) ?_ ?_
                rotate_left
                ·show Act.put _ (some 42) _ = _
                 simp only [Act.put, List.setIfInBounds_toArray, List.set_cons_zero, List.set_cons_succ, i64_w, i32_w]
                 rfl
                refine two_ (i := 2) (j := 6) (Ni := some 43) (Nj := some 11) #[true, true, true, false, false, false, false, false, false] #[true, true, false, false, false, false, true, false, false] rfl rfl rfl rfl (two_of HT_.out (by kernel_rfl)) (by decide) (by decide) (fun K hK => ?_) (fun K hK => ?_)
                ·skip
                 refine goes_ Tryd.func11 (by kernel_rfl) rfl #[.agg #[.slice Ao31 y180.length co31, .int .i64 (-5)], .agg #[.slice Ao66 t222.length co66, .int .i64 t225]] (by rfl) rfl rfl (by (try simp only [List.map_toArray, List.map_cons, List.map_nil]); first | done | rfl | (simp only [List.length_drop, List.length_take]; rfl)) ?_
                 with_reducible refine (lin_Add.calls _ _ y180 (-5) _ _ t222 t225 t226 t229 t230 _ ?side1 ?side2 ?side3 ?side4 A7.out).mono ?_
                 (case side1 => repeat (first | exact (Kd.R_reads' HO182.out).2.2 | (with_reducible refine Kd.C_alloc ?_ _) | (with_reducible refine Kd.C_drewN ?_ _) | (with_reducible refine Kd.C_drew ?_)))
                 (case side2 => exact (Kd.R_reads' HO182.out).2.1)
                 (case side3 => repeat (first | exact (Kd.R_reads' HO224.out).2.2 | (with_reducible refine Kd.C_alloc ?_ _) | (with_reducible refine Kd.C_drewN ?_ _) | (with_reducible refine Kd.C_drew ?_)))
                 (case side4 => exact (Kd.R_reads' HO224.out).2.1)
                 rintro e w67 ⟨v227, v231, rfl, ho0, ho1, hb⟩
                 refine ⟨_, rfl, ?_⟩
                 have n0_ := mk0 (Kd.R_elder' (uR HO182.out) (Kd.R_base ho0) hb)
                 have n1_ := mk0 (Kd.R_elder' (uR HO186.out) (Kd.R_base ho0) hb)
                 have n2_ := mk0 (Kd.R_elder' (uR HO190.out) (Kd.R_base ho1) hb)
                 have n3_ := mk0 (Kd.R_elder' (uR HO193.out) (Kd.R_base ho0) hb)
                 have n4_ := mk0 (Kd.R_elder' (uR HO196.out) (Kd.R_base ho0) hb)
                 have n5_ := mk0 (Kd.R_elder' (uR HO201.out) (Kd.R_base ho1) hb)
                 have n6_ := mk0 (Kd.R_elder' (uR HO204.out) (Kd.R_base ho0) hb)
                 have n7_ := mk0 (Kd.R_elder' (uR HO208.out) (Kd.R_base ho0) hb)
                 have n8_ := mk0 (Kd.R_elder' (uR HO212.out) (Kd.R_base ho1) hb)
                 have n9_ := mk0 (Kd.R_elder' (uR HO216.out) (Kd.R_base ho0) hb)
                 have n10_ := mk0 (Kd.R_elder' (uR HO220.out) (Kd.R_base ho1) hb)
                 have n11_ := mk0 (Kd.R_elder' (uR HO224.out) (Kd.R_base ho0) hb)
                 have n12_ := mk0 (Kd.R_lower (Kd.R_new' (Kd.R_new' (Kd.R_new' (Kd.R_new' (Kd.R_new' (Kd.R_new' (Kd.R_new' (Kd.R_new' ho0 (Kd.R_lt (uR HO182.out))) (Kd.R_lt (uR HO186.out))) (Kd.R_lt (uR HO193.out))) (Kd.R_lt (uR HO196.out))) (Kd.R_lt (uR HO204.out))) (Kd.R_lt (uR HO208.out))) (Kd.R_lt (uR HO216.out))) (Kd.R_lt (uR HO224.out))) (below_size (by repeat (first | (with_reducible first | exact HB.out | apply bA | apply bN | apply bD | refine bS ?_ (by assumption)) | exact HB.out))))
                 have n13_ := mk0 (Kd.R_lower (Kd.R_new' (Kd.R_new' (Kd.R_new' (Kd.R_new' ho1 (Kd.R_lt (uR HO190.out))) (Kd.R_lt (uR HO201.out))) (Kd.R_lt (uR HO212.out))) (Kd.R_lt (uR HO220.out))) (below_size (by repeat (first | (with_reducible first | exact HB.out | apply bA | apply bN | apply bD | refine bS ?_ (by assumption)) | exact HB.out))))
                 have n14_ := mk0 (blk_below (g := gb183) (o := .cells #[.slice Ao31 y180.length co31, .int .i64 (-5)] 24 (0, 0)) (uB BK183.out) hb)
                 have n15_ := mk0 (blk_below (g := gb213) (o := .cells #[.slice Ao52 t206.length co52, .int .i64 t209] 24 (0, 0)) (uB BK213.out) hb)
                 have n16_ := mk0 (blk_below (g := gb221) (o := .cells #[.slice Ao59 t214.length co59, .int .i64 t217] 24 (0, 0)) (uB BK221.out) hb)
                 have n17_ := mk0 (below_step (by repeat (first | (with_reducible first | exact HB.out | apply bA | apply bN | apply bD | refine bS ?_ (by assumption)) | exact HB.out)) hb)
                 clear HO182
                 clear HO186
                 clear HO190
                 clear HO193
                 clear HO196
                 clear HO201
                 clear HO204
                 clear HO208
                 clear HO212
                 clear HO216
                 clear HO220
                 clear HO224
                 clear BK183
                 clear BK213
                 clear BK221
                 clear HB
                 have HO182 := n0_
                 have HO186 := n1_
                 have HO190 := n2_
                 have HO193 := n3_
                 have HO196 := n4_
                 have HO201 := n5_
                 have HO204 := n6_
                 have HO208 := n7_
                 have HO212 := n8_
                 have HO216 := n9_
                 have HO220 := n10_
                 have HO224 := n11_
                 have HO228 := n12_
                 have HO232 := n13_
                 have BK183 := n14_
                 have BK213 := n15_
                 have BK221 := n16_
                 have HB := n17_
                 clear n0_ n1_ n2_ n3_ n4_ n5_ n6_ n7_ n8_ n9_ n10_ n11_ n12_ n13_ n14_ n15_ n16_ n17_
                 (try clear hb)
                 (try clear hb2)
                 (try clear hk)
                 (try clear hi)
                 (try clear ho0)
                 (try clear ho1)
                 (first | (have EHO232 := cmpV_no HO232.out (by with_reducible assumption)) | (have EHO232 := cmpV_yes HO232.out (by with_reducible assumption)) | skip)
                 refine hK.out _ _ ⟨(blk_cell BK183.out 0).trans rfl, (blk_cell BK183.out 1).trans rfl⟩ (fun hHeld => ?_)
                 clear hK K
                 refine norm_ (a' := ?_) ?_ ?_
                 rotate_left
                 ·show Act.put _ (some 43) _ = _
                  simp only [Act.put, List.setIfInBounds_toArray, List.set_cons_zero, List.set_cons_succ, i64_w, i32_w]
                  rfl
                 refine pure_ (i := 3) (N := some 40) (v := ?_) (a' := ?_) #[true, true, true, true, false, false, false, false, false] rfl rfl (any_of HT_.out (by kernel_rfl)) (fun _ _ _ h => h) (Or.inl ⟨by rfl, ?_⟩) ?_ ?_
                 rotate_left
                 ·intro w'
                  go_simp
                  with_reducible rfl
                 rotate_left
                 ·simp only [Act.put, List.setIfInBounds_toArray, List.set_cons_zero, List.set_cons_succ, i64_w, i32_w]
                  rfl
                 refine pure_ (i := 4) (N := some 44) (v := ?_) (a' := ?_) #[true, true, true, true, true, false, false, false, false] rfl rfl (any_of HT_.out (by kernel_rfl)) (fun _ _ _ h => h) (Or.inl ⟨by rfl, ?_⟩) ?_ ?_
                 rotate_left
                 ·intro w'
                  go_simp
                  with_reducible rfl
                 rotate_left
                 ·simp only [Act.put, List.setIfInBounds_toArray, List.set_cons_zero, List.set_cons_succ, i64_w, i32_w]
                  rfl
                 refine pure_ (i := 5) (N := some 45) (v := ?_) (a' := ?_) #[true, true, true, true, true, true, false, false, false] rfl rfl (any_of HT_.out (by kernel_rfl)) (fun _ _ _ h => h) (Or.inl ⟨by rfl, ?_⟩) ?_ ?_
                 rotate_left
                 ·intro w'
                  go_simp
                  with_reducible rfl
                 rotate_left
                 ·simp only [Act.put, List.setIfInBounds_toArray, List.set_cons_zero, List.set_cons_succ, i64_w, i32_w]
                  rfl
                 refine one_ (i := 6) (N := some 11) #[true, true, true, true, true, true, true, false, false] rfl rfl (one_of HT_.out (by kernel_rfl)) (by decide) (fun K hK => ?_)
                 refine box_step ?hg (N := 11) ?hd (cs := #[.slice none 0 0, .int .i64 0]) (t := 24) ?hr ?_; (case hd => rfl); (case hg => rfl); (case hr => first | (go_simp; done) | (go_simp; rfl))
                 intro gb233 hg w68 hbox hb
                 have n0_ := mk0 (Kd.R_below (uR HO182.out) hb)
                 have n1_ := mk0 (Kd.R_below (uR HO186.out) hb)
                 have n2_ := mk0 (Kd.R_below (uR HO190.out) hb)
                 have n3_ := mk0 (Kd.R_below (uR HO193.out) hb)
                 have n4_ := mk0 (Kd.R_below (uR HO196.out) hb)
                 have n5_ := mk0 (Kd.R_below (uR HO201.out) hb)
                 have n6_ := mk0 (Kd.R_below (uR HO204.out) hb)
                 have n7_ := mk0 (Kd.R_below (uR HO208.out) hb)
                 have n8_ := mk0 (Kd.R_below (uR HO212.out) hb)
                 have n9_ := mk0 (Kd.R_below (uR HO216.out) hb)
                 have n10_ := mk0 (Kd.R_below (uR HO220.out) hb)
                 have n11_ := mk0 (Kd.R_below (uR HO224.out) hb)
                 have n12_ := mk0 (Kd.R_below (uR HO228.out) hb)
                 have n13_ := mk0 (Kd.R_below (uR HO232.out) hb)
                 have n14_ := mk0 (blk_below (g := gb183) (o := .cells #[.slice Ao31 y180.length co31, .int .i64 (-5)] 24 (0, 0)) (uB BK183.out) hb)
                 have n15_ := mk0 (blk_below (g := gb213) (o := .cells #[.slice Ao52 t206.length co52, .int .i64 t209] 24 (0, 0)) (uB BK213.out) hb)
                 have n16_ := mk0 (blk_below (g := gb221) (o := .cells #[.slice Ao59 t214.length co59, .int .i64 t217] 24 (0, 0)) (uB BK221.out) hb)
                 have n17_ := mk0 (below_step (by repeat (first | (with_reducible first | exact HB.out | apply bA | apply bN | apply bD | refine bS ?_ (by assumption)) | exact HB.out)) hb)
                 have n18_ := mk0 (hbox)
                 have n19_ := mk0 ((by rw [hg]; exact (below_size (by repeat (first | (with_reducible first | exact HB.out | apply bA | apply bN | apply bD | refine bS ?_ (by assumption)) | exact HB.out))) : w.heap.size ≤ gb233))
                 have n20_ := mk0 ((by rw [hg]; exact (below_size (by repeat (first | (with_reducible first | exact HB.out | apply bA | apply bN | apply bD | refine bS ?_ (by assumption)) | exact HB.out))) : w.heap.size ≤ gb233))
                 have n21_ := mk0 ((by rw [hg]; exact Nat.ne_of_lt (blk_lt (g := gb183) (o := .cells #[.slice Ao31 y180.length co31, .int .i64 (-5)] 24 (0, 0)) (uB BK183.out)) : gb183 ≠ gb233))
                 have n22_ := mk0 ((by rw [hg]; exact Nat.ne_of_gt (blk_lt (g := gb183) (o := .cells #[.slice Ao31 y180.length co31, .int .i64 (-5)] 24 (0, 0)) (uB BK183.out)) : gb233 ≠ gb183))
                 have n23_ := mk0 ((by rw [hg]; exact Nat.ne_of_lt (blk_lt (g := gb213) (o := .cells #[.slice Ao52 t206.length co52, .int .i64 t209] 24 (0, 0)) (uB BK213.out)) : gb213 ≠ gb233))
                 have n24_ := mk0 ((by rw [hg]; exact Nat.ne_of_gt (blk_lt (g := gb213) (o := .cells #[.slice Ao52 t206.length co52, .int .i64 t209] 24 (0, 0)) (uB BK213.out)) : gb233 ≠ gb213))
                 have n25_ := mk0 ((by rw [hg]; exact Nat.ne_of_lt (blk_lt (g := gb221) (o := .cells #[.slice Ao59 t214.length co59, .int .i64 t217] 24 (0, 0)) (uB BK221.out)) : gb221 ≠ gb233))
                 have n26_ := mk0 ((by rw [hg]; exact Nat.ne_of_gt (blk_lt (g := gb221) (o := .cells #[.slice Ao59 t214.length co59, .int .i64 t217] 24 (0, 0)) (uB BK221.out)) : gb233 ≠ gb221))
                 clear HO182
                 clear HO186
                 clear HO190
                 clear HO193
                 clear HO196
                 clear HO201
                 clear HO204
                 clear HO208
                 clear HO212
                 clear HO216
                 clear HO220
                 clear HO224
                 clear HO228
                 clear HO232
                 clear BK183
                 clear BK213
                 clear BK221
                 clear HB
                 have HO182 := n0_
                 have HO186 := n1_
                 have HO190 := n2_
                 have HO193 := n3_
                 have HO196 := n4_
                 have HO201 := n5_
                 have HO204 := n6_
                 have HO208 := n7_
                 have HO212 := n8_
                 have HO216 := n9_
                 have HO220 := n10_
                 have HO224 := n11_
                 have HO228 := n12_
                 have HO232 := n13_
                 have BK183 := n14_
                 have BK213 := n15_
                 have BK221 := n16_
                 have HB := n17_
                 have BK233 := n18_
                 have GW233 := n19_
                 have GE233 := n20_
                 have NB183_233 := n21_
                 have NB233_183 := n22_
                 have NB213_233 := n23_
                 have NB233_213 := n24_
                 have NB221_233 := n25_
                 have NB233_221 := n26_
                 clear n0_ n1_ n2_ n3_ n4_ n5_ n6_ n7_ n8_ n9_ n10_ n11_ n12_ n13_ n14_ n15_ n16_ n17_ n18_ n19_ n20_ n21_ n22_ n23_ n24_ n25_ n26_
                 clear hb hbox hg
                 refine hK.out _ _ ⟨(blk_cell BK183.out 0).trans rfl, (blk_cell BK183.out 1).trans rfl⟩ (fun hHeld => ?_)
                 clear hK K
                 refine norm_ (a' := ?_) ?_ ?_
                 rotate_left
                 ·show Act.put _ (some 11) _ = _
                  simp only [Act.put, List.setIfInBounds_toArray, List.set_cons_zero, List.set_cons_succ, i64_w, i32_w]
                  rfl
                 exact norm_ (by first | (simp only [putAll, Act.put, List.setIfInBounds_toArray, List.set_cons_zero, List.set_cons_succ]; done) | (simp only [putAll, Act.put, List.setIfInBounds_toArray, List.set_cons_zero, List.set_cons_succ, *]; done)) (hCont (.slice Ao66 t222.length co66, v227, v231, gb233) _ ⟨hHeld, (uR (Kd.R_mono HO182.out (fun _ hk => ⟨hk.1.1.1, ⟨hk.1.1.2.1, ⟨hk.1.1.2.2.1, ⟨hk.1.1.2.2.2.1, ⟨hk.1.1.2.2.2.2.1, ⟨hk.1.1.2.2.2.2.2, ⟨hk.1.2, hk.2⟩⟩⟩⟩⟩⟩⟩))), (uR (Kd.R_mono HO186.out (fun _ hk => ⟨hk.1.1.1, ⟨hk.1.1.2.1, ⟨hk.1.1.2.2.1, ⟨hk.1.1.2.2.2.1, ⟨hk.1.1.2.2.2.2.1, ⟨hk.1.1.2.2.2.2.2, ⟨hk.1.2, hk.2⟩⟩⟩⟩⟩⟩⟩))), (uR (Kd.R_mono HO190.out (fun _ hk => ⟨hk.1.1, ⟨hk.1.2.1, ⟨hk.1.2.2, hk.2⟩⟩⟩))), (uR (Kd.R_mono HO193.out (fun _ hk => ⟨hk.1.1.1, ⟨hk.1.1.2.1, ⟨hk.1.1.2.2.1, ⟨hk.1.1.2.2.2.1, ⟨hk.1.1.2.2.2.2.1, ⟨hk.1.1.2.2.2.2.2, ⟨hk.1.2, hk.2⟩⟩⟩⟩⟩⟩⟩))), (uR (Kd.R_mono HO196.out (fun _ hk => ⟨hk.1.1.1, ⟨hk.1.1.2.1, ⟨hk.1.1.2.2.1, ⟨hk.1.1.2.2.2.1, ⟨hk.1.1.2.2.2.2.1, ⟨hk.1.1.2.2.2.2.2, ⟨hk.1.2, hk.2⟩⟩⟩⟩⟩⟩⟩))), (uR (Kd.R_mono HO201.out (fun _ hk => ⟨hk.1.1, ⟨hk.1.2.1, ⟨hk.1.2.2, hk.2⟩⟩⟩))), (uR (Kd.R_mono HO204.out (fun _ hk => ⟨hk.1.1.1, ⟨hk.1.1.2.1, ⟨hk.1.1.2.2.1, ⟨hk.1.1.2.2.2.1, ⟨hk.1.1.2.2.2.2.1, ⟨hk.1.1.2.2.2.2.2, ⟨hk.1.2, hk.2⟩⟩⟩⟩⟩⟩⟩))), (uR (Kd.R_mono HO208.out (fun _ hk => ⟨hk.1.1.1, ⟨hk.1.1.2.1, ⟨hk.1.1.2.2.1, ⟨hk.1.1.2.2.2.1, ⟨hk.1.1.2.2.2.2.1, ⟨hk.1.1.2.2.2.2.2, ⟨hk.1.2, hk.2⟩⟩⟩⟩⟩⟩⟩))), (uR (Kd.R_mono HO212.out (fun _ hk => ⟨hk.1.1, ⟨hk.1.2.1, ⟨hk.1.2.2, hk.2⟩⟩⟩))), (uR (Kd.R_mono HO216.out (fun _ hk => ⟨hk.1.1.1, ⟨hk.1.1.2.1, ⟨hk.1.1.2.2.1, ⟨hk.1.1.2.2.2.1, ⟨hk.1.1.2.2.2.2.1, ⟨hk.1.1.2.2.2.2.2, ⟨hk.1.2, hk.2⟩⟩⟩⟩⟩⟩⟩))), (uR (Kd.R_mono HO220.out (fun _ hk => ⟨hk.1.1, ⟨hk.1.2.1, ⟨hk.1.2.2, hk.2⟩⟩⟩))), (uR (Kd.R_mono HO224.out (fun _ hk => ⟨hk.1.1.1.1.1.1.1.2, ⟨hk.1.1.1.1.1.1.2, ⟨hk.1.1.1.1.1.2, ⟨hk.1.1.1.1.2, ⟨hk.1.1.1.2, ⟨hk.1.1.2, ⟨hk.1.2, hk.2⟩⟩⟩⟩⟩⟩⟩))), (uR (Kd.R_mono HO228.out (fun _ hk => ⟨hk.1.1.1.1.1.1.1.2, ⟨hk.1.1.1.1.1.1.2, ⟨hk.1.1.1.1.1.2, ⟨hk.1.1.1.1.2, ⟨hk.1.1.1.2, ⟨hk.1.1.2, ⟨hk.1.2, hk.2⟩⟩⟩⟩⟩⟩⟩))), (uR (Kd.R_mono HO232.out (fun _ hk => ⟨hk.1.1.1.2, ⟨hk.1.1.2, ⟨hk.1.2, hk.2⟩⟩⟩))), (uB BK183.out), (uB BK213.out), (uB BK221.out), (uB BK233.out), GW233.out, GE233.out, NB183_233.out, NB233_183.out, NB213_233.out, NB233_213.out, NB221_233.out, NB233_221.out, (by repeat (first | (with_reducible first | exact HB.out | apply bA | apply bN | apply bD | refine bS ?_ (by assumption)) | exact HB.out))⟩)
                ·skip
                 refine box_step ?hg (N := 11) ?hd (cs := #[.slice none 0 0, .int .i64 0]) (t := 24) ?hr ?_; (case hd => rfl); (case hg => rfl); (case hr => first | (go_simp; done) | (go_simp; rfl))
                 intro gb233 hg w66 hbox hb
                 have n0_ := mk0 (Kd.R_below (uR HO182.out) hb)
                 have n1_ := mk0 (Kd.R_below (uR HO186.out) hb)
                 have n2_ := mk0 (Kd.R_below (uR HO190.out) hb)
                 have n3_ := mk0 (Kd.R_below (uR HO193.out) hb)
                 have n4_ := mk0 (Kd.R_below (uR HO196.out) hb)
                 have n5_ := mk0 (Kd.R_below (uR HO201.out) hb)
                 have n6_ := mk0 (Kd.R_below (uR HO204.out) hb)
                 have n7_ := mk0 (Kd.R_below (uR HO208.out) hb)
                 have n8_ := mk0 (Kd.R_below (uR HO212.out) hb)
                 have n9_ := mk0 (Kd.R_below (uR HO216.out) hb)
                 have n10_ := mk0 (Kd.R_below (uR HO220.out) hb)
                 have n11_ := mk0 (Kd.R_below (uR HO224.out) hb)
                 have n12_ := mk0 (blk_below (g := gb183) (o := .cells #[.slice Ao31 y180.length co31, .int .i64 (-5)] 24 (0, 0)) (uB BK183.out) hb)
                 have n13_ := mk0 (blk_below (g := gb213) (o := .cells #[.slice Ao52 t206.length co52, .int .i64 t209] 24 (0, 0)) (uB BK213.out) hb)
                 have n14_ := mk0 (blk_below (g := gb221) (o := .cells #[.slice Ao59 t214.length co59, .int .i64 t217] 24 (0, 0)) (uB BK221.out) hb)
                 have n15_ := mk0 (below_step (by repeat (first | (with_reducible first | exact HB.out | apply bA | apply bN | apply bD | refine bS ?_ (by assumption)) | exact HB.out)) hb)
                 have n16_ := mk0 (hbox)
                 have n17_ := mk0 ((by rw [hg]; exact (below_size (by repeat (first | (with_reducible first | exact HB.out | apply bA | apply bN | apply bD | refine bS ?_ (by assumption)) | exact HB.out))) : w.heap.size ≤ gb233))
                 have n18_ := mk0 ((by rw [hg]; exact (below_size (by repeat (first | (with_reducible first | exact HB.out | apply bA | apply bN | apply bD | refine bS ?_ (by assumption)) | exact HB.out))) : w.heap.size ≤ gb233))
                 have n19_ := mk0 ((by rw [hg]; exact Nat.ne_of_lt (blk_lt (g := gb183) (o := .cells #[.slice Ao31 y180.length co31, .int .i64 (-5)] 24 (0, 0)) (uB BK183.out)) : gb183 ≠ gb233))
                 have n20_ := mk0 ((by rw [hg]; exact Nat.ne_of_gt (blk_lt (g := gb183) (o := .cells #[.slice Ao31 y180.length co31, .int .i64 (-5)] 24 (0, 0)) (uB BK183.out)) : gb233 ≠ gb183))
                 have n21_ := mk0 ((by rw [hg]; exact Nat.ne_of_lt (blk_lt (g := gb213) (o := .cells #[.slice Ao52 t206.length co52, .int .i64 t209] 24 (0, 0)) (uB BK213.out)) : gb213 ≠ gb233))
                 have n22_ := mk0 ((by rw [hg]; exact Nat.ne_of_gt (blk_lt (g := gb213) (o := .cells #[.slice Ao52 t206.length co52, .int .i64 t209] 24 (0, 0)) (uB BK213.out)) : gb233 ≠ gb213))
                 have n23_ := mk0 ((by rw [hg]; exact Nat.ne_of_lt (blk_lt (g := gb221) (o := .cells #[.slice Ao59 t214.length co59, .int .i64 t217] 24 (0, 0)) (uB BK221.out)) : gb221 ≠ gb233))
                 have n24_ := mk0 ((by rw [hg]; exact Nat.ne_of_gt (blk_lt (g := gb221) (o := .cells #[.slice Ao59 t214.length co59, .int .i64 t217] 24 (0, 0)) (uB BK221.out)) : gb233 ≠ gb221))
                 clear HO182
                 clear HO186
                 clear HO190
                 clear HO193
                 clear HO196
                 clear HO201
                 clear HO204
                 clear HO208
                 clear HO212
                 clear HO216
                 clear HO220
                 clear HO224
                 clear BK183
                 clear BK213
                 clear BK221
                 clear HB
                 have HO182 := n0_
                 have HO186 := n1_
                 have HO190 := n2_
                 have HO193 := n3_
                 have HO196 := n4_
                 have HO201 := n5_
                 have HO204 := n6_
                 have HO208 := n7_
                 have HO212 := n8_
                 have HO216 := n9_
                 have HO220 := n10_
                 have HO224 := n11_
                 have BK183 := n12_
                 have BK213 := n13_
                 have BK221 := n14_
                 have HB := n15_
                 have BK233 := n16_
                 have GW233 := n17_
                 have GE233 := n18_
                 have NB183_233 := n19_
                 have NB233_183 := n20_
                 have NB213_233 := n21_
                 have NB233_213 := n22_
                 have NB221_233 := n23_
                 have NB233_221 := n24_
                 clear n0_ n1_ n2_ n3_ n4_ n5_ n6_ n7_ n8_ n9_ n10_ n11_ n12_ n13_ n14_ n15_ n16_ n17_ n18_ n19_ n20_ n21_ n22_ n23_ n24_
                 clear hb hbox hg
                 obtain ⟨Ao67, co67, eo67⟩ := Kd.R_slice HO224.out
                 (first | subst eo67 | (injection eo67 with f1_ f2_ f3_; have f4_ := f1_.symm; have f5_ := f3_.symm; clear f1_ f2_ f3_; subst f4_; subst f5_))
                 refine hK.out _ _ ⟨(blk_cell BK183.out 0).trans rfl, (blk_cell BK183.out 1).trans rfl⟩ (fun hHeld => ?_)
                 clear hK K
                 refine norm_ (a' := ?_) ?_ ?_
                 rotate_left
                 ·show Act.put _ (some 11) _ = _
                  simp only [Act.put, List.setIfInBounds_toArray, List.set_cons_zero, List.set_cons_succ, i64_w, i32_w]
                  rfl
                 refine one_ (i := 2) (N := some 43) #[true, true, true, false, false, false, true, false, false] rfl rfl (one_of HT_.out (by kernel_rfl)) (by decide) (fun K hK => ?_)
                 refine goes_ Tryd.func11 (by kernel_rfl) rfl #[.agg #[.slice Ao31 y180.length co31, .int .i64 (-5)], .agg #[.slice Ao67 t222.length co67, .int .i64 t225]] (by rfl) rfl rfl (by (try simp only [List.map_toArray, List.map_cons, List.map_nil]); first | done | rfl | (simp only [List.length_drop, List.length_take]; rfl)) ?_
                 with_reducible refine (lin_Add.calls _ _ y180 (-5) _ _ t222 t225 t226 t229 t230 _ ?side1 ?side2 ?side3 ?side4 A7.out).mono ?_
                 (case side1 => repeat (first | exact (Kd.R_reads' HO182.out).2.2 | (with_reducible refine Kd.C_alloc ?_ _) | (with_reducible refine Kd.C_drewN ?_ _) | (with_reducible refine Kd.C_drew ?_)))
                 (case side2 => exact (Kd.R_reads' HO182.out).2.1)
                 (case side3 => repeat (first | exact (Kd.R_reads' HO224.out).2.2 | (with_reducible refine Kd.C_alloc ?_ _) | (with_reducible refine Kd.C_drewN ?_ _) | (with_reducible refine Kd.C_drew ?_)))
                 (case side4 => exact (Kd.R_reads' HO224.out).2.1)
                 rintro e w68 ⟨v227, v231, rfl, ho0, ho1, hb⟩
                 refine ⟨_, rfl, ?_⟩
                 have n0_ := mk0 (Kd.R_elder' (uR HO182.out) (Kd.R_base ho0) hb)
                 have n1_ := mk0 (Kd.R_elder' (uR HO186.out) (Kd.R_base ho0) hb)
                 have n2_ := mk0 (Kd.R_elder' (uR HO190.out) (Kd.R_base ho1) hb)
                 have n3_ := mk0 (Kd.R_elder' (uR HO193.out) (Kd.R_base ho0) hb)
                 have n4_ := mk0 (Kd.R_elder' (uR HO196.out) (Kd.R_base ho0) hb)
                 have n5_ := mk0 (Kd.R_elder' (uR HO201.out) (Kd.R_base ho1) hb)
                 have n6_ := mk0 (Kd.R_elder' (uR HO204.out) (Kd.R_base ho0) hb)
                 have n7_ := mk0 (Kd.R_elder' (uR HO208.out) (Kd.R_base ho0) hb)
                 have n8_ := mk0 (Kd.R_elder' (uR HO212.out) (Kd.R_base ho1) hb)
                 have n9_ := mk0 (Kd.R_elder' (uR HO216.out) (Kd.R_base ho0) hb)
                 have n10_ := mk0 (Kd.R_elder' (uR HO220.out) (Kd.R_base ho1) hb)
                 have n11_ := mk0 (Kd.R_elder' (uR HO224.out) (Kd.R_base ho0) hb)
                 have n12_ := mk0 (Kd.R_lower (Kd.R_new' (Kd.R_new' (Kd.R_new' (Kd.R_new' (Kd.R_new' (Kd.R_new' (Kd.R_new' (Kd.R_new' ho0 (Kd.R_lt (uR HO182.out))) (Kd.R_lt (uR HO186.out))) (Kd.R_lt (uR HO193.out))) (Kd.R_lt (uR HO196.out))) (Kd.R_lt (uR HO204.out))) (Kd.R_lt (uR HO208.out))) (Kd.R_lt (uR HO216.out))) (Kd.R_lt (uR HO224.out))) (below_size (by repeat (first | (with_reducible first | exact HB.out | apply bA | apply bN | apply bD | refine bS ?_ (by assumption)) | exact HB.out))))
                 have n13_ := mk0 (Kd.R_lower (Kd.R_new' (Kd.R_new' (Kd.R_new' (Kd.R_new' ho1 (Kd.R_lt (uR HO190.out))) (Kd.R_lt (uR HO201.out))) (Kd.R_lt (uR HO212.out))) (Kd.R_lt (uR HO220.out))) (below_size (by repeat (first | (with_reducible first | exact HB.out | apply bA | apply bN | apply bD | refine bS ?_ (by assumption)) | exact HB.out))))
                 have n14_ := mk0 (blk_below (g := gb183) (o := .cells #[.slice Ao31 y180.length co31, .int .i64 (-5)] 24 (0, 0)) (uB BK183.out) hb)
                 have n15_ := mk0 (blk_below (g := gb213) (o := .cells #[.slice Ao52 t206.length co52, .int .i64 t209] 24 (0, 0)) (uB BK213.out) hb)
                 have n16_ := mk0 (blk_below (g := gb221) (o := .cells #[.slice Ao59 t214.length co59, .int .i64 t217] 24 (0, 0)) (uB BK221.out) hb)
                 have n17_ := mk0 (blk_below (g := gb233) (o := .cells #[.slice none 0 0, .int .i64 0] 24 (0, 0)) (uB BK233.out) hb)
                 have n18_ := mk0 (below_step (by repeat (first | (with_reducible first | exact HB.out | apply bA | apply bN | apply bD | refine bS ?_ (by assumption)) | exact HB.out)) hb)
                 clear HO182
                 clear HO186
                 clear HO190
                 clear HO193
                 clear HO196
                 clear HO201
                 clear HO204
                 clear HO208
                 clear HO212
                 clear HO216
                 clear HO220
                 clear HO224
                 clear BK183
                 clear BK213
                 clear BK221
                 clear BK233
                 clear HB
                 have HO182 := n0_
                 have HO186 := n1_
                 have HO190 := n2_
                 have HO193 := n3_
                 have HO196 := n4_
                 have HO201 := n5_
                 have HO204 := n6_
                 have HO208 := n7_
                 have HO212 := n8_
                 have HO216 := n9_
                 have HO220 := n10_
                 have HO224 := n11_
                 have HO228 := n12_
                 have HO232 := n13_
                 have BK183 := n14_
                 have BK213 := n15_
                 have BK221 := n16_
                 have BK233 := n17_
                 have HB := n18_
                 clear n0_ n1_ n2_ n3_ n4_ n5_ n6_ n7_ n8_ n9_ n10_ n11_ n12_ n13_ n14_ n15_ n16_ n17_ n18_
                 (try clear hb)
                 (try clear hb2)
                 (try clear hk)
                 (try clear hi)
                 (try clear ho0)
                 (try clear ho1)
                 (first | (have EHO232 := cmpV_no HO232.out (by with_reducible assumption)) | (have EHO232 := cmpV_yes HO232.out (by with_reducible assumption)) | skip)
                 refine hK.out _ _ ⟨(blk_cell BK183.out 0).trans rfl, (blk_cell BK183.out 1).trans rfl⟩ (fun hHeld => ?_)
                 clear hK K
                 refine norm_ (a' := ?_) ?_ ?_
                 rotate_left
                 ·show Act.put _ (some 43) _ = _
                  simp only [Act.put, List.setIfInBounds_toArray, List.set_cons_zero, List.set_cons_succ, i64_w, i32_w]
                  rfl
                 refine pure_ (i := 3) (N := some 40) (v := ?_) (a' := ?_) #[true, true, true, true, false, false, true, false, false] rfl rfl (any_of HT_.out (by kernel_rfl)) (fun _ _ _ h => h) (Or.inl ⟨by rfl, ?_⟩) ?_ ?_
                 rotate_left
                 ·intro w'
                  go_simp
                  with_reducible rfl
                 rotate_left
                 ·simp only [Act.put, List.setIfInBounds_toArray, List.set_cons_zero, List.set_cons_succ, i64_w, i32_w]
                  rfl
                 refine pure_ (i := 4) (N := some 44) (v := ?_) (a' := ?_) #[true, true, true, true, true, false, true, false, false] rfl rfl (any_of HT_.out (by kernel_rfl)) (fun _ _ _ h => h) (Or.inl ⟨by rfl, ?_⟩) ?_ ?_
                 rotate_left
                 ·intro w'
                  go_simp
                  with_reducible rfl
                 rotate_left
                 ·simp only [Act.put, List.setIfInBounds_toArray, List.set_cons_zero, List.set_cons_succ, i64_w, i32_w]
                  rfl
                 refine pure_ (i := 5) (N := some 45) (v := ?_) (a' := ?_) #[true, true, true, true, true, true, true, false, false] rfl rfl (any_of HT_.out (by kernel_rfl)) (fun _ _ _ h => h) (Or.inl ⟨by rfl, ?_⟩) ?_ ?_
                 rotate_left
                 ·intro w'
                  go_simp
                  with_reducible rfl
                 rotate_left
                 ·simp only [Act.put, List.setIfInBounds_toArray, List.set_cons_zero, List.set_cons_succ, i64_w, i32_w]
                  rfl
                 exact norm_ (by first | (simp only [putAll, Act.put, List.setIfInBounds_toArray, List.set_cons_zero, List.set_cons_succ]; done) | (simp only [putAll, Act.put, List.setIfInBounds_toArray, List.set_cons_zero, List.set_cons_succ, *]; done)) (hCont (.slice Ao67 t222.length co67, v227, v231, gb233) _ ⟨hHeld, (uR (Kd.R_mono HO182.out (fun _ hk => ⟨hk.1.1.1, ⟨hk.1.1.2.1, ⟨hk.1.1.2.2.1, ⟨hk.1.1.2.2.2.1, ⟨hk.1.1.2.2.2.2.1, ⟨hk.1.1.2.2.2.2.2, ⟨hk.1.2, hk.2⟩⟩⟩⟩⟩⟩⟩))), (uR (Kd.R_mono HO186.out (fun _ hk => ⟨hk.1.1.1, ⟨hk.1.1.2.1, ⟨hk.1.1.2.2.1, ⟨hk.1.1.2.2.2.1, ⟨hk.1.1.2.2.2.2.1, ⟨hk.1.1.2.2.2.2.2, ⟨hk.1.2, hk.2⟩⟩⟩⟩⟩⟩⟩))), (uR (Kd.R_mono HO190.out (fun _ hk => ⟨hk.1.1, ⟨hk.1.2.1, ⟨hk.1.2.2, hk.2⟩⟩⟩))), (uR (Kd.R_mono HO193.out (fun _ hk => ⟨hk.1.1.1, ⟨hk.1.1.2.1, ⟨hk.1.1.2.2.1, ⟨hk.1.1.2.2.2.1, ⟨hk.1.1.2.2.2.2.1, ⟨hk.1.1.2.2.2.2.2, ⟨hk.1.2, hk.2⟩⟩⟩⟩⟩⟩⟩))), (uR (Kd.R_mono HO196.out (fun _ hk => ⟨hk.1.1.1, ⟨hk.1.1.2.1, ⟨hk.1.1.2.2.1, ⟨hk.1.1.2.2.2.1, ⟨hk.1.1.2.2.2.2.1, ⟨hk.1.1.2.2.2.2.2, ⟨hk.1.2, hk.2⟩⟩⟩⟩⟩⟩⟩))), (uR (Kd.R_mono HO201.out (fun _ hk => ⟨hk.1.1, ⟨hk.1.2.1, ⟨hk.1.2.2, hk.2⟩⟩⟩))), (uR (Kd.R_mono HO204.out (fun _ hk => ⟨hk.1.1.1, ⟨hk.1.1.2.1, ⟨hk.1.1.2.2.1, ⟨hk.1.1.2.2.2.1, ⟨hk.1.1.2.2.2.2.1, ⟨hk.1.1.2.2.2.2.2, ⟨hk.1.2, hk.2⟩⟩⟩⟩⟩⟩⟩))), (uR (Kd.R_mono HO208.out (fun _ hk => ⟨hk.1.1.1, ⟨hk.1.1.2.1, ⟨hk.1.1.2.2.1, ⟨hk.1.1.2.2.2.1, ⟨hk.1.1.2.2.2.2.1, ⟨hk.1.1.2.2.2.2.2, ⟨hk.1.2, hk.2⟩⟩⟩⟩⟩⟩⟩))), (uR (Kd.R_mono HO212.out (fun _ hk => ⟨hk.1.1, ⟨hk.1.2.1, ⟨hk.1.2.2, hk.2⟩⟩⟩))), (uR (Kd.R_mono HO216.out (fun _ hk => ⟨hk.1.1.1, ⟨hk.1.1.2.1, ⟨hk.1.1.2.2.1, ⟨hk.1.1.2.2.2.1, ⟨hk.1.1.2.2.2.2.1, ⟨hk.1.1.2.2.2.2.2, ⟨hk.1.2, hk.2⟩⟩⟩⟩⟩⟩⟩))), (uR (Kd.R_mono HO220.out (fun _ hk => ⟨hk.1.1, ⟨hk.1.2.1, ⟨hk.1.2.2, hk.2⟩⟩⟩))), (uR (Kd.R_mono HO224.out (fun _ hk => ⟨hk.1.1.1.1.1.1.1.2, ⟨hk.1.1.1.1.1.1.2, ⟨hk.1.1.1.1.1.2, ⟨hk.1.1.1.1.2, ⟨hk.1.1.1.2, ⟨hk.1.1.2, ⟨hk.1.2, hk.2⟩⟩⟩⟩⟩⟩⟩))), (uR (Kd.R_mono HO228.out (fun _ hk => ⟨hk.1.1.1.1.1.1.1.2, ⟨hk.1.1.1.1.1.1.2, ⟨hk.1.1.1.1.1.2, ⟨hk.1.1.1.1.2, ⟨hk.1.1.1.2, ⟨hk.1.1.2, ⟨hk.1.2, hk.2⟩⟩⟩⟩⟩⟩⟩))), (uR (Kd.R_mono HO232.out (fun _ hk => ⟨hk.1.1.1.2, ⟨hk.1.1.2, ⟨hk.1.2, hk.2⟩⟩⟩))), (uB BK183.out), (uB BK213.out), (uB BK221.out), (uB BK233.out), GW233.out, GE233.out, NB183_233.out, NB233_183.out, NB213_233.out, NB233_213.out, NB221_233.out, NB233_221.out, (by repeat (first | (with_reducible first | exact HB.out | apply bA | apply bN | apply bD | refine bS ?_ (by assumption)) | exact HB.out))⟩)
               ·skip
                refine box_step ?hg (N := 11) ?hd (cs := #[.slice none 0 0, .int .i64 0]) (t := 24) ?hr ?_; (case hd => rfl); (case hg => rfl); (case hr => first | (go_simp; done) | (go_simp; rfl))
                intro gb233 hg w65 hbox hb
                have n0_ := mk0 (Kd.R_below (uR HO182.out) hb)
                have n1_ := mk0 (Kd.R_below (uR HO186.out) hb)
                have n2_ := mk0 (Kd.R_below (uR HO190.out) hb)
                have n3_ := mk0 (Kd.R_below (uR HO193.out) hb)
                have n4_ := mk0 (Kd.R_below (uR HO196.out) hb)
                have n5_ := mk0 (Kd.R_below (uR HO201.out) hb)
                have n6_ := mk0 (Kd.R_below (uR HO204.out) hb)
                have n7_ := mk0 (Kd.R_below (uR HO208.out) hb)
                have n8_ := mk0 (Kd.R_below (uR HO212.out) hb)
                have n9_ := mk0 (Kd.R_below (uR HO216.out) hb)
                have n10_ := mk0 (Kd.R_below (uR HO220.out) hb)
                have n11_ := mk0 (blk_below (g := gb183) (o := .cells #[.slice Ao31 y180.length co31, .int .i64 (-5)] 24 (0, 0)) (uB BK183.out) hb)
                have n12_ := mk0 (blk_below (g := gb213) (o := .cells #[.slice Ao52 t206.length co52, .int .i64 t209] 24 (0, 0)) (uB BK213.out) hb)
                have n13_ := mk0 (blk_below (g := gb221) (o := .cells #[.slice Ao59 t214.length co59, .int .i64 t217] 24 (0, 0)) (uB BK221.out) hb)
                have n14_ := mk0 (below_step (by repeat (first | (with_reducible first | exact HB.out | apply bA | apply bN | apply bD | refine bS ?_ (by assumption)) | exact HB.out)) hb)
                have n15_ := mk0 (hbox)
                have n16_ := mk0 ((by rw [hg]; exact (below_size (by repeat (first | (with_reducible first | exact HB.out | apply bA | apply bN | apply bD | refine bS ?_ (by assumption)) | exact HB.out))) : w.heap.size ≤ gb233))
                have n17_ := mk0 ((by rw [hg]; exact (below_size (by repeat (first | (with_reducible first | exact HB.out | apply bA | apply bN | apply bD | refine bS ?_ (by assumption)) | exact HB.out))) : w.heap.size ≤ gb233))
                have n18_ := mk0 ((by rw [hg]; exact Nat.ne_of_lt (blk_lt (g := gb183) (o := .cells #[.slice Ao31 y180.length co31, .int .i64 (-5)] 24 (0, 0)) (uB BK183.out)) : gb183 ≠ gb233))
                have n19_ := mk0 ((by rw [hg]; exact Nat.ne_of_gt (blk_lt (g := gb183) (o := .cells #[.slice Ao31 y180.length co31, .int .i64 (-5)] 24 (0, 0)) (uB BK183.out)) : gb233 ≠ gb183))
                have n20_ := mk0 ((by rw [hg]; exact Nat.ne_of_lt (blk_lt (g := gb213) (o := .cells #[.slice Ao52 t206.length co52, .int .i64 t209] 24 (0, 0)) (uB BK213.out)) : gb213 ≠ gb233))
                have n21_ := mk0 ((by rw [hg]; exact Nat.ne_of_gt (blk_lt (g := gb213) (o := .cells #[.slice Ao52 t206.length co52, .int .i64 t209] 24 (0, 0)) (uB BK213.out)) : gb233 ≠ gb213))
                have n22_ := mk0 ((by rw [hg]; exact Nat.ne_of_lt (blk_lt (g := gb221) (o := .cells #[.slice Ao59 t214.length co59, .int .i64 t217] 24 (0, 0)) (uB BK221.out)) : gb221 ≠ gb233))
                have n23_ := mk0 ((by rw [hg]; exact Nat.ne_of_gt (blk_lt (g := gb221) (o := .cells #[.slice Ao59 t214.length co59, .int .i64 t217] 24 (0, 0)) (uB BK221.out)) : gb233 ≠ gb221))
                clear HO182
                clear HO186
                clear HO190
                clear HO193
                clear HO196
                clear HO201
                clear HO204
                clear HO208
                clear HO212
                clear HO216
                clear HO220
                clear BK183
                clear BK213
                clear BK221
                clear HB
                have HO182 := n0_
                have HO186 := n1_
                have HO190 := n2_
                have HO193 := n3_
                have HO196 := n4_
                have HO201 := n5_
                have HO204 := n6_
                have HO208 := n7_
                have HO212 := n8_
                have HO216 := n9_
                have HO220 := n10_
                have BK183 := n11_
                have BK213 := n12_
                have BK221 := n13_
                have HB := n14_
                have BK233 := n15_
                have GW233 := n16_
                have GE233 := n17_
                have NB183_233 := n18_
                have NB233_183 := n19_
                have NB213_233 := n20_
                have NB233_213 := n21_
                have NB221_233 := n22_
                have NB233_221 := n23_
                clear n0_ n1_ n2_ n3_ n4_ n5_ n6_ n7_ n8_ n9_ n10_ n11_ n12_ n13_ n14_ n15_ n16_ n17_ n18_ n19_ n20_ n21_ n22_ n23_
                clear hb hbox hg
                refine hK.out _ _ ⟨(blk_cell BK183.out 0).trans rfl, (blk_cell BK183.out 1).trans rfl⟩ (fun hHeld => ?_)
                clear hK K
                refine norm_ (a' := ?_) ?_ ?_
                rotate_left
                ·show Act.put _ (some 11) _ = _
                 simp only [Act.put, List.setIfInBounds_toArray, List.set_cons_zero, List.set_cons_succ, i64_w, i32_w]
                 rfl
                refine one_ (i := 1) (N := some 42) #[true, true, false, false, false, false, true, false, false] rfl rfl (one_of HT_.out (by kernel_rfl)) (by decide) (fun K hK => ?_)
                refine goes_ Tryd.func23 (by kernel_rfl) rfl #[.int .i64 2, .int .i64 1] (by rfl) rfl rfl (by (try simp only [List.map_toArray, List.map_cons, List.map_nil]); first | done | rfl | (simp only [List.length_drop, List.length_take]; rfl)) ?_
                with_reducible refine (lin_Const.calls 2 1 t222 t225 _ A6.out).mono ?_
                rintro e w66 ⟨v223, rfl, ho0, hb⟩
                refine ⟨_, rfl, ?_⟩
                have n0_ := mk0 (Kd.R_elder' (uR HO182.out) (Kd.R_base ho0) hb)
                have n1_ := mk0 (Kd.R_elder' (uR HO186.out) (Kd.R_base ho0) hb)
                have n2_ := mk0 (Kd.R_below (uR HO190.out) hb)
                have n3_ := mk0 (Kd.R_elder' (uR HO193.out) (Kd.R_base ho0) hb)
                have n4_ := mk0 (Kd.R_elder' (uR HO196.out) (Kd.R_base ho0) hb)
                have n5_ := mk0 (Kd.R_below (uR HO201.out) hb)
                have n6_ := mk0 (Kd.R_elder' (uR HO204.out) (Kd.R_base ho0) hb)
                have n7_ := mk0 (Kd.R_elder' (uR HO208.out) (Kd.R_base ho0) hb)
                have n8_ := mk0 (Kd.R_below (uR HO212.out) hb)
                have n9_ := mk0 (Kd.R_elder' (uR HO216.out) (Kd.R_base ho0) hb)
                have n10_ := mk0 (Kd.R_below (uR HO220.out) hb)
                have n11_ := mk0 (Kd.R_lower (Kd.R_new' (Kd.R_new' (Kd.R_new' (Kd.R_new' (Kd.R_new' (Kd.R_new' (Kd.R_new' ho0 (Kd.R_lt (uR HO182.out))) (Kd.R_lt (uR HO186.out))) (Kd.R_lt (uR HO193.out))) (Kd.R_lt (uR HO196.out))) (Kd.R_lt (uR HO204.out))) (Kd.R_lt (uR HO208.out))) (Kd.R_lt (uR HO216.out))) (below_size (by repeat (first | (with_reducible first | exact HB.out | apply bA | apply bN | apply bD | refine bS ?_ (by assumption)) | exact HB.out))))
                have n12_ := mk0 (blk_below (g := gb183) (o := .cells #[.slice Ao31 y180.length co31, .int .i64 (-5)] 24 (0, 0)) (uB BK183.out) hb)
                have n13_ := mk0 (blk_below (g := gb213) (o := .cells #[.slice Ao52 t206.length co52, .int .i64 t209] 24 (0, 0)) (uB BK213.out) hb)
                have n14_ := mk0 (blk_below (g := gb221) (o := .cells #[.slice Ao59 t214.length co59, .int .i64 t217] 24 (0, 0)) (uB BK221.out) hb)
                have n15_ := mk0 (blk_below (g := gb233) (o := .cells #[.slice none 0 0, .int .i64 0] 24 (0, 0)) (uB BK233.out) hb)
                have n16_ := mk0 (below_step (by repeat (first | (with_reducible first | exact HB.out | apply bA | apply bN | apply bD | refine bS ?_ (by assumption)) | exact HB.out)) hb)
                clear HO182
                clear HO186
                clear HO190
                clear HO193
                clear HO196
                clear HO201
                clear HO204
                clear HO208
                clear HO212
                clear HO216
                clear HO220
                clear BK183
                clear BK213
                clear BK221
                clear BK233
                clear HB
                have HO182 := n0_
                have HO186 := n1_
                have HO190 := n2_
                have HO193 := n3_
                have HO196 := n4_
                have HO201 := n5_
                have HO204 := n6_
                have HO208 := n7_
                have HO212 := n8_
                have HO216 := n9_
                have HO220 := n10_
                have HO224 := n11_
                have BK183 := n12_
                have BK213 := n13_
                have BK221 := n14_
                have BK233 := n15_
                have HB := n16_
                clear n0_ n1_ n2_ n3_ n4_ n5_ n6_ n7_ n8_ n9_ n10_ n11_ n12_ n13_ n14_ n15_ n16_
                (try clear hb)
                (try clear hb2)
                (try clear hk)
                (try clear hi)
                (try clear ho0)
                obtain ⟨Ao67, co67, eo67⟩ := Kd.R_slice HO224.out
                (first | subst eo67 | (injection eo67 with f1_ f2_ f3_; have f4_ := f1_.symm; have f5_ := f3_.symm; clear f1_ f2_ f3_; subst f4_; subst f5_))
                refine hK.out _ _ ⟨(blk_cell BK183.out 0).trans rfl, (blk_cell BK183.out 1).trans rfl⟩ (fun hHeld => ?_)
                clear hK K
                refine norm_ (a' := ?_) ?_ ?_
                rotate_left
                ·show Act.put _ (some 42) _ = _
                 simp only [Act.put, List.setIfInBounds_toArray, List.set_cons_zero, List.set_cons_succ, i64_w, i32_w]
                 rfl
                refine one_ (i := 2) (N := some 43) #[true, true, true, false, false, false, true, false, false] rfl rfl (one_of HT_.out (by kernel_rfl)) (by decide) (fun K hK => ?_)
                refine goes_ Tryd.func11 (by kernel_rfl) rfl #[.agg #[.slice Ao31 y180.length co31, .int .i64 (-5)], .agg #[.slice Ao67 t222.length co67, .int .i64 t225]] (by rfl) rfl rfl (by (try simp only [List.map_toArray, List.map_cons, List.map_nil]); first | done | rfl | (simp only [List.length_drop, List.length_take]; rfl)) ?_
                with_reducible refine (lin_Add.calls _ _ y180 (-5) _ _ t222 t225 t226 t229 t230 _ ?side1 ?side2 ?side3 ?side4 A7.out).mono ?_
                (case side1 => repeat (first | exact (Kd.R_reads' HO182.out).2.2 | (with_reducible refine Kd.C_alloc ?_ _) | (with_reducible refine Kd.C_drewN ?_ _) | (with_reducible refine Kd.C_drew ?_)))
                (case side2 => exact (Kd.R_reads' HO182.out).2.1)
                (case side3 => repeat (first | exact (Kd.R_reads' HO224.out).2.2 | (with_reducible refine Kd.C_alloc ?_ _) | (with_reducible refine Kd.C_drewN ?_ _) | (with_reducible refine Kd.C_drew ?_)))
                (case side4 => exact (Kd.R_reads' HO224.out).2.1)
                rintro e w68 ⟨v227, v231, rfl, ho0, ho1, hb⟩
                refine ⟨_, rfl, ?_⟩
                have n0_ := mk0 (Kd.R_elder' (uR HO182.out) (Kd.R_base ho0) hb)
                have n1_ := mk0 (Kd.R_elder' (uR HO186.out) (Kd.R_base ho0) hb)
                have n2_ := mk0 (Kd.R_elder' (uR HO190.out) (Kd.R_base ho1) hb)
                have n3_ := mk0 (Kd.R_elder' (uR HO193.out) (Kd.R_base ho0) hb)
                have n4_ := mk0 (Kd.R_elder' (uR HO196.out) (Kd.R_base ho0) hb)
                have n5_ := mk0 (Kd.R_elder' (uR HO201.out) (Kd.R_base ho1) hb)
                have n6_ := mk0 (Kd.R_elder' (uR HO204.out) (Kd.R_base ho0) hb)
                have n7_ := mk0 (Kd.R_elder' (uR HO208.out) (Kd.R_base ho0) hb)
                have n8_ := mk0 (Kd.R_elder' (uR HO212.out) (Kd.R_base ho1) hb)
                have n9_ := mk0 (Kd.R_elder' (uR HO216.out) (Kd.R_base ho0) hb)
                have n10_ := mk0 (Kd.R_elder' (uR HO220.out) (Kd.R_base ho1) hb)
                have n11_ := mk0 (Kd.R_elder' (uR HO224.out) (Kd.R_base ho0) hb)
                have n12_ := mk0 (Kd.R_lower (Kd.R_new' (Kd.R_new' (Kd.R_new' (Kd.R_new' (Kd.R_new' (Kd.R_new' (Kd.R_new' (Kd.R_new' ho0 (Kd.R_lt (uR HO182.out))) (Kd.R_lt (uR HO186.out))) (Kd.R_lt (uR HO193.out))) (Kd.R_lt (uR HO196.out))) (Kd.R_lt (uR HO204.out))) (Kd.R_lt (uR HO208.out))) (Kd.R_lt (uR HO216.out))) (Kd.R_lt (uR HO224.out))) (below_size (by repeat (first | (with_reducible first | exact HB.out | apply bA | apply bN | apply bD | refine bS ?_ (by assumption)) | exact HB.out))))
                have n13_ := mk0 (Kd.R_lower (Kd.R_new' (Kd.R_new' (Kd.R_new' (Kd.R_new' ho1 (Kd.R_lt (uR HO190.out))) (Kd.R_lt (uR HO201.out))) (Kd.R_lt (uR HO212.out))) (Kd.R_lt (uR HO220.out))) (below_size (by repeat (first | (with_reducible first | exact HB.out | apply bA | apply bN | apply bD | refine bS ?_ (by assumption)) | exact HB.out))))
                have n14_ := mk0 (blk_below (g := gb183) (o := .cells #[.slice Ao31 y180.length co31, .int .i64 (-5)] 24 (0, 0)) (uB BK183.out) hb)
                have n15_ := mk0 (blk_below (g := gb213) (o := .cells #[.slice Ao52 t206.length co52, .int .i64 t209] 24 (0, 0)) (uB BK213.out) hb)
                have n16_ := mk0 (blk_below (g := gb221) (o := .cells #[.slice Ao59 t214.length co59, .int .i64 t217] 24 (0, 0)) (uB BK221.out) hb)
                have n17_ := mk0 (blk_below (g := gb233) (o := .cells #[.slice none 0 0, .int .i64 0] 24 (0, 0)) (uB BK233.out) hb)
                have n18_ := mk0 (below_step (by repeat (first | (with_reducible first | exact HB.out | apply bA | apply bN | apply bD | refine bS ?_ (by assumption)) | exact HB.out)) hb)
                clear HO182
                clear HO186
                clear HO190
                clear HO193
                clear HO196
                clear HO201
                clear HO204
                clear HO208
                clear HO212
                clear HO216
                clear HO220
                clear HO224
                clear BK183
                clear BK213
                clear BK221
                clear BK233
                clear HB
                have HO182 := n0_
                have HO186 := n1_
                have HO190 := n2_
                have HO193 := n3_
                have HO196 := n4_
                have HO201 := n5_
                have HO204 := n6_
                have HO208 := n7_
                have HO212 := n8_
                have HO216 := n9_
                have HO220 := n10_
                have HO224 := n11_
                have HO228 := n12_
                have HO232 := n13_
                have BK183 := n14_
                have BK213 := n15_
                have BK221 := n16_
                have BK233 := n17_
                have HB := n18_
                clear n0_ n1_ n2_ n3_ n4_ n5_ n6_ n7_ n8_ n9_ n10_ n11_ n12_ n13_ n14_ n15_ n16_ n17_ n18_
                (try clear hb)
                (try clear hb2)
                (try clear hk)
                (try clear hi)
                (try clear ho0)
                (try clear ho1)
                (first | (have EHO232 := cmpV_no HO232.out (by with_reducible assumption)) | (have EHO232 := cmpV_yes HO232.out (by with_reducible assumption)) | skip)
                refine hK.out _ _ ⟨(blk_cell BK183.out 0).trans rfl, (blk_cell BK183.out 1).trans rfl⟩ (fun hHeld => ?_)
                clear hK K
                refine norm_ (a' := ?_) ?_ ?_
                rotate_left
                ·show Act.put _ (some 43) _ = _
                 simp only [Act.put, List.setIfInBounds_toArray, List.set_cons_zero, List.set_cons_succ, i64_w, i32_w]
                 rfl
                refine pure_ (i := 3) (N := some 40) (v := ?_) (a' := ?_) #[true, true, true, true, false, false, true, false, false] rfl rfl (any_of HT_.out (by kernel_rfl)) (fun _ _ _ h => h) (Or.inl ⟨by rfl, ?_⟩) ?_ ?_
                rotate_left
                ·intro w'
                 go_simp
                 with_reducible rfl
                rotate_left
                ·simp only [Act.put, List.setIfInBounds_toArray, List.set_cons_zero, List.set_cons_succ, i64_w, i32_w]
                 rfl
                refine pure_ (i := 4) (N := some 44) (v := ?_) (a' := ?_) #[true, true, true, true, true, false, true, false, false] rfl rfl (any_of HT_.out (by kernel_rfl)) (fun _ _ _ h => h) (Or.inl ⟨by rfl, ?_⟩) ?_ ?_
                rotate_left
                ·intro w'
                 go_simp
                 with_reducible rfl
                rotate_left
                ·simp only [Act.put, List.setIfInBounds_toArray, List.set_cons_zero, List.set_cons_succ, i64_w, i32_w]
                 rfl
                refine pure_ (i := 5) (N := some 45) (v := ?_) (a' := ?_) #[true, true, true, true, true, true, true, false, false] rfl rfl (any_of HT_.out (by kernel_rfl)) (fun _ _ _ h => h) (Or.inl ⟨by rfl, ?_⟩) ?_ ?_
                rotate_left
                ·intro w'
                 go_simp
                 with_reducible rfl
                rotate_left
                ·simp only [Act.put, List.setIfInBounds_toArray, List.set_cons_zero, List.set_cons_succ, i64_w, i32_w]
                 rfl
                exact norm_ (by first | (simp only [putAll, Act.put, List.setIfInBounds_toArray, List.set_cons_zero, List.set_cons_succ]; done) | (simp only [putAll, Act.put, List.setIfInBounds_toArray, List.set_cons_zero, List.set_cons_succ, *]; done)) (hCont (.slice Ao67 t222.length co67, v227, v231, gb233) _ ⟨hHeld, (uR (Kd.R_mono HO182.out (fun _ hk => ⟨hk.1.1.1, ⟨hk.1.1.2.1, ⟨hk.1.1.2.2.1, ⟨hk.1.1.2.2.2.1, ⟨hk.1.1.2.2.2.2.1, ⟨hk.1.1.2.2.2.2.2, ⟨hk.1.2, hk.2⟩⟩⟩⟩⟩⟩⟩))), (uR (Kd.R_mono HO186.out (fun _ hk => ⟨hk.1.1.1, ⟨hk.1.1.2.1, ⟨hk.1.1.2.2.1, ⟨hk.1.1.2.2.2.1, ⟨hk.1.1.2.2.2.2.1, ⟨hk.1.1.2.2.2.2.2, ⟨hk.1.2, hk.2⟩⟩⟩⟩⟩⟩⟩))), (uR (Kd.R_mono HO190.out (fun _ hk => ⟨hk.1.1, ⟨hk.1.2.1, ⟨hk.1.2.2, hk.2⟩⟩⟩))), (uR (Kd.R_mono HO193.out (fun _ hk => ⟨hk.1.1.1, ⟨hk.1.1.2.1, ⟨hk.1.1.2.2.1, ⟨hk.1.1.2.2.2.1, ⟨hk.1.1.2.2.2.2.1, ⟨hk.1.1.2.2.2.2.2, ⟨hk.1.2, hk.2⟩⟩⟩⟩⟩⟩⟩))), (uR (Kd.R_mono HO196.out (fun _ hk => ⟨hk.1.1.1, ⟨hk.1.1.2.1, ⟨hk.1.1.2.2.1, ⟨hk.1.1.2.2.2.1, ⟨hk.1.1.2.2.2.2.1, ⟨hk.1.1.2.2.2.2.2, ⟨hk.1.2, hk.2⟩⟩⟩⟩⟩⟩⟩))), (uR (Kd.R_mono HO201.out (fun _ hk => ⟨hk.1.1, ⟨hk.1.2.1, ⟨hk.1.2.2, hk.2⟩⟩⟩))), (uR (Kd.R_mono HO204.out (fun _ hk => ⟨hk.1.1.1, ⟨hk.1.1.2.1, ⟨hk.1.1.2.2.1, ⟨hk.1.1.2.2.2.1, ⟨hk.1.1.2.2.2.2.1, ⟨hk.1.1.2.2.2.2.2, ⟨hk.1.2, hk.2⟩⟩⟩⟩⟩⟩⟩))), (uR (Kd.R_mono HO208.out (fun _ hk => ⟨hk.1.1.1, ⟨hk.1.1.2.1, ⟨hk.1.1.2.2.1, ⟨hk.1.1.2.2.2.1, ⟨hk.1.1.2.2.2.2.1, ⟨hk.1.1.2.2.2.2.2, ⟨hk.1.2, hk.2⟩⟩⟩⟩⟩⟩⟩))), (uR (Kd.R_mono HO212.out (fun _ hk => ⟨hk.1.1, ⟨hk.1.2.1, ⟨hk.1.2.2, hk.2⟩⟩⟩))), (uR (Kd.R_mono HO216.out (fun _ hk => ⟨hk.1.1.1, ⟨hk.1.1.2.1, ⟨hk.1.1.2.2.1, ⟨hk.1.1.2.2.2.1, ⟨hk.1.1.2.2.2.2.1, ⟨hk.1.1.2.2.2.2.2, ⟨hk.1.2, hk.2⟩⟩⟩⟩⟩⟩⟩))), (uR (Kd.R_mono HO220.out (fun _ hk => ⟨hk.1.1, ⟨hk.1.2.1, ⟨hk.1.2.2, hk.2⟩⟩⟩))), (uR (Kd.R_mono HO224.out (fun _ hk => ⟨hk.1.1.1.1.1.1.1.2, ⟨hk.1.1.1.1.1.1.2, ⟨hk.1.1.1.1.1.2, ⟨hk.1.1.1.1.2, ⟨hk.1.1.1.2, ⟨hk.1.1.2, ⟨hk.1.2, hk.2⟩⟩⟩⟩⟩⟩⟩))), (uR (Kd.R_mono HO228.out (fun _ hk => ⟨hk.1.1.1.1.1.1.1.2, ⟨hk.1.1.1.1.1.1.2, ⟨hk.1.1.1.1.1.2, ⟨hk.1.1.1.1.2, ⟨hk.1.1.1.2, ⟨hk.1.1.2, ⟨hk.1.2, hk.2⟩⟩⟩⟩⟩⟩⟩))), (uR (Kd.R_mono HO232.out (fun _ hk => ⟨hk.1.1.1.2, ⟨hk.1.1.2, ⟨hk.1.2, hk.2⟩⟩⟩))), (uB BK183.out), (uB BK213.out), (uB BK221.out), (uB BK233.out), GW233.out, GE233.out, NB183_233.out, NB233_183.out, NB213_233.out, NB233_213.out, NB221_233.out, NB233_221.out, (by repeat (first | (with_reducible first | exact HB.out | apply bA | apply bN | apply bD | refine bS ?_ (by assumption)) | exact HB.out))⟩)
              rintro ⟨v223, v227, v231, gb233⟩ w69 ⟨hS_, h0_, h1_, h2_, h3_, h4_, h5_, h6_, h7_, h8_, h9_, h10_, h11_, h12_, h13_, h14_, h15_, h16_, h17_, h18_, h19_, h20_, h21_, h22_, h23_, h24_, h25_, h26_⟩
              have n0_ : Aside0 (Kd.R (Kd.int .i64) 2 w69 w.heap.size (fun k_ => some k_ ≠ (.slice Ao36 y184.length co36 : Value).ownBlock ∧ some k_ ≠ (.slice Ao43 y191.length co43 : Value).ownBlock ∧ some k_ ≠ (.slice Ao44 y194.length co44 : Value).ownBlock ∧ some k_ ≠ (v203 : Value).ownBlock ∧ some k_ ≠ (.slice Ao52 t206.length co52 : Value).ownBlock ∧ some k_ ≠ (.slice Ao59 t214.length co59 : Value).ownBlock ∧ some k_ ≠ (v223 : Value).ownBlock ∧ some k_ ≠ (v227 : Value).ownBlock) (.slice Ao31 y180.length co31) y180) := ⟨h0_⟩
              have n1_ : Aside0 (Kd.R (Kd.int .i64) 2 w69 w.heap.size (fun k_ => some k_ ≠ (.slice Ao31 y180.length co31 : Value).ownBlock ∧ some k_ ≠ (.slice Ao43 y191.length co43 : Value).ownBlock ∧ some k_ ≠ (.slice Ao44 y194.length co44 : Value).ownBlock ∧ some k_ ≠ (v203 : Value).ownBlock ∧ some k_ ≠ (.slice Ao52 t206.length co52 : Value).ownBlock ∧ some k_ ≠ (.slice Ao59 t214.length co59 : Value).ownBlock ∧ some k_ ≠ (v223 : Value).ownBlock ∧ some k_ ≠ (v227 : Value).ownBlock) (.slice Ao36 y184.length co36) y184) := ⟨h1_⟩
              have n2_ : Aside0 (Kd.R fltK 84 w69 w.heap.size (fun k_ => some k_ ≠ (v200 : Value).ownBlock ∧ some k_ ≠ (v211 : Value).ownBlock ∧ some k_ ≠ (v219 : Value).ownBlock ∧ some k_ ≠ (v231 : Value).ownBlock) v189 t188) := ⟨h2_⟩
              have n3_ : Aside0 (Kd.R (Kd.int .i64) 2 w69 w.heap.size (fun k_ => some k_ ≠ (.slice Ao31 y180.length co31 : Value).ownBlock ∧ some k_ ≠ (.slice Ao36 y184.length co36 : Value).ownBlock ∧ some k_ ≠ (.slice Ao44 y194.length co44 : Value).ownBlock ∧ some k_ ≠ (v203 : Value).ownBlock ∧ some k_ ≠ (.slice Ao52 t206.length co52 : Value).ownBlock ∧ some k_ ≠ (.slice Ao59 t214.length co59 : Value).ownBlock ∧ some k_ ≠ (v223 : Value).ownBlock ∧ some k_ ≠ (v227 : Value).ownBlock) (.slice Ao43 y191.length co43) y191) := ⟨h3_⟩
              have n4_ : Aside0 (Kd.R (Kd.int .i64) 2 w69 w.heap.size (fun k_ => some k_ ≠ (.slice Ao31 y180.length co31 : Value).ownBlock ∧ some k_ ≠ (.slice Ao36 y184.length co36 : Value).ownBlock ∧ some k_ ≠ (.slice Ao43 y191.length co43 : Value).ownBlock ∧ some k_ ≠ (v203 : Value).ownBlock ∧ some k_ ≠ (.slice Ao52 t206.length co52 : Value).ownBlock ∧ some k_ ≠ (.slice Ao59 t214.length co59 : Value).ownBlock ∧ some k_ ≠ (v223 : Value).ownBlock ∧ some k_ ≠ (v227 : Value).ownBlock) (.slice Ao44 y194.length co44) y194) := ⟨h4_⟩
              have n5_ : Aside0 (Kd.R fltK 84 w69 w.heap.size (fun k_ => some k_ ≠ (v189 : Value).ownBlock ∧ some k_ ≠ (v211 : Value).ownBlock ∧ some k_ ≠ (v219 : Value).ownBlock ∧ some k_ ≠ (v231 : Value).ownBlock) v200 t199) := ⟨h5_⟩
              have n6_ : Aside0 (Kd.R (Kd.int .i64) 2 w69 w.heap.size (fun k_ => some k_ ≠ (.slice Ao31 y180.length co31 : Value).ownBlock ∧ some k_ ≠ (.slice Ao36 y184.length co36 : Value).ownBlock ∧ some k_ ≠ (.slice Ao43 y191.length co43 : Value).ownBlock ∧ some k_ ≠ (.slice Ao44 y194.length co44 : Value).ownBlock ∧ some k_ ≠ (.slice Ao52 t206.length co52 : Value).ownBlock ∧ some k_ ≠ (.slice Ao59 t214.length co59 : Value).ownBlock ∧ some k_ ≠ (v223 : Value).ownBlock ∧ some k_ ≠ (v227 : Value).ownBlock) v203 t202) := ⟨h6_⟩
              have n7_ : Aside0 (Kd.R (Kd.int .i64) 2 w69 w.heap.size (fun k_ => some k_ ≠ (.slice Ao31 y180.length co31 : Value).ownBlock ∧ some k_ ≠ (.slice Ao36 y184.length co36 : Value).ownBlock ∧ some k_ ≠ (.slice Ao43 y191.length co43 : Value).ownBlock ∧ some k_ ≠ (.slice Ao44 y194.length co44 : Value).ownBlock ∧ some k_ ≠ (v203 : Value).ownBlock ∧ some k_ ≠ (.slice Ao59 t214.length co59 : Value).ownBlock ∧ some k_ ≠ (v223 : Value).ownBlock ∧ some k_ ≠ (v227 : Value).ownBlock) (.slice Ao52 t206.length co52) t206) := ⟨h7_⟩
              have n8_ : Aside0 (Kd.R fltK 84 w69 w.heap.size (fun k_ => some k_ ≠ (v189 : Value).ownBlock ∧ some k_ ≠ (v200 : Value).ownBlock ∧ some k_ ≠ (v219 : Value).ownBlock ∧ some k_ ≠ (v231 : Value).ownBlock) v211 t210) := ⟨h8_⟩
              have n9_ : Aside0 (Kd.R (Kd.int .i64) 2 w69 w.heap.size (fun k_ => some k_ ≠ (.slice Ao31 y180.length co31 : Value).ownBlock ∧ some k_ ≠ (.slice Ao36 y184.length co36 : Value).ownBlock ∧ some k_ ≠ (.slice Ao43 y191.length co43 : Value).ownBlock ∧ some k_ ≠ (.slice Ao44 y194.length co44 : Value).ownBlock ∧ some k_ ≠ (v203 : Value).ownBlock ∧ some k_ ≠ (.slice Ao52 t206.length co52 : Value).ownBlock ∧ some k_ ≠ (v223 : Value).ownBlock ∧ some k_ ≠ (v227 : Value).ownBlock) (.slice Ao59 t214.length co59) t214) := ⟨h9_⟩
              have n10_ : Aside0 (Kd.R fltK 84 w69 w.heap.size (fun k_ => some k_ ≠ (v189 : Value).ownBlock ∧ some k_ ≠ (v200 : Value).ownBlock ∧ some k_ ≠ (v211 : Value).ownBlock ∧ some k_ ≠ (v231 : Value).ownBlock) v219 t218) := ⟨h10_⟩
              have n11_ : Aside0 (Kd.R (Kd.int .i64) 2 w69 w.heap.size (fun k_ => some k_ ≠ (.slice Ao31 y180.length co31 : Value).ownBlock ∧ some k_ ≠ (.slice Ao36 y184.length co36 : Value).ownBlock ∧ some k_ ≠ (.slice Ao43 y191.length co43 : Value).ownBlock ∧ some k_ ≠ (.slice Ao44 y194.length co44 : Value).ownBlock ∧ some k_ ≠ (v203 : Value).ownBlock ∧ some k_ ≠ (.slice Ao52 t206.length co52 : Value).ownBlock ∧ some k_ ≠ (.slice Ao59 t214.length co59 : Value).ownBlock ∧ some k_ ≠ (v227 : Value).ownBlock) v223 t222) := ⟨h11_⟩
              have n12_ : Aside0 (Kd.R (Kd.int .i64) 2 w69 w.heap.size (fun k_ => some k_ ≠ (.slice Ao31 y180.length co31 : Value).ownBlock ∧ some k_ ≠ (.slice Ao36 y184.length co36 : Value).ownBlock ∧ some k_ ≠ (.slice Ao43 y191.length co43 : Value).ownBlock ∧ some k_ ≠ (.slice Ao44 y194.length co44 : Value).ownBlock ∧ some k_ ≠ (v203 : Value).ownBlock ∧ some k_ ≠ (.slice Ao52 t206.length co52 : Value).ownBlock ∧ some k_ ≠ (.slice Ao59 t214.length co59 : Value).ownBlock ∧ some k_ ≠ (v223 : Value).ownBlock) v227 t226) := ⟨h12_⟩
              have n13_ : Aside0 (Kd.R fltK 84 w69 w.heap.size (fun k_ => some k_ ≠ (v189 : Value).ownBlock ∧ some k_ ≠ (v200 : Value).ownBlock ∧ some k_ ≠ (v211 : Value).ownBlock ∧ some k_ ≠ (v219 : Value).ownBlock) v231 t230) := ⟨h13_⟩
              have n14_ : Aside0 (w69.heap[gb183]? = some (.cells #[.slice Ao31 y180.length co31, .int .i64 (-5)] 24 (0, 0))) := ⟨h14_⟩
              have n15_ : Aside0 (w69.heap[gb213]? = some (.cells #[.slice Ao52 t206.length co52, .int .i64 t209] 24 (0, 0))) := ⟨h15_⟩
              have n16_ : Aside0 (w69.heap[gb221]? = some (.cells #[.slice Ao59 t214.length co59, .int .i64 t217] 24 (0, 0))) := ⟨h16_⟩
              have n17_ : Aside0 (w69.heap[gb233]? = some (.cells #[.slice none 0 0, .int .i64 0] 24 (0, 0))) := ⟨h17_⟩
              have n18_ : Aside0 (w.heap.size ≤ gb233) := ⟨h18_⟩
              have n19_ : Aside0 (w.heap.size ≤ gb233) := ⟨h19_⟩
              have n20_ : Aside0 (gb183 ≠ gb233) := ⟨h20_⟩
              have n21_ : Aside0 (gb233 ≠ gb183) := ⟨h21_⟩
              have n22_ : Aside0 (gb213 ≠ gb233) := ⟨h22_⟩
              have n23_ : Aside0 (gb233 ≠ gb213) := ⟨h23_⟩
              have n24_ : Aside0 (gb221 ≠ gb233) := ⟨h24_⟩
              have n25_ : Aside0 (gb233 ≠ gb221) := ⟨h25_⟩
              have n26_ : Aside0 (Below w.heap.size w w69) := ⟨h26_⟩
              clear HO182
              clear HO186
              clear HO190
              clear HO193
              clear HO196
              clear HO201
              clear HO204
              clear HO208
              clear HO212
              clear HO216
              clear HO220
              clear BK183
              clear BK213
              clear BK221
              clear HB
              clear h0_ h1_ h2_ h3_ h4_ h5_ h6_ h7_ h8_ h9_ h10_ h11_ h12_ h13_ h14_ h15_ h16_ h17_ h18_ h19_ h20_ h21_ h22_ h23_ h24_ h25_ h26_
              have HO182 := n0_
              have HO186 := n1_
              have HO190 := n2_
              have HO193 := n3_
              have HO196 := n4_
              have HO201 := n5_
              have HO204 := n6_
              have HO208 := n7_
              have HO212 := n8_
              have HO216 := n9_
              have HO220 := n10_
              have HO224 := n11_
              have HO228 := n12_
              have HO232 := n13_
              have BK183 := n14_
              have BK213 := n15_
              have BK221 := n16_
              have BK233 := n17_
              have GW233 := n18_
              have GE233 := n19_
              have NB183_233 := n20_
              have NB233_183 := n21_
              have NB213_233 := n22_
              have NB233_213 := n23_
              have NB221_233 := n24_
              have NB233_221 := n25_
              have HB := n26_
              clear n0_ n1_ n2_ n3_ n4_ n5_ n6_ n7_ n8_ n9_ n10_ n11_ n12_ n13_ n14_ n15_ n16_ n17_ n18_ n19_ n20_ n21_ n22_ n23_ n24_ n25_ n26_
              (first | (have EHO190 := cmpV_no HO190.out (by with_reducible assumption)) | (have EHO190 := cmpV_yes HO190.out (by with_reducible assumption)) | skip)
              (first | (have EHO201 := cmpV_no HO201.out (by with_reducible assumption)) | (have EHO201 := cmpV_yes HO201.out (by with_reducible assumption)) | skip)
              (first | (have EHO212 := cmpV_no HO212.out (by with_reducible assumption)) | (have EHO212 := cmpV_yes HO212.out (by with_reducible assumption)) | skip)
              (first | (have EHO220 := cmpV_no HO220.out (by with_reducible assumption)) | (have EHO220 := cmpV_yes HO220.out (by with_reducible assumption)) | skip)
              (first | (have EHO232 := cmpV_no HO232.out (by with_reducible assumption)) | (have EHO232 := cmpV_yes HO232.out (by with_reducible assumption)) | skip)
              have hHeld : w69.cell? ⟨gb183, 0, none⟩ = some (.slice Ao31 y180.length co31) ∧ w69.cell? ⟨gb183, 1, none⟩ = some (.int .i64 (-5)) := hS_
              obtain ⟨Ao70, co70, eo70⟩ := Kd.R_slice HO228.out
              (first | subst eo70 | (injection eo70 with f1_ f2_ f3_; have f4_ := f1_.symm; have f5_ := f3_.symm; clear f1_ f2_ f3_; subst f4_; subst f5_))
              refine norm_ (a' := ?_) ?_ ?_
              rotate_left
              ·simp only [putAll, Act.put, List.setIfInBounds_toArray, List.set_cons_zero, List.set_cons_succ]
               rfl
              refine one_ (i := 7) (N := none) #[true, true, true, true, true, true, true, true, false] rfl rfl (one_of HT_.out (by kernel_rfl)) (by decide) (fun K hK => ?_)
              have hs71 : w69.cell? ⟨gb233, 0, none⟩ = some (.slice none 0 0) := (blk_cell BK233.out 0).trans rfl
              have hfs71 := blk_frozen BK233.out 0
              have hns71_0 := NB183_233.out
              have hns71_1 := NB213_233.out
              have hns71_2 := NB221_233.out
              have hms71_0 := NB233_183.out
              have hms71_1 := NB233_213.out
              have hms71_2 := NB233_221.out
              have hs72 : w69.cell? ⟨gb233, 1, none⟩ = some (.int .i64 0) := (blk_cell BK233.out 1).trans rfl
              have hfs72 := blk_frozen BK233.out 1
              have hns72_0 := NB183_233.out
              have hns72_1 := NB213_233.out
              have hns72_2 := NB221_233.out
              have hms72_0 := NB233_183.out
              have hms72_1 := NB233_213.out
              have hms72_2 := NB233_221.out
              refine skip_ (w1 := ?_) (by rfl) rfl ?_ ?_
              rotate_left
              ·go_simp
               rfl
              refine hK.out _ _ ⟨((cell_far (p := ⟨gb233, _, none⟩) NB183_233.out _).trans (((cell_far (p := ⟨gb233, _, none⟩) NB183_233.out _).trans (hHeld.1)))), ((cell_far (p := ⟨gb233, _, none⟩) NB183_233.out _).trans (((cell_far (p := ⟨gb233, _, none⟩) NB183_233.out _).trans (hHeld.2))))⟩ (fun hHeld => ?_)
              clear hK K
              refine pure_ (i := 8) (N := some 12) (v := ?_) (a' := ?_) #[true, true, true, true, true, true, true, true, true] rfl rfl (any_of HT_.out (by kernel_rfl)) (fun _ _ _ h => h) (Or.inl ⟨by rfl, ?_⟩) ?_ ?_
              rotate_left
              ·intro w'
               go_simp
               with_reducible rfl
              rotate_left
              ·simp only [Act.put, List.setIfInBounds_toArray, List.set_cons_zero, List.set_cons_succ, i64_w, i32_w]
               rfl
              refine done_ (done_of HT_.out (by kernel_rfl)) ?_
              have hnb73 := NB213_233.out
              have hnc73 := NB233_213.out
              have hcz74_0 : w69.cell? ⟨gb213, 0, none⟩ = some (.slice Ao52 t206.length co52) := (blk_cell BK213.out 0).trans rfl
              have hcz74_1 : w69.cell? ⟨gb213, 1, none⟩ = some (.int .i64 t209) := (blk_cell BK213.out 1).trans rfl
              have hfz74_0 := blk_frozen BK213.out 0
              have hfz74_1 := blk_frozen BK213.out 1
              have p234 : 0 ≤ (2 : Int) := (by omega)
              have q234 : 2 < (t206.length : Int) := of_decide_eq_true (by first | (with_reducible assumption) | assumption)
              obtain ⟨ad234, e234, hx234_0⟩ := Kd.at_int (Kd.R_reads' HO208.out).2.2 2 p234 q234
              cases e234
              (try simp only [show (2 : Int).toNat = 2 from rfl, Nat.reduceMul, Nat.reduceEqDiff, Go.Addr.add, ↓reduceIte] at hx234_0)
              have qi234 : (2 < t206.length) = True := eq_true (by omega)
              (try rw [show ((2 : Int)).toNat = 2 from rfl] at hx234_0)
              have hn234_0 : ad234.block ≠ gb233 := Kd.own_blk (Kd.R_ne HO208.out BK233.out (by decide))
              have hn234_1 : ad234.block ≠ gb233 := Kd.own_blk (Kd.R_ne HO208.out BK233.out (by decide))
              replace hx234_0 := (cell_far (p := ⟨gb233, 0, none⟩) (by first | (rw [add_block]; exact hn234_0) | (show (Addr.add _ _).block ≠ _; rw [add_block]; exact hn234_0) | exact hn234_0) (.slice Ao70 t226.length co70)).trans hx234_0
              replace hx234_0 := (cell_far (p := ⟨gb233, 1, none⟩) (by first | (rw [add_block]; exact hn234_1) | (show (Addr.add _ _).block ≠ _; rw [add_block]; exact hn234_1) | exact hn234_1) (.int .i64 t229)).trans hx234_0
              clear hn234_0
              clear hn234_1
              replace p234 := eq_true p234
              replace q234 := eq_true q234
              have hnb75 := NB183_233.out
              have hnc75 := NB233_183.out
              have hcz76_0 : w69.cell? ⟨gb183, 0, none⟩ = some (.slice Ao31 y180.length co31) := (blk_cell BK183.out 0).trans rfl
              have hcz76_1 : w69.cell? ⟨gb183, 1, none⟩ = some (.int .i64 (-5)) := (blk_cell BK183.out 1).trans rfl
              have hfz76_0 := blk_frozen BK183.out 0
              have hfz76_1 := blk_frozen BK183.out 1
              try go_wp2_with (first | ((with_reducible refine gate_dst (N := 83) rfl ?_); (try (refine gate_guard (by rfl) ?_; dsimp only)); refine Kd.R_lit Kd.string _ 9 ?hg (N := 83) ?hd (xs := ([(⟨#[105]⟩ : ByteArray), (⟨#[106]⟩ : ByteArray), (⟨#[107]⟩ : ByteArray)] : List ByteArray)) (inner := [.string (⟨#[105]⟩ : ByteArray), .string (⟨#[106]⟩ : ByteArray), .string (⟨#[107]⟩ : ByteArray)]) (ok := fun _ => True) (okp := fun _ => True) ?hr ?hp (fun _ hk => hk) trivial (Below.refl _ _) (Nat.le_refl _) (by simp) ?_; (case hd => rfl); (case hg => rfl); (case hr => first | (go_simp; done) | (go_simp; rfl)); (case hp => exact (Reps.one (show Kd.M Kd.string _ _ _ (⟨#[105]⟩ : ByteArray) [.string (⟨#[105]⟩ : ByteArray)] from rfl) (Reps.one (show Kd.M Kd.string _ _ _ (⟨#[106]⟩ : ByteArray) [.string (⟨#[106]⟩ : ByteArray)] from rfl) (Reps.one (show Kd.M Kd.string _ _ _ (⟨#[107]⟩ : ByteArray) [.string (⟨#[107]⟩ : ByteArray)] from rfl) (Reps.none _ _))))); intro v236 w77 ho78 hb hg_ hnew_; clear hg_ hnew_; (first | rw [← Ny235.out] at ho78 | (simp only [Int.reduceToNat] at ho78; rw [← Ny235.out] at ho78)); have n0_ := mk0 (Kd.R_below (uR (Kd.R_mono (Kd.R_far (p := ⟨gb233, 1, none⟩) (Kd.R_far (p := ⟨gb233, 0, none⟩) (Kd.R_types HO182.out BK233.out (by decide)) (fun _ hk => hk.2) (.slice Ao70 t226.length co70)) (fun _ hk => hk.2) (.int .i64 t229)) (fun _ h_ => h_.1))) hb); have n1_ := mk0 (Kd.R_below (uR (Kd.R_mono (Kd.R_far (p := ⟨gb233, 1, none⟩) (Kd.R_far (p := ⟨gb233, 0, none⟩) (Kd.R_types HO186.out BK233.out (by decide)) (fun _ hk => hk.2) (.slice Ao70 t226.length co70)) (fun _ hk => hk.2) (.int .i64 t229)) (fun _ h_ => h_.1))) hb); have n2_ := mk0 (Kd.R_below (uR (Kd.R_mono (Kd.R_far (p := ⟨gb233, 1, none⟩) (Kd.R_far (p := ⟨gb233, 0, none⟩) (Kd.R_types HO190.out BK233.out (by decide)) (fun _ hk => hk.2) (.slice Ao70 t226.length co70)) (fun _ hk => hk.2) (.int .i64 t229)) (fun _ h_ => h_.1))) hb); have n3_ := mk0 (Kd.R_below (uR (Kd.R_mono (Kd.R_far (p := ⟨gb233, 1, none⟩) (Kd.R_far (p := ⟨gb233, 0, none⟩) (Kd.R_types HO193.out BK233.out (by decide)) (fun _ hk => hk.2) (.slice Ao70 t226.length co70)) (fun _ hk => hk.2) (.int .i64 t229)) (fun _ h_ => h_.1))) hb); have n4_ := mk0 (Kd.R_below (uR (Kd.R_mono (Kd.R_far (p := ⟨gb233, 1, none⟩) (Kd.R_far (p := ⟨gb233, 0, none⟩) (Kd.R_types HO196.out BK233.out (by decide)) (fun _ hk => hk.2) (.slice Ao70 t226.length co70)) (fun _ hk => hk.2) (.int .i64 t229)) (fun _ h_ => h_.1))) hb); have n5_ := mk0 (Kd.R_below (uR (Kd.R_mono (Kd.R_far (p := ⟨gb233, 1, none⟩) (Kd.R_far (p := ⟨gb233, 0, none⟩) (Kd.R_types HO201.out BK233.out (by decide)) (fun _ hk => hk.2) (.slice Ao70 t226.length co70)) (fun _ hk => hk.2) (.int .i64 t229)) (fun _ h_ => h_.1))) hb); have n6_ := mk0 (Kd.R_below (uR (Kd.R_mono (Kd.R_far (p := ⟨gb233, 1, none⟩) (Kd.R_far (p := ⟨gb233, 0, none⟩) (Kd.R_types HO204.out BK233.out (by decide)) (fun _ hk => hk.2) (.slice Ao70 t226.length co70)) (fun _ hk => hk.2) (.int .i64 t229)) (fun _ h_ => h_.1))) hb); have n7_ := mk0 (Kd.R_below (uR (Kd.R_mono (Kd.R_far (p := ⟨gb233, 1, none⟩) (Kd.R_far (p := ⟨gb233, 0, none⟩) (Kd.R_types HO208.out BK233.out (by decide)) (fun _ hk => hk.2) (.slice Ao70 t226.length co70)) (fun _ hk => hk.2) (.int .i64 t229)) (fun _ h_ => h_.1))) hb); have n8_ := mk0 (Kd.R_below (uR (Kd.R_mono (Kd.R_far (p := ⟨gb233, 1, none⟩) (Kd.R_far (p := ⟨gb233, 0, none⟩) (Kd.R_types HO212.out BK233.out (by decide)) (fun _ hk => hk.2) (.slice Ao70 t226.length co70)) (fun _ hk => hk.2) (.int .i64 t229)) (fun _ h_ => h_.1))) hb); have n9_ := mk0 (Kd.R_below (uR (Kd.R_mono (Kd.R_far (p := ⟨gb233, 1, none⟩) (Kd.R_far (p := ⟨gb233, 0, none⟩) (Kd.R_types HO216.out BK233.out (by decide)) (fun _ hk => hk.2) (.slice Ao70 t226.length co70)) (fun _ hk => hk.2) (.int .i64 t229)) (fun _ h_ => h_.1))) hb); have n10_ := mk0 (Kd.R_below (uR (Kd.R_mono (Kd.R_far (p := ⟨gb233, 1, none⟩) (Kd.R_far (p := ⟨gb233, 0, none⟩) (Kd.R_types HO220.out BK233.out (by decide)) (fun _ hk => hk.2) (.slice Ao70 t226.length co70)) (fun _ hk => hk.2) (.int .i64 t229)) (fun _ h_ => h_.1))) hb); have n11_ := mk0 (Kd.R_below (uR (Kd.R_mono (Kd.R_far (p := ⟨gb233, 1, none⟩) (Kd.R_far (p := ⟨gb233, 0, none⟩) (Kd.R_types HO224.out BK233.out (by decide)) (fun _ hk => hk.2) (.slice Ao70 t226.length co70)) (fun _ hk => hk.2) (.int .i64 t229)) (fun _ h_ => h_.1))) hb); have n12_ := mk0 (Kd.R_below (uR (Kd.R_mono (Kd.R_far (p := ⟨gb233, 1, none⟩) (Kd.R_far (p := ⟨gb233, 0, none⟩) (Kd.R_types HO228.out BK233.out (by decide)) (fun _ hk => hk.2) (.slice Ao70 t226.length co70)) (fun _ hk => hk.2) (.int .i64 t229)) (fun _ h_ => h_.1))) hb); have n13_ := mk0 (Kd.R_below (uR (Kd.R_mono (Kd.R_far (p := ⟨gb233, 1, none⟩) (Kd.R_far (p := ⟨gb233, 0, none⟩) (Kd.R_types HO232.out BK233.out (by decide)) (fun _ hk => hk.2) (.slice Ao70 t226.length co70)) (fun _ hk => hk.2) (.int .i64 t229)) (fun _ h_ => h_.1))) hb); have n14_ := mk0 (Kd.R_lower ho78 (below_size (by repeat (first | (with_reducible first | exact HB.out | apply bA | apply bN | apply bD | refine bS ?_ (by assumption)) | exact HB.out)))); have n15_ := mk0 (blk_below (g := gb183) (o := .cells #[.slice Ao31 y180.length co31, .int .i64 (-5)] 24 (0, 0)) (by (with_reducible repeat (first | refine blk_drewN ?_ _ | refine blk_drew ?_ | refine blk_alloc ?_ _)); refine blk_far ?_ NB183_233.out _; (with_reducible repeat (first | refine blk_drewN ?_ _ | refine blk_drew ?_ | refine blk_alloc ?_ _)); refine blk_far ?_ NB183_233.out _; (with_reducible repeat (first | refine blk_drewN ?_ _ | refine blk_drew ?_ | refine blk_alloc ?_ _)); exact BK183.out) hb); have n16_ := mk0 (blk_below (g := gb213) (o := .cells #[.slice (some ad234) t206.length co52, .int .i64 t209] 24 (0, 0)) (by (with_reducible repeat (first | refine blk_drewN ?_ _ | refine blk_drew ?_ | refine blk_alloc ?_ _)); refine blk_far ?_ NB213_233.out _; (with_reducible repeat (first | refine blk_drewN ?_ _ | refine blk_drew ?_ | refine blk_alloc ?_ _)); refine blk_far ?_ NB213_233.out _; (with_reducible repeat (first | refine blk_drewN ?_ _ | refine blk_drew ?_ | refine blk_alloc ?_ _)); exact BK213.out) hb); have n17_ := mk0 (blk_below (g := gb221) (o := .cells #[.slice Ao59 t214.length co59, .int .i64 t217] 24 (0, 0)) (by (with_reducible repeat (first | refine blk_drewN ?_ _ | refine blk_drew ?_ | refine blk_alloc ?_ _)); refine blk_far ?_ NB221_233.out _; (with_reducible repeat (first | refine blk_drewN ?_ _ | refine blk_drew ?_ | refine blk_alloc ?_ _)); refine blk_far ?_ NB221_233.out _; (with_reducible repeat (first | refine blk_drewN ?_ _ | refine blk_drew ?_ | refine blk_alloc ?_ _)); exact BK221.out) hb); have n18_ := mk0 (blk_below (g := gb233) (o := .cells #[.slice Ao70 t226.length co70, .int .i64 t229] 24 (0, 0)) (by (with_reducible repeat (first | refine blk_drewN ?_ _ | refine blk_drew ?_ | refine blk_alloc ?_ _)); refine blk_put (cs := #[.slice Ao70 t226.length co70, .int .i64 0]) ?_ 1 _ rfl; (with_reducible repeat (first | refine blk_drewN ?_ _ | refine blk_drew ?_ | refine blk_alloc ?_ _)); refine blk_put (cs := #[.slice none 0 0, .int .i64 0]) ?_ 0 _ rfl; (with_reducible repeat (first | refine blk_drewN ?_ _ | refine blk_drew ?_ | refine blk_alloc ?_ _)); exact BK233.out) hb); have n19_ := mk0 (below_step (by repeat (first | (with_reducible first | exact HB.out | apply bA | apply bN | apply bD | refine bS ?_ (by assumption)) | exact HB.out)) hb); clear HO182; clear HO186; clear HO190; clear HO193; clear HO196; clear HO201; clear HO204; clear HO208; clear HO212; clear HO216; clear HO220; clear HO224; clear HO228; clear HO232; clear BK183; clear BK213; clear BK221; clear BK233; clear HB; have HO182 := n0_; have HO186 := n1_; have HO190 := n2_; have HO193 := n3_; have HO196 := n4_; have HO201 := n5_; have HO204 := n6_; have HO208 := n7_; have HO212 := n8_; have HO216 := n9_; have HO220 := n10_; have HO224 := n11_; have HO228 := n12_; have HO232 := n13_; have HO237 := n14_; have BK183 := n15_; have BK213 := n16_; have BK221 := n17_; have BK233 := n18_; have HB := n19_; clear n0_ n1_ n2_ n3_ n4_ n5_ n6_ n7_ n8_ n9_ n10_ n11_ n12_ n13_ n14_ n15_ n16_ n17_ n18_ n19_; clear hb ho78; obtain ⟨Ao79, co79, eo79⟩ := Kd.R_slice HO237.out; subst eo79) | (go_at_call 27; (with_reducible refine (lin_Text.calls _ _ y180 (-5) _ _ y235 t238 _ ?side1 ?side2 ?side3 ?side4 ?side5 A17.out).mono ?_); (case side1 => repeat (first | exact (Kd.R_reads' HO182.out).2.2 | (with_reducible refine Kd.C_alloc ?_ _) | (with_reducible refine Kd.C_drewN ?_ _) | (with_reducible refine Kd.C_drew ?_))); (case side2 => exact (Kd.R_reads' HO182.out).2.1); (case side3 => repeat (first | exact (Kd.R_reads' HO237.out).2.2 | (with_reducible refine Kd.C_alloc ?_ _) | (with_reducible refine Kd.C_drewN ?_ _) | (with_reducible refine Kd.C_drew ?_))); (case side4 => exact (Kd.R_reads' HO237.out).2.1); (case side5 => exact Glob.below HG.out (by repeat (first | (with_reducible first | exact HB.out | apply bA | apply bN | apply bD | refine bS ?_ (by assumption)) | exact HB.out))); rintro e w80 ⟨rfl, hb⟩; have n0_ := mk0 (Kd.R_below (uR HO182.out) hb); have n1_ := mk0 (Kd.R_below (uR HO186.out) hb); have n2_ := mk0 (Kd.R_below (uR HO190.out) hb); have n3_ := mk0 (Kd.R_below (uR HO193.out) hb); have n4_ := mk0 (Kd.R_below (uR HO196.out) hb); have n5_ := mk0 (Kd.R_below (uR HO201.out) hb); have n6_ := mk0 (Kd.R_below (uR HO204.out) hb); have n7_ := mk0 (Kd.R_below (uR HO208.out) hb); have n8_ := mk0 (Kd.R_below (uR HO212.out) hb); have n9_ := mk0 (Kd.R_below (uR HO216.out) hb); have n10_ := mk0 (Kd.R_below (uR HO220.out) hb); have n11_ := mk0 (Kd.R_below (uR HO224.out) hb); have n12_ := mk0 (Kd.R_below (uR HO228.out) hb); have n13_ := mk0 (Kd.R_below (uR HO232.out) hb); have n14_ := mk0 (Kd.R_below (uR HO237.out) hb); have n15_ := mk0 (blk_below (g := gb183) (o := .cells #[.slice Ao31 y180.length co31, .int .i64 (-5)] 24 (0, 0)) (uB BK183.out) hb); have n16_ := mk0 (blk_below (g := gb213) (o := .cells #[.slice (some ad234) t206.length co52, .int .i64 t209] 24 (0, 0)) (uB BK213.out) hb); have n17_ := mk0 (blk_below (g := gb221) (o := .cells #[.slice Ao59 t214.length co59, .int .i64 t217] 24 (0, 0)) (uB BK221.out) hb); have n18_ := mk0 (blk_below (g := gb233) (o := .cells #[.slice Ao70 t226.length co70, .int .i64 t229] 24 (0, 0)) (uB BK233.out) hb); have n19_ := mk0 (below_step (by repeat (first | (with_reducible first | exact HB.out | apply bA | apply bN | apply bD | refine bS ?_ (by assumption)) | exact HB.out)) hb); clear HO182; clear HO186; clear HO190; clear HO193; clear HO196; clear HO201; clear HO204; clear HO208; clear HO212; clear HO216; clear HO220; clear HO224; clear HO228; clear HO232; clear HO237; clear BK183; clear BK213; clear BK221; clear BK233; clear HB; have HO182 := n0_; have HO186 := n1_; have HO190 := n2_; have HO193 := n3_; have HO196 := n4_; have HO201 := n5_; have HO204 := n6_; have HO208 := n7_; have HO212 := n8_; have HO216 := n9_; have HO220 := n10_; have HO224 := n11_; have HO228 := n12_; have HO232 := n13_; have HO237 := n14_; have BK183 := n15_; have BK213 := n16_; have BK221 := n17_; have BK233 := n18_; have HB := n19_; clear n0_ n1_ n2_ n3_ n4_ n5_ n6_ n7_ n8_ n9_ n10_ n11_ n12_ n13_ n14_ n15_ n16_ n17_ n18_ n19_; (try clear hb); (try clear hb2); (try clear hk); (try clear hi)) | (go_at_call 23; (with_reducible refine (lin_Const.calls 1 0 t239 t242 _ A19.out).mono ?_); rintro e w81 ⟨v240, rfl, ho0, hb⟩; have n0_ := mk0 (Kd.R_elder' (uR HO182.out) (Kd.R_base ho0) hb); have n1_ := mk0 (Kd.R_elder' (uR HO186.out) (Kd.R_base ho0) hb); have n2_ := mk0 (Kd.R_below (uR HO190.out) hb); have n3_ := mk0 (Kd.R_elder' (uR HO193.out) (Kd.R_base ho0) hb); have n4_ := mk0 (Kd.R_elder' (uR HO196.out) (Kd.R_base ho0) hb); have n5_ := mk0 (Kd.R_below (uR HO201.out) hb); have n6_ := mk0 (Kd.R_elder' (uR HO204.out) (Kd.R_base ho0) hb); have n7_ := mk0 (Kd.R_elder' (uR HO208.out) (Kd.R_base ho0) hb); have n8_ := mk0 (Kd.R_below (uR HO212.out) hb); have n9_ := mk0 (Kd.R_elder' (uR HO216.out) (Kd.R_base ho0) hb); have n10_ := mk0 (Kd.R_below (uR HO220.out) hb); have n11_ := mk0 (Kd.R_elder' (uR HO224.out) (Kd.R_base ho0) hb); have n12_ := mk0 (Kd.R_elder' (uR HO228.out) (Kd.R_base ho0) hb); have n13_ := mk0 (Kd.R_below (uR HO232.out) hb); have n14_ := mk0 (Kd.R_below (uR HO237.out) hb); have n15_ := mk0 (Kd.R_lower (Kd.R_new' (Kd.R_new' (Kd.R_new' (Kd.R_new' (Kd.R_new' (Kd.R_new' (Kd.R_new' (Kd.R_new' (Kd.R_new' ho0 (Kd.R_lt (uR HO182.out))) (Kd.R_lt (uR HO186.out))) (Kd.R_lt (uR HO193.out))) (Kd.R_lt (uR HO196.out))) (Kd.R_lt (uR HO204.out))) (Kd.R_lt (uR HO208.out))) (Kd.R_lt (uR HO216.out))) (Kd.R_lt (uR HO224.out))) (Kd.R_lt (uR HO228.out))) (below_size (by repeat (first | (with_reducible first | exact HB.out | apply bA | apply bN | apply bD | refine bS ?_ (by assumption)) | exact HB.out)))); have n16_ := mk0 (blk_below (g := gb183) (o := .cells #[.slice Ao31 y180.length co31, .int .i64 (-5)] 24 (0, 0)) (uB BK183.out) hb); have n17_ := mk0 (blk_below (g := gb213) (o := .cells #[.slice (some ad234) t206.length co52, .int .i64 t209] 24 (0, 0)) (uB BK213.out) hb); have n18_ := mk0 (blk_below (g := gb221) (o := .cells #[.slice Ao59 t214.length co59, .int .i64 t217] 24 (0, 0)) (uB BK221.out) hb); have n19_ := mk0 (blk_below (g := gb233) (o := .cells #[.slice Ao70 t226.length co70, .int .i64 t229] 24 (0, 0)) (uB BK233.out) hb); have n20_ := mk0 (below_step (by repeat (first | (with_reducible first | exact HB.out | apply bA | apply bN | apply bD | refine bS ?_ (by assumption)) | exact HB.out)) hb); clear HO182; clear HO186; clear HO190; clear HO193; clear HO196; clear HO201; clear HO204; clear HO208; clear HO212; clear HO216; clear HO220; clear HO224; clear HO228; clear HO232; clear HO237; clear BK183; clear BK213; clear BK221; clear BK233; clear HB; have HO182 := n0_; have HO186 := n1_; have HO190 := n2_; have HO193 := n3_; have HO196 := n4_; have HO201 := n5_; have HO204 := n6_; have HO208 := n7_; have HO212 := n8_; have HO216 := n9_; have HO220 := n10_; have HO224 := n11_; have HO228 := n12_; have HO232 := n13_; have HO237 := n14_; have HO241 := n15_; have BK183 := n16_; have BK213 := n17_; have BK221 := n18_; have BK233 := n19_; have HB := n20_; clear n0_ n1_ n2_ n3_ n4_ n5_ n6_ n7_ n8_ n9_ n10_ n11_ n12_ n13_ n14_ n15_ n16_ n17_ n18_ n19_ n20_; (try clear hb); (try clear hb2); (try clear hk); (try clear hi); (try clear ho0); obtain ⟨Ao82, co82, eo82⟩ := Kd.R_slice HO241.out; subst eo82) | (go_at_call 27; (refine (lin_Text.calls _ _ t239 t242 _ _ ([] : List ByteArray) t243 _ ?side1 ?side2 ?side3 ?side4 ?side5 A20.out).mono ?_); (case side1 => repeat (first | exact (Kd.R_reads' HO241.out).2.2 | (with_reducible refine Kd.C_alloc ?_ _) | (with_reducible refine Kd.C_drewN ?_ _) | (with_reducible refine Kd.C_drew ?_))); (case side2 => exact (Kd.R_reads' HO241.out).2.1); (case side3 => exact Kd.C_nil _ _); (case side4 => exact Nat.le_refl _); (case side5 => exact Glob.below HG.out (by repeat (first | (with_reducible first | exact HB.out | apply bA | apply bN | apply bD | refine bS ?_ (by assumption)) | exact HB.out))); rintro e w83 ⟨rfl, hb⟩; have n0_ := mk0 (Kd.R_below (uR HO182.out) hb); have n1_ := mk0 (Kd.R_below (uR HO186.out) hb); have n2_ := mk0 (Kd.R_below (uR HO190.out) hb); have n3_ := mk0 (Kd.R_below (uR HO193.out) hb); have n4_ := mk0 (Kd.R_below (uR HO196.out) hb); have n5_ := mk0 (Kd.R_below (uR HO201.out) hb); have n6_ := mk0 (Kd.R_below (uR HO204.out) hb); have n7_ := mk0 (Kd.R_below (uR HO208.out) hb); have n8_ := mk0 (Kd.R_below (uR HO212.out) hb); have n9_ := mk0 (Kd.R_below (uR HO216.out) hb); have n10_ := mk0 (Kd.R_below (uR HO220.out) hb); have n11_ := mk0 (Kd.R_below (uR HO224.out) hb); have n12_ := mk0 (Kd.R_below (uR HO228.out) hb); have n13_ := mk0 (Kd.R_below (uR HO232.out) hb); have n14_ := mk0 (Kd.R_below (uR HO237.out) hb); have n15_ := mk0 (Kd.R_below (uR HO241.out) hb); have n16_ := mk0 (blk_below (g := gb183) (o := .cells #[.slice Ao31 y180.length co31, .int .i64 (-5)] 24 (0, 0)) (uB BK183.out) hb); have n17_ := mk0 (blk_below (g := gb213) (o := .cells #[.slice (some ad234) t206.length co52, .int .i64 t209] 24 (0, 0)) (uB BK213.out) hb); have n18_ := mk0 (blk_below (g := gb221) (o := .cells #[.slice Ao59 t214.length co59, .int .i64 t217] 24 (0, 0)) (uB BK221.out) hb); have n19_ := mk0 (blk_below (g := gb233) (o := .cells #[.slice Ao70 t226.length co70, .int .i64 t229] 24 (0, 0)) (uB BK233.out) hb); have n20_ := mk0 (below_step (by repeat (first | (with_reducible first | exact HB.out | apply bA | apply bN | apply bD | refine bS ?_ (by assumption)) | exact HB.out)) hb); clear HO182; clear HO186; clear HO190; clear HO193; clear HO196; clear HO201; clear HO204; clear HO208; clear HO212; clear HO216; clear HO220; clear HO224; clear HO228; clear HO232; clear HO237; clear HO241; clear BK183; clear BK213; clear BK221; clear BK233; clear HB; have HO182 := n0_; have HO186 := n1_; have HO190 := n2_; have HO193 := n3_; have HO196 := n4_; have HO201 := n5_; have HO204 := n6_; have HO208 := n7_; have HO212 := n8_; have HO216 := n9_; have HO220 := n10_; have HO224 := n11_; have HO228 := n12_; have HO232 := n13_; have HO237 := n14_; have HO241 := n15_; have BK183 := n16_; have BK213 := n17_; have BK221 := n18_; have BK233 := n19_; have HB := n20_; clear n0_ n1_ n2_ n3_ n4_ n5_ n6_ n7_ n8_ n9_ n10_ n11_ n12_ n13_ n14_ n15_ n16_ n17_ n18_ n19_ n20_; (try clear hb); (try clear hb2); (try clear hk); (try clear hi)) | (go_at_call 29; (with_reducible refine (furrowref4_At.calls (⟨#[102, 111, 114, 109]⟩ : ByteArray) 0 5 t244 t247 _ A22.out).mono ?_); rintro e w84 ⟨v245, rfl, ho0, hb⟩; have n0_ := mk0 (Kd.R_below (uR HO182.out) hb); have n1_ := mk0 (Kd.R_below (uR HO186.out) hb); have n2_ := mk0 (Kd.R_below (uR HO190.out) hb); have n3_ := mk0 (Kd.R_below (uR HO193.out) hb); have n4_ := mk0 (Kd.R_below (uR HO196.out) hb); have n5_ := mk0 (Kd.R_below (uR HO201.out) hb); have n6_ := mk0 (Kd.R_below (uR HO204.out) hb); have n7_ := mk0 (Kd.R_below (uR HO208.out) hb); have n8_ := mk0 (Kd.R_below (uR HO212.out) hb); have n9_ := mk0 (Kd.R_below (uR HO216.out) hb); have n10_ := mk0 (Kd.R_below (uR HO220.out) hb); have n11_ := mk0 (Kd.R_below (uR HO224.out) hb); have n12_ := mk0 (Kd.R_below (uR HO228.out) hb); have n13_ := mk0 (Kd.R_below (uR HO232.out) hb); have n14_ := mk0 (Kd.R_below (uR HO237.out) hb); have n15_ := mk0 (Kd.R_below (uR HO241.out) hb); have n16_ := mk0 (Kd.R_lower ho0 (below_size (by repeat (first | (with_reducible first | exact HB.out | apply bA | apply bN | apply bD | refine bS ?_ (by assumption)) | exact HB.out)))); have n17_ := mk0 (blk_below (g := gb183) (o := .cells #[.slice Ao31 y180.length co31, .int .i64 (-5)] 24 (0, 0)) (uB BK183.out) hb); have n18_ := mk0 (blk_below (g := gb213) (o := .cells #[.slice (some ad234) t206.length co52, .int .i64 t209] 24 (0, 0)) (uB BK213.out) hb); have n19_ := mk0 (blk_below (g := gb221) (o := .cells #[.slice Ao59 t214.length co59, .int .i64 t217] 24 (0, 0)) (uB BK221.out) hb); have n20_ := mk0 (blk_below (g := gb233) (o := .cells #[.slice Ao70 t226.length co70, .int .i64 t229] 24 (0, 0)) (uB BK233.out) hb); have n21_ := mk0 (below_step (by repeat (first | (with_reducible first | exact HB.out | apply bA | apply bN | apply bD | refine bS ?_ (by assumption)) | exact HB.out)) hb); clear HO182; clear HO186; clear HO190; clear HO193; clear HO196; clear HO201; clear HO204; clear HO208; clear HO212; clear HO216; clear HO220; clear HO224; clear HO228; clear HO232; clear HO237; clear HO241; clear BK183; clear BK213; clear BK221; clear BK233; clear HB; have HO182 := n0_; have HO186 := n1_; have HO190 := n2_; have HO193 := n3_; have HO196 := n4_; have HO201 := n5_; have HO204 := n6_; have HO208 := n7_; have HO212 := n8_; have HO216 := n9_; have HO220 := n10_; have HO224 := n11_; have HO228 := n12_; have HO232 := n13_; have HO237 := n14_; have HO241 := n15_; have HO246 := n16_; have BK183 := n17_; have BK213 := n18_; have BK221 := n19_; have BK233 := n20_; have HB := n21_; clear n0_ n1_ n2_ n3_ n4_ n5_ n6_ n7_ n8_ n9_ n10_ n11_ n12_ n13_ n14_ n15_ n16_ n17_ n18_ n19_ n20_ n21_; (try clear hb); (try clear hb2); (try clear hk); (try clear hi); (try clear ho0); obtain ⟨Ao85, co85, eo85⟩ := Kd.R_slice HO220.out; subst eo85; obtain ⟨Ao86, co86, eo86⟩ := Kd.R_slice HO246.out; subst eo86) | (go_at_call 16; (with_reducible refine (furrowlaw2_Tells.calls _ _ t218 _ _ t244 t247 true _ ?side1 ?side2 ?side3 ?side4 ?side5 A23.out).mono ?_); (case side1 => repeat (first | exact (Kd.R_reads' HO220.out).2.2 | (with_reducible refine Kd.C_alloc ?_ _) | (with_reducible refine Kd.C_drewN ?_ _) | (with_reducible refine Kd.C_drew ?_))); (case side2 => exact (Kd.R_reads' HO220.out).2.1); (case side3 => repeat (first | exact (Kd.R_reads' HO246.out).2.2 | (with_reducible refine Kd.C_alloc ?_ _) | (with_reducible refine Kd.C_drewN ?_ _) | (with_reducible refine Kd.C_drew ?_))); (case side4 => exact (Kd.R_reads' HO246.out).2.1); (case side5 => exact Glob.below HG.out (by repeat (first | (with_reducible first | exact HB.out | apply bA | apply bN | apply bD | refine bS ?_ (by assumption)) | exact HB.out))); rintro e w87 ⟨rfl, hb⟩; have n0_ := mk0 (Kd.R_below (uR HO182.out) hb); have n1_ := mk0 (Kd.R_below (uR HO186.out) hb); have n2_ := mk0 (Kd.R_below (uR HO190.out) hb); have n3_ := mk0 (Kd.R_below (uR HO193.out) hb); have n4_ := mk0 (Kd.R_below (uR HO196.out) hb); have n5_ := mk0 (Kd.R_below (uR HO201.out) hb); have n6_ := mk0 (Kd.R_below (uR HO204.out) hb); have n7_ := mk0 (Kd.R_below (uR HO208.out) hb); have n8_ := mk0 (Kd.R_below (uR HO212.out) hb); have n9_ := mk0 (Kd.R_below (uR HO216.out) hb); have n10_ := mk0 (Kd.R_below (uR HO220.out) hb); have n11_ := mk0 (Kd.R_below (uR HO224.out) hb); have n12_ := mk0 (Kd.R_below (uR HO228.out) hb); have n13_ := mk0 (Kd.R_below (uR HO232.out) hb); have n14_ := mk0 (Kd.R_below (uR HO237.out) hb); have n15_ := mk0 (Kd.R_below (uR HO241.out) hb); have n16_ := mk0 (Kd.R_below (uR HO246.out) hb); have n17_ := mk0 (blk_below (g := gb183) (o := .cells #[.slice Ao31 y180.length co31, .int .i64 (-5)] 24 (0, 0)) (uB BK183.out) hb); have n18_ := mk0 (blk_below (g := gb213) (o := .cells #[.slice (some ad234) t206.length co52, .int .i64 t209] 24 (0, 0)) (uB BK213.out) hb); have n19_ := mk0 (blk_below (g := gb221) (o := .cells #[.slice Ao59 t214.length co59, .int .i64 t217] 24 (0, 0)) (uB BK221.out) hb); have n20_ := mk0 (blk_below (g := gb233) (o := .cells #[.slice Ao70 t226.length co70, .int .i64 t229] 24 (0, 0)) (uB BK233.out) hb); have n21_ := mk0 (below_step (by repeat (first | (with_reducible first | exact HB.out | apply bA | apply bN | apply bD | refine bS ?_ (by assumption)) | exact HB.out)) hb); clear HO182; clear HO186; clear HO190; clear HO193; clear HO196; clear HO201; clear HO204; clear HO208; clear HO212; clear HO216; clear HO220; clear HO224; clear HO228; clear HO232; clear HO237; clear HO241; clear HO246; clear BK183; clear BK213; clear BK221; clear BK233; clear HB; have HO182 := n0_; have HO186 := n1_; have HO190 := n2_; have HO193 := n3_; have HO196 := n4_; have HO201 := n5_; have HO204 := n6_; have HO208 := n7_; have HO212 := n8_; have HO216 := n9_; have HO220 := n10_; have HO224 := n11_; have HO228 := n12_; have HO232 := n13_; have HO237 := n14_; have HO241 := n15_; have HO246 := n16_; have BK183 := n17_; have BK213 := n18_; have BK221 := n19_; have BK233 := n20_; have HB := n21_; clear n0_ n1_ n2_ n3_ n4_ n5_ n6_ n7_ n8_ n9_ n10_ n11_ n12_ n13_ n14_ n15_ n16_ n17_ n18_ n19_ n20_ n21_; (try clear hb); (try clear hb2); (try clear hk); (try clear hi)) | (go_at_call 29; (with_reducible refine (furrowref4_At.calls (⟨#[102, 111, 114, 109]⟩ : ByteArray) 0 1 t249 t252 _ A25.out).mono ?_); rintro e w88 ⟨v250, rfl, ho0, hb⟩; have n0_ := mk0 (Kd.R_below (uR HO182.out) hb); have n1_ := mk0 (Kd.R_below (uR HO186.out) hb); have n2_ := mk0 (Kd.R_below (uR HO190.out) hb); have n3_ := mk0 (Kd.R_below (uR HO193.out) hb); have n4_ := mk0 (Kd.R_below (uR HO196.out) hb); have n5_ := mk0 (Kd.R_below (uR HO201.out) hb); have n6_ := mk0 (Kd.R_below (uR HO204.out) hb); have n7_ := mk0 (Kd.R_below (uR HO208.out) hb); have n8_ := mk0 (Kd.R_below (uR HO212.out) hb); have n9_ := mk0 (Kd.R_below (uR HO216.out) hb); have n10_ := mk0 (Kd.R_below (uR HO220.out) hb); have n11_ := mk0 (Kd.R_below (uR HO224.out) hb); have n12_ := mk0 (Kd.R_below (uR HO228.out) hb); have n13_ := mk0 (Kd.R_below (uR HO232.out) hb); have n14_ := mk0 (Kd.R_below (uR HO237.out) hb); have n15_ := mk0 (Kd.R_below (uR HO241.out) hb); have n16_ := mk0 (Kd.R_elder' (uR HO246.out) (Kd.R_base ho0) hb); have n17_ := mk0 (Kd.R_lower (Kd.R_new' ho0 (Kd.R_lt (uR HO246.out))) (below_size (by repeat (first | (with_reducible first | exact HB.out | apply bA | apply bN | apply bD | refine bS ?_ (by assumption)) | exact HB.out)))); have n18_ := mk0 (blk_below (g := gb183) (o := .cells #[.slice Ao31 y180.length co31, .int .i64 (-5)] 24 (0, 0)) (uB BK183.out) hb); have n19_ := mk0 (blk_below (g := gb213) (o := .cells #[.slice (some ad234) t206.length co52, .int .i64 t209] 24 (0, 0)) (uB BK213.out) hb); have n20_ := mk0 (blk_below (g := gb221) (o := .cells #[.slice Ao59 t214.length co59, .int .i64 t217] 24 (0, 0)) (uB BK221.out) hb); have n21_ := mk0 (blk_below (g := gb233) (o := .cells #[.slice Ao70 t226.length co70, .int .i64 t229] 24 (0, 0)) (uB BK233.out) hb); have n22_ := mk0 (below_step (by repeat (first | (with_reducible first | exact HB.out | apply bA | apply bN | apply bD | refine bS ?_ (by assumption)) | exact HB.out)) hb); clear HO182; clear HO186; clear HO190; clear HO193; clear HO196; clear HO201; clear HO204; clear HO208; clear HO212; clear HO216; clear HO220; clear HO224; clear HO228; clear HO232; clear HO237; clear HO241; clear HO246; clear BK183; clear BK213; clear BK221; clear BK233; clear HB; have HO182 := n0_; have HO186 := n1_; have HO190 := n2_; have HO193 := n3_; have HO196 := n4_; have HO201 := n5_; have HO204 := n6_; have HO208 := n7_; have HO212 := n8_; have HO216 := n9_; have HO220 := n10_; have HO224 := n11_; have HO228 := n12_; have HO232 := n13_; have HO237 := n14_; have HO241 := n15_; have HO246 := n16_; have HO251 := n17_; have BK183 := n18_; have BK213 := n19_; have BK221 := n20_; have BK233 := n21_; have HB := n22_; clear n0_ n1_ n2_ n3_ n4_ n5_ n6_ n7_ n8_ n9_ n10_ n11_ n12_ n13_ n14_ n15_ n16_ n17_ n18_ n19_ n20_ n21_ n22_; (try clear hb); (try clear hb2); (try clear hk); (try clear hi); (try clear ho0); obtain ⟨Ao89, co89, eo89⟩ := Kd.R_slice HO232.out; subst eo89; obtain ⟨Ao90, co90, eo90⟩ := Kd.R_slice HO251.out; subst eo90) | (go_at_call 16; (with_reducible refine (furrowlaw2_Tells.calls _ _ t230 _ _ t249 t252 true _ ?side1 ?side2 ?side3 ?side4 ?side5 A26.out).mono ?_); (case side1 => repeat (first | exact (Kd.R_reads' HO232.out).2.2 | (with_reducible refine Kd.C_alloc ?_ _) | (with_reducible refine Kd.C_drewN ?_ _) | (with_reducible refine Kd.C_drew ?_))); (case side2 => exact (Kd.R_reads' HO232.out).2.1); (case side3 => repeat (first | exact (Kd.R_reads' HO251.out).2.2 | (with_reducible refine Kd.C_alloc ?_ _) | (with_reducible refine Kd.C_drewN ?_ _) | (with_reducible refine Kd.C_drew ?_))); (case side4 => exact (Kd.R_reads' HO251.out).2.1); (case side5 => exact Glob.below HG.out (by repeat (first | (with_reducible first | exact HB.out | apply bA | apply bN | apply bD | refine bS ?_ (by assumption)) | exact HB.out))); rintro e w91 ⟨rfl, hb⟩; have n0_ := mk0 (Kd.R_below (uR HO182.out) hb); have n1_ := mk0 (Kd.R_below (uR HO186.out) hb); have n2_ := mk0 (Kd.R_below (uR HO190.out) hb); have n3_ := mk0 (Kd.R_below (uR HO193.out) hb); have n4_ := mk0 (Kd.R_below (uR HO196.out) hb); have n5_ := mk0 (Kd.R_below (uR HO201.out) hb); have n6_ := mk0 (Kd.R_below (uR HO204.out) hb); have n7_ := mk0 (Kd.R_below (uR HO208.out) hb); have n8_ := mk0 (Kd.R_below (uR HO212.out) hb); have n9_ := mk0 (Kd.R_below (uR HO216.out) hb); have n10_ := mk0 (Kd.R_below (uR HO220.out) hb); have n11_ := mk0 (Kd.R_below (uR HO224.out) hb); have n12_ := mk0 (Kd.R_below (uR HO228.out) hb); have n13_ := mk0 (Kd.R_below (uR HO232.out) hb); have n14_ := mk0 (Kd.R_below (uR HO237.out) hb); have n15_ := mk0 (Kd.R_below (uR HO241.out) hb); have n16_ := mk0 (Kd.R_below (uR HO246.out) hb); have n17_ := mk0 (Kd.R_below (uR HO251.out) hb); have n18_ := mk0 (blk_below (g := gb183) (o := .cells #[.slice Ao31 y180.length co31, .int .i64 (-5)] 24 (0, 0)) (uB BK183.out) hb); have n19_ := mk0 (blk_below (g := gb213) (o := .cells #[.slice (some ad234) t206.length co52, .int .i64 t209] 24 (0, 0)) (uB BK213.out) hb); have n20_ := mk0 (blk_below (g := gb221) (o := .cells #[.slice Ao59 t214.length co59, .int .i64 t217] 24 (0, 0)) (uB BK221.out) hb); have n21_ := mk0 (blk_below (g := gb233) (o := .cells #[.slice Ao70 t226.length co70, .int .i64 t229] 24 (0, 0)) (uB BK233.out) hb); have n22_ := mk0 (below_step (by repeat (first | (with_reducible first | exact HB.out | apply bA | apply bN | apply bD | refine bS ?_ (by assumption)) | exact HB.out)) hb); clear HO182; clear HO186; clear HO190; clear HO193; clear HO196; clear HO201; clear HO204; clear HO208; clear HO212; clear HO216; clear HO220; clear HO224; clear HO228; clear HO232; clear HO237; clear HO241; clear HO246; clear HO251; clear BK183; clear BK213; clear BK221; clear BK233; clear HB; have HO182 := n0_; have HO186 := n1_; have HO190 := n2_; have HO193 := n3_; have HO196 := n4_; have HO201 := n5_; have HO204 := n6_; have HO208 := n7_; have HO212 := n8_; have HO216 := n9_; have HO220 := n10_; have HO224 := n11_; have HO228 := n12_; have HO232 := n13_; have HO237 := n14_; have HO241 := n15_; have HO246 := n16_; have HO251 := n17_; have BK183 := n18_; have BK213 := n19_; have BK221 := n20_; have BK233 := n21_; have HB := n22_; clear n0_ n1_ n2_ n3_ n4_ n5_ n6_ n7_ n8_ n9_ n10_ n11_ n12_ n13_ n14_ n15_ n16_ n17_ n18_ n19_ n20_ n21_ n22_; (try clear hb); (try clear hb2); (try clear hk); (try clear hi); have hcz92_0 : w91.cell? ⟨gb183, 0, none⟩ = some (.slice Ao31 y180.length co31) := (blk_cell BK183.out 0).trans rfl; have hcz92_1 : w91.cell? ⟨gb183, 1, none⟩ = some (.int .i64 (-5)) := (blk_cell BK183.out 1).trans rfl; have hfz92_0 := blk_frozen BK183.out 0; have hfz92_1 := blk_frozen BK183.out 1) | (go_at_call 18; (with_reducible refine (lin_Same.calls k _ _ y180 (-5) _ _ y180 (-5) t254 _ ?side1 ?side2 ?side3 ?side4 A28.out).mono ?_); (case side1 => repeat (first | exact (Kd.R_reads' HO182.out).2.2 | (with_reducible refine Kd.C_alloc ?_ _) | (with_reducible refine Kd.C_drewN ?_ _) | (with_reducible refine Kd.C_drew ?_))); (case side2 => exact (Kd.R_reads' HO182.out).2.1); (case side3 => repeat (first | exact (Kd.R_reads' HO182.out).2.2 | (with_reducible refine Kd.C_alloc ?_ _) | (with_reducible refine Kd.C_drewN ?_ _) | (with_reducible refine Kd.C_drew ?_))); (case side4 => exact (Kd.R_reads' HO182.out).2.1); rintro e w93 ⟨rfl, hb⟩; have n0_ := mk0 (Kd.R_below (uR HO182.out) hb); have n1_ := mk0 (Kd.R_below (uR HO186.out) hb); have n2_ := mk0 (Kd.R_below (uR HO190.out) hb); have n3_ := mk0 (Kd.R_below (uR HO193.out) hb); have n4_ := mk0 (Kd.R_below (uR HO196.out) hb); have n5_ := mk0 (Kd.R_below (uR HO201.out) hb); have n6_ := mk0 (Kd.R_below (uR HO204.out) hb); have n7_ := mk0 (Kd.R_below (uR HO208.out) hb); have n8_ := mk0 (Kd.R_below (uR HO212.out) hb); have n9_ := mk0 (Kd.R_below (uR HO216.out) hb); have n10_ := mk0 (Kd.R_below (uR HO220.out) hb); have n11_ := mk0 (Kd.R_below (uR HO224.out) hb); have n12_ := mk0 (Kd.R_below (uR HO228.out) hb); have n13_ := mk0 (Kd.R_below (uR HO232.out) hb); have n14_ := mk0 (Kd.R_below (uR HO237.out) hb); have n15_ := mk0 (Kd.R_below (uR HO241.out) hb); have n16_ := mk0 (Kd.R_below (uR HO246.out) hb); have n17_ := mk0 (Kd.R_below (uR HO251.out) hb); have n18_ := mk0 (blk_below (g := gb183) (o := .cells #[.slice Ao31 y180.length co31, .int .i64 (-5)] 24 (0, 0)) (uB BK183.out) hb); have n19_ := mk0 (blk_below (g := gb213) (o := .cells #[.slice (some ad234) t206.length co52, .int .i64 t209] 24 (0, 0)) (uB BK213.out) hb); have n20_ := mk0 (blk_below (g := gb221) (o := .cells #[.slice Ao59 t214.length co59, .int .i64 t217] 24 (0, 0)) (uB BK221.out) hb); have n21_ := mk0 (blk_below (g := gb233) (o := .cells #[.slice Ao70 t226.length co70, .int .i64 t229] 24 (0, 0)) (uB BK233.out) hb); have n22_ := mk0 (below_step (by repeat (first | (with_reducible first | exact HB.out | apply bA | apply bN | apply bD | refine bS ?_ (by assumption)) | exact HB.out)) hb); clear HO182; clear HO186; clear HO190; clear HO193; clear HO196; clear HO201; clear HO204; clear HO208; clear HO212; clear HO216; clear HO220; clear HO224; clear HO228; clear HO232; clear HO237; clear HO241; clear HO246; clear HO251; clear BK183; clear BK213; clear BK221; clear BK233; clear HB; have HO182 := n0_; have HO186 := n1_; have HO190 := n2_; have HO193 := n3_; have HO196 := n4_; have HO201 := n5_; have HO204 := n6_; have HO208 := n7_; have HO212 := n8_; have HO216 := n9_; have HO220 := n10_; have HO224 := n11_; have HO228 := n12_; have HO232 := n13_; have HO237 := n14_; have HO241 := n15_; have HO246 := n16_; have HO251 := n17_; have BK183 := n18_; have BK213 := n19_; have BK221 := n20_; have BK233 := n21_; have HB := n22_; clear n0_ n1_ n2_ n3_ n4_ n5_ n6_ n7_ n8_ n9_ n10_ n11_ n12_ n13_ n14_ n15_ n16_ n17_ n18_ n19_ n20_ n21_ n22_; (try clear hb); (try clear hb2); (try clear hk); (try clear hi)))
              go_ret
              exact ⟨by first | rfl | (simp [errW_none, errW_some] <;> rfl) | (exact congrArg (fun b_ => Ending.returned (Value.bool b_)) HT.out) | (rw [show _ = _ from HT.out]) | (simp [HT.out]; done) | (simp [show _ = _ from HT.out]; done) | (simp [*, errW_none, errW_some] <;> rfl), by repeat (first | (with_reducible first | exact HB.out | apply bA | apply bN | apply bD | refine bS ?_ (by assumption)) | exact HB.out)⟩
             ·replace c27 := Bool.eq_false_iff.mpr c27
              subst c27
              have H1 : (some false) = some true := by rw [if_neg (show ¬ (false = true) by decide)] at H; first | done | exact H
              clear H
              have H := H1
              clear H1
              exact absurd H (by simp)
            ·replace c24 := Bool.eq_false_iff.mpr c24
             subst c24
             have H1 : (some false) = some true := by rw [if_neg (show ¬ (false = true) by decide)] at H; first | done | exact H
             clear H
             have H := H1
             clear H1
             exact absurd H (by simp)
           ·rw [if_neg c21] at H
            have c21b0 : (t243.toList == ([48] : List UInt8)) = false := beq_eq_false_iff_ne.mpr c21
            have c21b1 : (t243.toList != ([48] : List UInt8)) = true := bne_iff_ne.mpr c21
            exact absurd H (by simp)
          ·rw [if_neg c18] at H
           have c18b0 : (t238.toList == ([50, 42, 105, 32, 45, 32, 107, 32, 45, 32, 53] : List UInt8)) = false := beq_eq_false_iff_ne.mpr c18
           have c18b1 : (t238.toList != ([50, 42, 105, 32, 45, 32, 107, 32, 45, 32, 53] : List UInt8)) = true := bne_iff_ne.mpr c18
           exact absurd H (by simp)
         ·rw [if_neg c16] at H
          have c16b0 : ((rd t206 2) == 0) = false := beq_eq_false_iff_ne.mpr c16
          have c16b1 : ((rd t206 2) != 0) = true := bne_iff_ne.mpr c16
          exact absurd H (by simp)
        ·rw [if_neg c15] at H
         exact absurd H (by simp)
       ·rw [if_neg c14] at H
        have c14b0 : ((t206.length : Int) == 3) = false := beq_eq_false_iff_ne.mpr c14
        have c14b1 : ((t206.length : Int) != 3) = true := bne_iff_ne.mpr c14
        exact absurd H (by simp)
      ·rw [if_neg c13] at H
       have c13b0 : ((t210.length : Int) == 0) = false := beq_eq_false_iff_ne.mpr c13
       have c13b1 : ((t210.length : Int) != 0) = true := bne_iff_ne.mpr c13
       have c13b2 : ¬ (t210 = []) := fun h_ => c13 (by rw [h_]; rfl)
       exact absurd H (by simp)
     ·rw [if_neg c12] at H
      have c12b0 : (t198 == 0) = false := beq_eq_false_iff_ne.mpr c12
      have c12b1 : (t198 != 0) = true := bne_iff_ne.mpr c12
      exact absurd H (by simp)
    ·rw [if_neg c11] at H
     have c11b0 : (t197 == (-5)) = false := beq_eq_false_iff_ne.mpr c11
     have c11b1 : (t197 != (-5)) = true := bne_iff_ne.mpr c11
     exact absurd H (by simp)
   ·rw [if_neg c10] at H
    have c10b0 : ((t199.length : Int) == 0) = false := beq_eq_false_iff_ne.mpr c10
    have c10b1 : ((t199.length : Int) != 0) = true := bne_iff_ne.mpr c10
    have c10b2 : ¬ (t199 = []) := fun h_ => c10 (by rw [h_]; rfl)
    exact absurd H (by simp)
  ·rw [if_neg c9] at H
   have c9b0 : (t187 == (-3)) = false := beq_eq_false_iff_ne.mpr c9
   have c9b1 : (t187 != (-3)) = true := bne_iff_ne.mpr c9
   exact absurd H (by simp)
 ·rw [if_neg c8] at H
  have c8b0 : ((t188.length : Int) == 0) = false := beq_eq_false_iff_ne.mpr c8
  have c8b1 : ((t188.length : Int) != 0) = true := bne_iff_ne.mpr c8
  have c8b2 : ¬ (t188 = []) := fun h_ => c8 (by rw [h_]; rfl)
  exact absurd H (by simp)

end Go.Proofs.YtmnifoeodohphaaDoor.X
