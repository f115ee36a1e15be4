-- PRINTED by print.py (a twelfth state) out of the translation. Not trusted: Lean checks it.
import Derived.Test.YtkkpgjkjkcmcbaaDoorXx0
import Derived.Test.YtkkpgjkjkcmcbaaDoorXx11
import Derived.Test.YtkkpgjkjkcmcbaaDoorXx7
import Derived.Test.YtkkpgjkjkcmcbaaDoorXx9
import Derived.Test.YtkkpgjkjkcmcbaaDoorHandB
namespace Go.Proofs.YtkkpgjkjkcmcbaaDoor.X
open Go.Proofs.YtkkpgjkjkcmcbaaDoor.Flt Go.Proofs.YtkkpgjkjkcmcbaaDoor.H Go.RowKit Go.Proofs.YtkkpgjkjkcmcbaaDoorW.PrintWords Go.Proofs.YtkkpgjkjkcmcbaaDoorW.PrintLast Go.Proofs.YtkkpgjkjkcmcbaaDoorW.PrintMore
attribute [local go_sem] max2_int min2_int max_two min_two max_three min_three max_four min_four   -- for this text's walks alone
set_option linter.unusedVariables false
set_option linter.unusedSimpArgs false

/-! ### furrowlaw15_SysBox: function 5 -/
mutual
def furrowlaw15_SysBox.j0 : Nat → List Int → List Int → List Int → Bool → Option (Bool)
 | 0, _, _, _, _ => none
 | k + 1, x0, x1, x2, x35 => if x35 = true then (some true) else (furrowlaw15_SysBox.l0 k x0 x1 x2 0 (x0.length : Int) ([] : List (S59)))
def furrowlaw15_SysBox.l0 : Nat → List Int → List Int → List Int → Int → Int → List (S59) → Option (Bool)
 | 0, _, _, _, _, _, _ => none
 | k + 1, x0, x1, x2, x8, x368000, x368002 => if x8 < (x0.length : Int) then (if 0 ≤ x8 then (if x8 < (x2.length : Int) then (if 0 ≤ (x0.length : Int) then (if ((x0.length : Int) : Int).toNat ≤ 35184372088832 then ((some (List.replicate ((x0.length : Int) : Int).toNat 0 : List Int)).bind fun y369 => ((some (List.replicate ((x0.length : Int) : Int).toNat 0 : List Int)).bind fun y374 => (if x8 < (x1.length : Int) then (if x8 < (y369.length : Int) then (if x8 < (y374.length : Int) then ((some (([(⟨(y369.set (x8 : Int).toNat (wrap64 (1 + (wrap64 (rd x2 x8))))), wrap64 (-(wrap64 (rd x0 x8)))⟩ : S59), (⟨(y374.set (x8 : Int).toNat (wrap64 (-(wrap64 (1 + (wrap64 (rd x2 x8))))))), wrap64 ((wrap64 (rd x0 x8)) + (wrap64 (rd x1 x8)))⟩ : S59)] : List (S59)) : List (S59))).bind fun y382 => (if x368002.length + y382.length < 4398046511104 then (furrowlaw15_SysBox.l0 k x0 x1 x2 (wrap64 (x8 + 1)) x368000 (x368002 ++ y382)) else (none))) else (none)) else (none)) else (none)))) else (none)) else (none)) else (none)) else (none)) else ((sys_Bounds.f k x368000 ([] : List (S59)) x368002).bind fun bt388 => (if bt388.2.2 = true then (if (bt388.1.length : Int) = (x0.length : Int) then (furrowlaw15_SysBox.j2 k x0 x1 x2 bt388.1 bt388.2.1 ((bt388.2.1.length : Int) != (x0.length : Int)) x368000 x368002) else (furrowlaw15_SysBox.j2 k x0 x1 x2 bt388.1 bt388.2.1 true x368000 x368002)) else (furrowlaw15_SysBox.j2 k x0 x1 x2 bt388.1 bt388.2.1 true x368000 x368002)))
def furrowlaw15_SysBox.j2 : Nat → List Int → List Int → List Int → List Int → List Int → Bool → Int → List (S59) → Option (Bool)
 | 0, _, _, _, _, _, _, _, _ => none
 | k + 1, x0, x1, x2, x12, x13, x115, x368000, x368002 => if x115 = true then (some false) else (furrowlaw15_SysBox.l1 k x0 x1 x2 x12 x13 0 x368000 x368002)
def furrowlaw15_SysBox.l1 : Nat → List Int → List Int → List Int → List Int → List Int → Int → Int → List (S59) → Option (Bool)
 | 0, _, _, _, _, _, _, _, _ => none
 | k + 1, x0, x1, x2, x12, x13, x15, x368000, x368002 => if x15 < (x0.length : Int) then (if 0 ≤ x15 then (if x15 < (x2.length : Int) then (if x15 < (x12.length : Int) then (if (wrap64 ((wrap64 (1 + (wrap64 (rd x2 x15)))) * (rd x12 x15))) < (wrap64 (rd x0 x15)) then (some false) else (if (wrap64 ((wrap64 (1 + (wrap64 (rd x2 x15)))) * (wrap64 ((rd x12 x15) - 1)))) ≥ (wrap64 (rd x0 x15)) then (some false) else (if x15 < (x13.length : Int) then (if x15 < (x1.length : Int) then (if (wrap64 ((wrap64 (1 + (wrap64 (rd x2 x15)))) * (rd x13 x15))) > (wrap64 ((wrap64 (rd x0 x15)) + (wrap64 (rd x1 x15)))) then (some false) else (if (wrap64 ((wrap64 (1 + (wrap64 (rd x2 x15)))) * (wrap64 ((rd x13 x15) + 1)))) ≤ (wrap64 ((wrap64 (rd x0 x15)) + (wrap64 (rd x1 x15)))) then (some false) else (furrowlaw15_SysBox.l1 k x0 x1 x2 x12 x13 (wrap64 (x15 + 1)) x368000 x368002))) else (none)) else (none)))) else (none)) else (none)) else (none)) else ((furrowlaw15_Of.f k x368000 ([] : List (S59)) x368002).bind fun bt406 => ((furrowref20_Check.f k bt406.1 bt406.2.1 bt406.2.2).bind fun bt413 => (some (bt413.2 == 0))))
end
def furrowlaw15_SysBox.f (k : Nat) (l0 : List Int) (l1 : List Int) (l2 : List Int) : Option (Bool) := (furrowlaw15_known.f k).bind fun t366 => (if t366 = true then (if (l0.length : Int) > 4 then (furrowlaw15_SysBox.j0 k l0 l1 l2 true) else (if (l1.length : Int) < (l0.length : Int) then (furrowlaw15_SysBox.j0 k l0 l1 l2 true) else (furrowlaw15_SysBox.j0 k l0 l1 l2 (decide ((l2.length : Int) < (l0.length : Int)))))) else (some false))
theorem furrowlaw15_SysBox.mono_l : ∀ k, (∀ y0 y1 y2 y3, LeO (furrowlaw15_SysBox.j0 k y0 y1 y2 y3) (furrowlaw15_SysBox.j0 (k + 1) y0 y1 y2 y3)) ∧ (∀ y0 y1 y2 y3 y4 y5, LeO (furrowlaw15_SysBox.l0 k y0 y1 y2 y3 y4 y5) (furrowlaw15_SysBox.l0 (k + 1) y0 y1 y2 y3 y4 y5)) ∧ (∀ y0 y1 y2 y3 y4 y5 y6 y7, LeO (furrowlaw15_SysBox.j2 k y0 y1 y2 y3 y4 y5 y6 y7) (furrowlaw15_SysBox.j2 (k + 1) y0 y1 y2 y3 y4 y5 y6 y7)) ∧ (∀ y0 y1 y2 y3 y4 y5 y6 y7, LeO (furrowlaw15_SysBox.l1 k y0 y1 y2 y3 y4 y5 y6 y7) (furrowlaw15_SysBox.l1 (k + 1) y0 y1 y2 y3 y4 y5 y6 y7))
 | 0 => ⟨fun _ _ _ _ r h => by simp [furrowlaw15_SysBox.j0] at h, fun _ _ _ _ _ _ r h => by simp [furrowlaw15_SysBox.l0] at h, fun _ _ _ _ _ _ _ _ r h => by simp [furrowlaw15_SysBox.j2] at h, fun _ _ _ _ _ _ _ _ r h => by simp [furrowlaw15_SysBox.l1] at h⟩
 | k + 1 => by
  obtain ⟨ih0, ih1, ih2, ih3⟩ := furrowlaw15_SysBox.mono_l k
  refine ⟨?_, ?_, ?_, ?_⟩
  ·intro y0 y1 y2 y3
   unfold furrowlaw15_SysBox.j0
   repeat' first
   | (with_reducible exact ih0 _ _ _ _)
   | (with_reducible exact ih1 _ _ _ _ _ _)
   | (with_reducible exact ih2 _ _ _ _ _ _ _ _)
   | (with_reducible exact ih3 _ _ _ _ _ _ _ _)
   | (with_reducible exact furrowlaw15_Of.mono _ _ _ _)
   | (with_reducible exact furrowlaw15_known.mono _)
   | (with_reducible exact furrowref20_Check.mono _ _ _ _)
   | (with_reducible exact sys_Bounds.mono _ _ _ _)
   | (with_reducible exact LeO.refl _)
   | (with_reducible exact LeO.none _)
   | (with_reducible refine LeO.ite ?_ ?_)
   | (with_reducible refine LeO.bind ?_ (fun _ => ?_))
   | exact ih0 _ _ _ _
   | exact ih1 _ _ _ _ _ _
   | exact ih2 _ _ _ _ _ _ _ _
   | exact ih3 _ _ _ _ _ _ _ _
   | exact furrowlaw15_Of.mono _ _ _ _
   | exact furrowlaw15_known.mono _
   | exact furrowref20_Check.mono _ _ _ _
   | exact sys_Bounds.mono _ _ _ _
   | exact LeO.none _
   | refine LeO.ite ?_ ?_
   | refine LeO.bind ?_ (fun _ => ?_)
  ·intro y0 y1 y2 y3 y4 y5
   unfold furrowlaw15_SysBox.l0
   repeat' first
   | (with_reducible exact ih0 _ _ _ _)
   | (with_reducible exact ih1 _ _ _ _ _ _)
   | (with_reducible exact ih2 _ _ _ _ _ _ _ _)
   | (with_reducible exact ih3 _ _ _ _ _ _ _ _)
   | (with_reducible exact furrowlaw15_Of.mono _ _ _ _)
   | (with_reducible exact furrowlaw15_known.mono _)
   | (with_reducible exact furrowref20_Check.mono _ _ _ _)
   | (with_reducible exact sys_Bounds.mono _ _ _ _)
   | (with_reducible exact LeO.refl _)
   | (with_reducible exact LeO.none _)
   | (with_reducible refine LeO.ite ?_ ?_)
   | (with_reducible refine LeO.bind ?_ (fun _ => ?_))
   | exact ih0 _ _ _ _
   | exact ih1 _ _ _ _ _ _
   | exact ih2 _ _ _ _ _ _ _ _
   | exact ih3 _ _ _ _ _ _ _ _
   | exact furrowlaw15_Of.mono _ _ _ _
   | exact furrowlaw15_known.mono _
   | exact furrowref20_Check.mono _ _ _ _
   | exact sys_Bounds.mono _ _ _ _
   | exact LeO.none _
   | refine LeO.ite ?_ ?_
   | refine LeO.bind ?_ (fun _ => ?_)
  ·intro y0 y1 y2 y3 y4 y5 y6 y7
   unfold furrowlaw15_SysBox.j2
   repeat' first
   | (with_reducible exact ih0 _ _ _ _)
   | (with_reducible exact ih1 _ _ _ _ _ _)
   | (with_reducible exact ih2 _ _ _ _ _ _ _ _)
   | (with_reducible exact ih3 _ _ _ _ _ _ _ _)
   | (with_reducible exact furrowlaw15_Of.mono _ _ _ _)
   | (with_reducible exact furrowlaw15_known.mono _)
   | (with_reducible exact furrowref20_Check.mono _ _ _ _)
   | (with_reducible exact sys_Bounds.mono _ _ _ _)
   | (with_reducible exact LeO.refl _)
   | (with_reducible exact LeO.none _)
   | (with_reducible refine LeO.ite ?_ ?_)
   | (with_reducible refine LeO.bind ?_ (fun _ => ?_))
   | exact ih0 _ _ _ _
   | exact ih1 _ _ _ _ _ _
   | exact ih2 _ _ _ _ _ _ _ _
   | exact ih3 _ _ _ _ _ _ _ _
   | exact furrowlaw15_Of.mono _ _ _ _
   | exact furrowlaw15_known.mono _
   | exact furrowref20_Check.mono _ _ _ _
   | exact sys_Bounds.mono _ _ _ _
   | exact LeO.none _
   | refine LeO.ite ?_ ?_
   | refine LeO.bind ?_ (fun _ => ?_)
  ·intro y0 y1 y2 y3 y4 y5 y6 y7
   unfold furrowlaw15_SysBox.l1
   repeat' first
   | (with_reducible exact ih0 _ _ _ _)
   | (with_reducible exact ih1 _ _ _ _ _ _)
   | (with_reducible exact ih2 _ _ _ _ _ _ _ _)
   | (with_reducible exact ih3 _ _ _ _ _ _ _ _)
   | (with_reducible exact furrowlaw15_Of.mono _ _ _ _)
   | (with_reducible exact furrowlaw15_known.mono _)
   | (with_reducible exact furrowref20_Check.mono _ _ _ _)
   | (with_reducible exact sys_Bounds.mono _ _ _ _)
   | (with_reducible exact LeO.refl _)
   | (with_reducible exact LeO.none _)
   | (with_reducible refine LeO.ite ?_ ?_)
   | (with_reducible refine LeO.bind ?_ (fun _ => ?_))
   | exact ih0 _ _ _ _
   | exact ih1 _ _ _ _ _ _
   | exact ih2 _ _ _ _ _ _ _ _
   | exact ih3 _ _ _ _ _ _ _ _
   | exact furrowlaw15_Of.mono _ _ _ _
   | exact furrowlaw15_known.mono _
   | exact furrowref20_Check.mono _ _ _ _
   | exact sys_Bounds.mono _ _ _ _
   | exact LeO.none _
   | refine LeO.ite ?_ ?_
   | refine LeO.bind ?_ (fun _ => ?_)
theorem furrowlaw15_SysBox.mono : ∀ a0 a1 a2 k, LeO (furrowlaw15_SysBox.f k a0 a1 a2) (furrowlaw15_SysBox.f (k + 1) a0 a1 a2) := by
 intro a0 a1 a2 k
 obtain ⟨ih0, ih1, ih2, ih3⟩ := furrowlaw15_SysBox.mono_l k
 unfold furrowlaw15_SysBox.f
 repeat' first
   | (with_reducible exact ih0 _ _ _ _)
   | (with_reducible exact ih1 _ _ _ _ _ _)
   | (with_reducible exact ih2 _ _ _ _ _ _ _ _)
   | (with_reducible exact ih3 _ _ _ _ _ _ _ _)
   | (with_reducible exact furrowlaw15_Of.mono _ _ _ _)
   | (with_reducible exact furrowlaw15_known.mono _)
   | (with_reducible exact furrowref20_Check.mono _ _ _ _)
   | (with_reducible exact sys_Bounds.mono _ _ _ _)
   | (with_reducible exact LeO.refl _)
   | (with_reducible exact LeO.none _)
   | (with_reducible refine LeO.ite ?_ ?_)
   | (with_reducible refine LeO.bind ?_ (fun _ => ?_))
   | exact ih0 _ _ _ _
   | exact ih1 _ _ _ _ _ _
   | exact ih2 _ _ _ _ _ _ _ _
   | exact ih3 _ _ _ _ _ _ _ _
   | exact furrowlaw15_Of.mono _ _ _ _
   | exact furrowlaw15_known.mono _
   | exact furrowref20_Check.mono _ _ _ _
   | exact sys_Bounds.mono _ _ _ _
   | exact LeO.none _
   | refine LeO.ite ?_ ?_
   | refine LeO.bind ?_ (fun _ => ?_)
def furrowlaw15_SysBox.T10 : Bool × List (List Nat × List Nat) := (true, [([], []), ([0], [0]), ([1, 1], [1]), ([], []), ([], []), ([3, 4], [3, 4]), ([5], [5]), ([6], [6]), ([7], [7]), ([2, 8], [2, 8]), ([], []), ([10, 9, 0, 1, 2, 3, 4, 5, 6, 7, 8, 9, 10], [9, 10])])
def furrowlaw15_SysBox.B10 : List Nat := [0, 1, 3, 0, 0, 24, 56, 120, 248, 511, 0, 2047]
theorem furrowlaw15_SysBox.tab10 : rtab .any (opsOf Tryd.f5 10) = furrowlaw15_SysBox.T10 := by kernel_rfl
theorem furrowlaw15_SysBox.bits10 : waitsOk furrowlaw15_SysBox.T10.2 furrowlaw15_SysBox.B10 = true := by kernel_rfl
def furrowlaw15_SysBox.T11 : Bool × List (List Nat × List Nat) := (true, [([], []), ([0], [0]), ([1, 1], [1]), ([], []), ([], []), ([3, 4], [3, 4]), ([5], [5]), ([6], [6]), ([], []), ([], []), ([8, 9], [8, 9]), ([10], [10]), ([11], [11]), ([7, 12], [7, 12]), ([2, 13], [2, 13]), ([], []), ([15, 14, 0, 1, 2, 3, 4, 5, 6, 7, 8, 9, 10, 11, 12, 13, 14, 15], [14, 15])])
def furrowlaw15_SysBox.B11 : List Nat := [0, 1, 3, 0, 0, 24, 56, 120, 0, 0, 768, 1792, 3840, 8184, 16383, 0, 65535]
theorem furrowlaw15_SysBox.tab11 : rtab .any (opsOf Tryd.f5 11) = furrowlaw15_SysBox.T11 := by kernel_rfl
theorem furrowlaw15_SysBox.bits11 : waitsOk furrowlaw15_SysBox.T11.2 furrowlaw15_SysBox.B11 = true := by kernel_rfl
def furrowlaw15_SysBox.T12 : Bool × List (List Nat × List Nat) := (true, [([], []), ([0], [0]), ([], []), ([], []), ([3], [3]), ([], []), ([], []), ([], []), ([7], [7]), ([1, 2, 0, 1, 2, 6], [1, 2]), ([9, 6, 0, 1, 2, 6], [6, 9]), ([4, 5, 0, 1, 2, 3, 4, 5, 6, 7, 8, 9, 10], [4, 5]), ([11, 8, 10, 0, 1, 2, 3, 4, 5, 6, 7, 8, 9, 10], [8, 11])])
def furrowlaw15_SysBox.B12 : List Nat := [0, 1, 0, 0, 8, 0, 0, 0, 128, 71, 583, 2047, 4095]
theorem furrowlaw15_SysBox.tab12 : rtab .any (opsOf Tryd.f5 12) = furrowlaw15_SysBox.T12 := by kernel_rfl
theorem furrowlaw15_SysBox.bits12 : waitsOk furrowlaw15_SysBox.T12.2 furrowlaw15_SysBox.B12 = true := by kernel_rfl
def furrowlaw15_SysBox.T21 : Bool × List (List Nat × List Nat) := (true, [([], []), ([], []), ([], []), ([1, 2], [1, 2]), ([3], [3]), ([0, 4], [0, 4]), ([], []), ([], []), ([6, 7], [6, 7]), ([8], [8]), ([9], [9]), ([5, 10], [5, 10]), ([11], [11]), ([12], [12]), ([12], [12]), ([12], [12]), ([14, 15, 12], [12, 14, 15]), ([16, 12], [12, 16]), ([17, 12], [12, 17]), ([13, 18, 12], [12, 13, 18]), ([12], [12]), ([12], [12]), ([20, 21, 12], [12, 20, 21]), ([22, 12], [12, 22]), ([23, 12], [12, 23]), ([19, 24, 12], [12, 19, 24]), ([12, 25], [12, 25]), ([26, 12], [26]), ([27], [27]), ([27], [27]), ([27], [27]), ([29, 30, 27], [27, 29, 30]), ([31, 27], [27, 31]), ([28, 32, 27], [27, 28, 32]), ([27], [27]), ([27], [27]), ([34, 35, 27], [27, 34, 35]), ([36, 27], [27, 36]), ([37, 27], [27, 37]), ([27], [27]), ([27], [27]), ([39, 40, 27], [27, 39, 40]), ([41, 27], [27, 41]), ([42, 27], [27, 42]), ([38, 43, 27], [27, 38, 43]), ([33, 44, 27], [27, 33, 44]), ([27, 45], [27, 45]), ([46, 27], [46]), ([47], [47]), ([47], [47]), ([47], [47]), ([49, 50, 47], [47, 49, 50]), ([51, 47], [47, 51]), ([52, 47], [47, 52]), ([48, 53, 47], [47, 48, 53]), ([47], [47]), ([47], [47]), ([55, 56, 47], [47, 55, 56]), ([57, 47], [47, 57]), ([58, 47], [47, 58]), ([47], [47]), ([47], [47]), ([60, 61, 47], [47, 60, 61]), ([62, 47], [47, 62]), ([63, 47], [47, 63]), ([59, 64, 47], [47, 59, 64]), ([54, 65, 47], [47, 54, 65]), ([47, 66], [47, 66])])
def furrowlaw15_SysBox.B21 : List Nat := [0, 0, 0, 6, 14, 31, 0, 0, 192, 448, 960, 2047, 4095, 8191, 8191, 8191, 57343, 122879, 253951, 524287, 8191, 8191, 3153919, 7348223, 15736831, 33554431, 67108863, 134217727, 268435455, 268435455, 268435455, 1879048191, 4026531839, 8589934591, 268435455, 268435455, 51808043007, 120527519743, 257966473215, 268435455, 268435455, 1649535877119, 3848559132671, 8246605643775, 17575274610687, 35184372088831, 70368744177663, 140737488355327, 281474976710655, 281474976710655, 281474976710655, 1970324836974591, 4222124650659839, 8725724278030335, 18014398509481983, 281474976710655, 281474976710655, 108367866033602559, 252483054109458431, 540713430261170175, 281474976710655, 281474976710655, 3459045988797251583, 8070732007224639487, 17294104044079415295, 36857740825376849919, 73786976294838206463, 147573952589676412927]
theorem furrowlaw15_SysBox.tab21 : rtab .any (opsOf Tryd.f5 21) = furrowlaw15_SysBox.T21 := by kernel_rfl
theorem furrowlaw15_SysBox.bits21 : waitsOk furrowlaw15_SysBox.T21.2 furrowlaw15_SysBox.B21 = true := by kernel_rfl
theorem field30_1_ (a0 a1 : Value) (w : World) : Sem.run Tryd.prog (Instr.field 30 (Value.agg #[a0, a1]) 1) w = Result.ok a1 w := by kernel_rfl
attribute [local go_sem] field30_1_
theorem k59_mkFn (W : World) (ok : Nat → Prop) (x : S59) {A0 : Option Addr} {c0 n : Nat} (hn : n = x.f0.length) (l0 : n ≤ c0) (g0 : Kd.F (Kd.int .i64) W ok A0 n x.f0) : Kd.FK k59 W ok x [.slice A0 n c0, .int .i64 x.f1] := by
 subst hn
 exact k59_mkF W ok x l0 g0
set_option maxHeartbeats 8000000 in
set_option maxRecDepth 100000 in
theorem furrowlaw15_SysBox.calls (k : Nat) (A0 : Option Addr) (c0 : Nat) (l0 : List Int) (A1 : Option Addr) (c1 : Nat) (l1 : List Int) (A2 : Option Addr) (c2 : Nat) (l2 : List Int) (w : World) (hr0 : Kd.C (Kd.int .i16) w A0 l0.length l0) (hc0 : l0.length ≤ c0) (hr1 : Kd.C (Kd.int .u16) w A1 l1.length l1) (hc1 : l1.length ≤ c1) (hr2 : Kd.C (Kd.int .u8) w A2 l2.length l2) (hc2 : l2.length ≤ c2) (hG : Glob w) (h : furrowlaw15_SysBox.f k l0 l1 l2 = some true) :
  Calls Tryd.prog 5 #[.slice A0 l0.length c0, .slice A1 l1.length c1, .slice A2 l2.length c2] w fun e w' => e = .returned (.bool true) ∧ Below w.heap.size w w' := by
 have hu24 := Tryd.underlying24
 have hu59 := Tryd.underlying59
 have HR0 := mk0 hr0
 have HC0 := mk0 hc0
 clear hr0 hc0
 have HR1 := mk0 hr1
 have HC1 := mk0 hc1
 clear hr1 hc1
 have HR2 := mk0 hr2
 have HC2 := mk0 hc2
 clear hr2 hc2
 have HG := mk0 hG
 clear hG
 have HB := mk0 (Below.refl w.heap.size w)
 have H : ((furrowlaw15_known.f k).bind fun t366 => (if t366 = true then (if (l0.length : Int) > 4 then (furrowlaw15_SysBox.j0 k l0 l1 l2 true) else (if (l1.length : Int) < (l0.length : Int) then (furrowlaw15_SysBox.j0 k l0 l1 l2 true) else (furrowlaw15_SysBox.j0 k l0 l1 l2 (decide ((l2.length : Int) < (l0.length : Int)))))) else (some false))) = some true := h
 clear h
 replace H := Option.bind_eq_some_iff.mp H
 obtain ⟨t366, A40, H⟩ := H
 have A4 := mk0 A40
 clear A40
 by_cases c5 : t366 = true
 ·subst c5
  have H1 : (if (l0.length : Int) > 4 then (furrowlaw15_SysBox.j0 k l0 l1 l2 true) else (if (l1.length : Int) < (l0.length : Int) then (furrowlaw15_SysBox.j0 k l0 l1 l2 true) else (furrowlaw15_SysBox.j0 k l0 l1 l2 (decide ((l2.length : Int) < (l0.length : Int)))))) = some true := by rw [if_pos rfl] at H; first | done | exact H
  clear H
  have H := H1
  clear H1
  have HC6 := mk0 H
  clear H
  have hu30 := Tryd.underlying30
  go_enter Tryd.func5, Tryd.ntmps5
  go_upto_region 3 with (first | ((with_reducible refine gate_dst (N := 17) rfl ?_); refine gsM (some 17) Tryd.func6 #[] ?_; (with_reducible refine (furrowlaw15_known.calls k   _ ?side1 A4.out).mono ?_); (case side1 => exact Glob.below HG.out (uL HB.out)); rintro e w7 ⟨rfl, hb⟩; refine ⟨_, rfl, ?_⟩; replace HB := hbB (uL HB.out) hb; (try clear hb); (try clear hb2); (try clear hk); (try clear hi)))
  (try simp only [Act.put, List.setIfInBounds_toArray, List.set_cons_zero, List.set_cons_succ])
  go_cut [35] (fun v35 wc => ∃ (kq : Nat) (x35_5 : Bool), v35 = .bool x35_5 ∧ Aside0 (furrowlaw15_SysBox.j0 kq l0 l1 l2 x35_5 = some true) ∧ Aside0 (kq ≤ k) ∧ Aside0 (Below w.heap.size w wc))
  case first =>
   have H := HC6.out
   clear HC6
   by_cases c8 : (l0.length : Int) > 4
   ·rw [if_pos c8] at H
    have c8b0 : decide (4 < (l0.length : Int)) = true := decide_eq_true c8
    have c8b1 : decide (4 < l0.length) = true := decide_eq_true (by omega)
    clear c8
    (first | rw [c8b0] | (simp only [i64_w, i32_w]; rw [c8b0]) | skip)
    as_aux_lemma =>
     have H' := mk0 H
     clear H
     go_wp2
     go_meet
     case rel => exact ⟨_, (true), (by first | rfl | (simp; done) | (simp [*]; done) | (simp [bne_nil_, beq_nil_]; done)), H', ⟨by first | omega | exact Nat.le_refl _⟩, ⟨uL HB.out⟩⟩
   ·rw [if_neg c8] at H
    have c8b0 : decide (4 < (l0.length : Int)) = false := decide_eq_false c8
    have c8b1 : decide (4 < l0.length) = false := decide_eq_false (by omega)
    clear c8
    (first | rw [c8b0] | (simp only [i64_w, i32_w]; rw [c8b0]) | skip)
    by_cases c9 : (l1.length : Int) < (l0.length : Int)
    ·rw [if_pos c9] at H
     have c9b0 : decide ((l1.length : Int) < (l0.length : Int)) = true := decide_eq_true c9
     have c9b1 : decide (l1.length < l0.length) = true := decide_eq_true (Int.ofNat_lt.mp c9)
     clear c9
     as_aux_lemma =>
      have H' := mk0 H
      clear H
      go_wp2
      go_meet
      case rel => exact ⟨_, (true), (by first | rfl | (simp; done) | (simp [*]; done) | (simp [bne_nil_, beq_nil_]; done)), H', ⟨by first | omega | exact Nat.le_refl _⟩, ⟨uL HB.out⟩⟩
    ·rw [if_neg c9] at H
     have c9b0 : decide ((l1.length : Int) < (l0.length : Int)) = false := decide_eq_false c9
     have c9b1 : decide (l1.length < l0.length) = false := decide_eq_false (fun h => c9 (Int.ofNat_lt.mpr h))
     clear c9
     as_aux_lemma =>
      have H' := mk0 H
      clear H
      go_wp2
      go_meet
      case rel => exact ⟨_, (decide ((l2.length : Int) < (l0.length : Int))), (by first | rfl | (simp; done) | (simp [*]; done) | (simp [bne_nil_, beq_nil_]; done)), H', ⟨by first | omega | exact Nat.le_refl _⟩, ⟨uL HB.out⟩⟩
  case rest =>
   clear HC6
   try clear c1
   try clear c2
   try clear p2
   try clear c5
   try clear c6
   try clear c8
   try clear c8b0
   try clear c8b1
   try clear c9
   try clear c9b0
   try clear c9b1
   obtain ⟨kq, x35_5, rfl, HA, HJ5, HB⟩ := hcut
   cases kq with
   | zero => exact absurd HA.out (by simp [furrowlaw15_SysBox.j0])
   | succ kj5 =>
    have H := HA.out
    clear HA
    simp only [furrowlaw15_SysBox.j0] at H
    by_cases c10 : x35_5 = true
    ·subst c10
     have H1 : (some true) = some true := by rw [if_pos rfl] at H; first | done | exact H
     clear H
     have H := H1
     clear H1
     as_aux_lemma =>
      have HT := mk0 (Option.some.inj H)
      clear H
      go_wp2
      go_ret
      exact ⟨by first | rfl | (simp [errW_none, errW_some] <;> rfl) | (exact congrArg (fun b_ => Ending.returned (Value.bool b_)) HT.out) | (rw [show _ = _ from HT.out]) | (simp [HT.out]; done) | (simp [show _ = _ from HT.out]; done) | (simp [*, errW_none, errW_some] <;> rfl), uL HB.out⟩
    ·replace c10 := Bool.eq_false_iff.mpr c10
     subst c10
     have H1 : (furrowlaw15_SysBox.l0 kj5 l0 l1 l2 0 (l0.length : Int) ([] : List (S59))) = some true := by rw [if_neg (show ¬ (false = true) by decide)] at H; first | done | exact H
     clear H
     have H := H1
     clear H1
     have H' := mk0 H
     clear H
     go_wp2_with (first | ((with_reducible refine gate_dst (N := 7) rfl ?_); (try (refine gate_guard (by rfl) ?_; dsimp only)); refine bxE 7 #[.int .i64 0, .slice none 0 0, .slice none 0 0] 24 ?_; intro gb367 hg w11 hbox hb; have BK367 := mk0 (hbox); have GW367 := mk0 ((by rw [hg]; exact (below_size (uL HB.out)) : w.heap.size ≤ gb367)); have GE367 := mk0 ((by rw [hg]; exact (below_size (uL HB.out)) : w.heap.size ≤ gb367)); replace HB := hbB (uL HB.out) hb; clear hb hbox hg; obtain ⟨hcz12_0, hcz12_1, hcz12_2, hfz12_0, hfz12_1, hfz12_2⟩ := cL3 BK367))
     go_loopg [8] kj5 (fun kq v8 w' => ∃ (x8_2 : Int) (x368002_2 : List (S59)) (u368002 : Value), v8 = .int .i64 x8_2 ∧ Aside0 (furrowlaw15_SysBox.l0 kq l0 l1 l2 x8_2 (l0.length : Int) x368002_2 = some true) ∧ Aside0 (kq ≤ kj5) ∧ Aside0 (Kd.N k59 59 w' w.heap.size (fun k_ => k_ ≠ gb367) u368002 x368002_2) ∧ Aside0 (w'.heap[gb367]? = some (.cells #[.int .i64 (l0.length : Int), (.slice none 0 0), u368002] 24 (0, 0))) ∧ Aside0 (Below w.heap.size w w'))
     case atStart => exact ⟨(0), (([] : List (S59))), (.slice none 0 0), (by first | rfl | (simp; done) | (simp [*]; done) | (simp [bne_nil_, beq_nil_]; done)), H', ⟨Nat.le_refl _⟩, ⟨by first | exact Kd.S_nil _ _ _ _ _ | exact Kd.N_nil _ _ _ _ _ | exact Kd.V_nil _ _ _ _ _ | exact Kd.Q_nil _ _ _ _ _ | exact Kd.R_nil _ _ _ _ _⟩, ⟨by (with_reducible repeat (first | refine blk_drewN ?_ _ | refine blk_drew ?_ | refine blk_alloc ?_ _)); refine blk_put (cs := #[.int .i64 (l0.length : Int), .slice none 0 0, .slice none 0 0]) ?_ 2 _ rfl; (with_reducible repeat (first | refine blk_drewN ?_ _ | refine blk_drew ?_ | refine blk_alloc ?_ _)); refine blk_put (cs := #[.int .i64 (l0.length : Int), .slice none 0 0, .slice none 0 0]) ?_ 1 _ rfl; (with_reducible repeat (first | refine blk_drewN ?_ _ | refine blk_drew ?_ | refine blk_alloc ?_ _)); refine blk_put (cs := #[.int .i64 0, .slice none 0 0, .slice none 0 0]) ?_ 0 _ rfl; (with_reducible repeat (first | refine blk_drewN ?_ _ | refine blk_drew ?_ | refine blk_alloc ?_ _)); exact BK367.out⟩, ⟨bH⟩⟩
     case round =>
      clear H'
      try clear c1
      try clear c2
      try clear p2
      try clear c5
      try clear c6
      try clear c8
      try clear c8b0
      try clear c8b1
      try clear c9
      try clear c9b0
      try clear c9b1
      try clear c10
      try clear hcz12_0
      try clear hcz12_1
      try clear hcz12_2
      try clear hfz12_0
      try clear hfz12_1
      try clear hfz12_2
      try clear p2
      obtain ⟨x8_2, x368002_2, u368002, rfl, HA, HK2, HO_368002, BK367, HB⟩ := hrel
      cases gk with
      | zero => exact absurd HA.out (by simp [furrowlaw15_SysBox.l0])
      | succ k2 =>
       have H := HA.out
       clear HA
       simp only [furrowlaw15_SysBox.l0] at H
       by_cases c13 : x8_2 < (l0.length : Int)
       ·rw [if_pos c13] at H
        have c13b0 : decide (x8_2 < (l0.length : Int)) = true := decide_eq_true c13
        clear c13
        by_cases c14 : 0 ≤ x8_2
        ·rw [if_pos c14] at H
         have c14b0 : decide (0 ≤ x8_2) = true := decide_eq_true c14
         clear c14
         by_cases c15 : x8_2 < (l2.length : Int)
         ·rw [if_pos c15] at H
          have c15b0 : decide (x8_2 < (l2.length : Int)) = true := decide_eq_true c15
          clear c15
          by_cases c16 : 0 ≤ (l0.length : Int)
          ·rw [if_pos c16] at H
           have c16b0 := eq_true c16
           have c16b1 : decide (0 ≤ (l0.length : Int)) = true := decide_eq_true c16
           clear c16
           by_cases c17 : ((l0.length : Int) : Int).toNat ≤ 35184372088832
           ·rw [if_pos c17] at H
            have c17b0 := eq_true c17
            have c17b1 : decide (((l0.length : Int) : Int).toNat ≤ 35184372088832) = true := decide_eq_true c17
            clear c17
            obtain ⟨y369, hy369⟩ : ∃ y_ : List Int, y_ = (List.replicate ((l0.length : Int) : Int).toNat 0) := ⟨_, rfl⟩
            replace H : ((some (List.replicate ((l0.length : Int) : Int).toNat 0 : List Int)).bind fun y374 => (if x8_2 < (l1.length : Int) then (if x8_2 < (y369.length : Int) then (if x8_2 < (y374.length : Int) then ((some (([(⟨(y369.set (x8_2 : Int).toNat (wrap64 (1 + (wrap64 (rd l2 x8_2))))), wrap64 (-(wrap64 (rd l0 x8_2)))⟩ : S59), (⟨(y374.set (x8_2 : Int).toNat (wrap64 (-(wrap64 (1 + (wrap64 (rd l2 x8_2))))))), wrap64 ((wrap64 (rd l0 x8_2)) + (wrap64 (rd l1 x8_2)))⟩ : S59)] : List (S59)) : List (S59))).bind fun y382 => (if x368002_2.length + y382.length < 4398046511104 then (furrowlaw15_SysBox.l0 k2 l0 l1 l2 (wrap64 (x8_2 + 1)) (l0.length : Int) (x368002_2 ++ y382)) else (none))) else (none)) else (none)) else (none))) = some true := by first | (rw [hy369]; with_reducible exact H) | (have H2_ := (Option.bind_some _ _).symm.trans H; rw [hy369]; with_reducible exact H2_) | (have H2_ := (Option.bind_some _ _).symm.trans H; with_reducible exact H2_) | with_reducible exact H | (rw [hy369]; exact H) | exact H
            have Ny369 := mk0 hy369
            clear hy369
            obtain ⟨y374, hy374⟩ : ∃ y_ : List Int, y_ = (List.replicate ((l0.length : Int) : Int).toNat 0) := ⟨_, rfl⟩
            replace H : (if x8_2 < (l1.length : Int) then (if x8_2 < (y369.length : Int) then (if x8_2 < (y374.length : Int) then ((some (([(⟨(y369.set (x8_2 : Int).toNat (wrap64 (1 + (wrap64 (rd l2 x8_2))))), wrap64 (-(wrap64 (rd l0 x8_2)))⟩ : S59), (⟨(y374.set (x8_2 : Int).toNat (wrap64 (-(wrap64 (1 + (wrap64 (rd l2 x8_2))))))), wrap64 ((wrap64 (rd l0 x8_2)) + (wrap64 (rd l1 x8_2)))⟩ : S59)] : List (S59)) : List (S59))).bind fun y382 => (if x368002_2.length + y382.length < 4398046511104 then (furrowlaw15_SysBox.l0 k2 l0 l1 l2 (wrap64 (x8_2 + 1)) (l0.length : Int) (x368002_2 ++ y382)) else (none))) else (none)) else (none)) else (none)) = some true := by first | (rw [hy374]; with_reducible exact H) | (have H2_ := (Option.bind_some _ _).symm.trans H; rw [hy374]; with_reducible exact H2_) | (have H2_ := (Option.bind_some _ _).symm.trans H; with_reducible exact H2_) | with_reducible exact H | (rw [hy374]; exact H) | exact H
            have Ny374 := mk0 hy374
            clear hy374
            by_cases c18 : x8_2 < (l1.length : Int)
            ·rw [if_pos c18] at H
             have c18b0 : decide (x8_2 < (l1.length : Int)) = true := decide_eq_true c18
             clear c18
             by_cases c19 : x8_2 < (y369.length : Int)
             ·rw [if_pos c19] at H
              have c19b0 : decide (x8_2 < (y369.length : Int)) = true := decide_eq_true c19
              clear c19
              obtain ⟨y380, hy380⟩ : ∃ y_ : List Int, y_ = (y369.set (x8_2 : Int).toNat (wrap64 (1 + (wrap64 (rd l2 x8_2))))) := ⟨_, rfl⟩
              replace H : (if x8_2 < (y374.length : Int) then ((some (([(⟨y380, wrap64 (-(wrap64 (rd l0 x8_2)))⟩ : S59), (⟨(y374.set (x8_2 : Int).toNat (wrap64 (-(wrap64 (1 + (wrap64 (rd l2 x8_2))))))), wrap64 ((wrap64 (rd l0 x8_2)) + (wrap64 (rd l1 x8_2)))⟩ : S59)] : List (S59)) : List (S59))).bind fun y382 => (if x368002_2.length + y382.length < 4398046511104 then (furrowlaw15_SysBox.l0 k2 l0 l1 l2 (wrap64 (x8_2 + 1)) (l0.length : Int) (x368002_2 ++ y382)) else (none))) else (none)) = some true := by first | (rw [hy380]; with_reducible exact H) | (have H2_ := (Option.bind_some _ _).symm.trans H; rw [hy380]; with_reducible exact H2_) | (have H2_ := (Option.bind_some _ _).symm.trans H; with_reducible exact H2_) | with_reducible exact H | (rw [hy380]; exact H) | exact H
              have Ny380 := mk0 hy380
              clear hy380
              by_cases c21 : x8_2 < (y374.length : Int)
              ·rw [if_pos c21] at H
               have c21b0 : decide (x8_2 < (y374.length : Int)) = true := decide_eq_true c21
               clear c21
               obtain ⟨y381, hy381⟩ : ∃ y_ : List Int, y_ = (y374.set (x8_2 : Int).toNat (wrap64 (-(wrap64 (1 + (wrap64 (rd l2 x8_2))))))) := ⟨_, rfl⟩
               replace H : ((some (([(⟨y380, wrap64 (-(wrap64 (rd l0 x8_2)))⟩ : S59), (⟨y381, wrap64 ((wrap64 (rd l0 x8_2)) + (wrap64 (rd l1 x8_2)))⟩ : S59)] : List (S59)) : List (S59))).bind fun y382 => (if x368002_2.length + y382.length < 4398046511104 then (furrowlaw15_SysBox.l0 k2 l0 l1 l2 (wrap64 (x8_2 + 1)) (l0.length : Int) (x368002_2 ++ y382)) else (none))) = some true := by first | (rw [hy381]; with_reducible exact H) | (have H2_ := (Option.bind_some _ _).symm.trans H; rw [hy381]; with_reducible exact H2_) | (have H2_ := (Option.bind_some _ _).symm.trans H; with_reducible exact H2_) | with_reducible exact H | (rw [hy381]; exact H) | exact H
               have Ny381 := mk0 hy381
               clear hy381
               obtain ⟨y382, hy382⟩ : ∃ y_ : List (S59), y_ = (([(⟨y380, wrap64 (-(wrap64 (rd l0 x8_2)))⟩ : S59), (⟨y381, wrap64 ((wrap64 (rd l0 x8_2)) + (wrap64 (rd l1 x8_2)))⟩ : S59)] : List (S59))) := ⟨_, rfl⟩
               replace H : (if x368002_2.length + y382.length < 4398046511104 then (furrowlaw15_SysBox.l0 k2 l0 l1 l2 (wrap64 (x8_2 + 1)) (l0.length : Int) (x368002_2 ++ y382)) else (none)) = some true := by first | (rw [hy382]; with_reducible exact H) | (have H2_ := (Option.bind_some _ _).symm.trans H; rw [hy382]; with_reducible exact H2_) | (have H2_ := (Option.bind_some _ _).symm.trans H; with_reducible exact H2_) | with_reducible exact H | (rw [hy382]; exact H) | exact H
               have Ny382 := mk0 hy382
               clear hy382
               by_cases c23 : x368002_2.length + y382.length < 4398046511104
               ·rw [if_pos c23] at H
                have LMc23 := mk0 c23
                clear c23
                obtain ⟨y385, hy385⟩ : ∃ y_ : List (S59), y_ = (x368002_2 ++ y382) := ⟨_, rfl⟩
                replace H : (furrowlaw15_SysBox.l0 k2 l0 l1 l2 (wrap64 (x8_2 + 1)) (l0.length : Int) y385) = some true := by first | (rw [hy385]; with_reducible exact H) | (have H2_ := (Option.bind_some _ _).symm.trans H; rw [hy385]; with_reducible exact H2_) | (have H2_ := (Option.bind_some _ _).symm.trans H; with_reducible exact H2_) | with_reducible exact H | (rw [hy385]; exact H) | exact H
                have Ny385 := mk0 hy385
                clear hy385
                as_aux_lemma =>
                 have H' := mk0 H
                 clear H
                 have p368 : 0 ≤ (x8_2 : Int) := of_decide_eq_true (by first | (with_reducible assumption) | assumption)
                 have q368 : x8_2 < (l2.length : Int) := of_decide_eq_true (by first | (with_reducible assumption) | assumption)
                 obtain ⟨ad368, e368, hx368_0⟩ := Kd.at_int HR2.out x8_2 p368 q368
                 cases e368
                 replace hx368_0 := (HB.out.cell (World.block_lt_of_cell? w _ hx368_0)).trans hx368_0
                 replace p368 := eq_true p368
                 replace q368 := eq_true q368
                 try go_wp2
                 replace HO_368002 := mk0 (Kd.N_drew HO_368002.out)
                 replace BK367 := mk0 (blk_drew BK367.out)
                 replace HB := mk0 (below_drew1 HB.out)
                 have p372 : 0 ≤ (x8_2 : Int) := of_decide_eq_true (by first | (with_reducible assumption) | assumption)
                 have q372 : x8_2 < (l0.length : Int) := of_decide_eq_true (by first | (with_reducible assumption) | assumption)
                 obtain ⟨ad372, e372, hx372_0⟩ := Kd.at_int HR0.out x8_2 p372 q372
                 have hw372_0 := hx372_0
                 cases e372
                 replace hx372_0 := (HB.out.cell (World.block_lt_of_cell? w _ hx372_0)).trans hx372_0
                 replace p372 := eq_true p372
                 replace q372 := eq_true q372
                 refine start_ (n := 12) (S := fun w' => w'.cell? (ad372.add (x8_2).toNat) = some (.int .i16 (rd l0 x8_2))) (ds := []) (bts 12 0) (by kernel_rfl) rfl rfl (((HB.out.cell (World.block_lt_of_cell? w _ hw372_0)).trans hw372_0)) (fun hHeld => ?_); refine with_tabW furrowlaw15_SysBox.tab10 furrowlaw15_SysBox.bits10 (fun HT_ HW_ => ?_)
                 generalize wr.drew = w24 at HO_368002 BK367 HB hx372_0 hHeld ⊢
                 refine pA 0 (some 51) 0 12 1 HT_ ?_
                 refine pA 1 (some 52) 1 12 3 HT_ ?_
                 refine pA 3 (some 54) 3 12 11 HT_ ?_
                 refine pA 4 (some 55) 11 12 27 HT_ ?_
                 refine pA 5 (some 56) 27 12 59 HT_ ?_
                 refine take_ (i := 6) (N := some 57) (v := ?_) (a' := ?_) (bts 12 123) rfl rfl (take_ofW HT_.out HW_.out (by kernel_rfl)) (fun _ _ _ h => h) (Or.inl ⟨by rfl, ?_⟩) hHeld ?_ ?_
                 rotate_left
                 ·intro w' s0
                  go_simp
                  with_reducible rfl
                 rotate_left
                 ·simp only [Act.put, List.setIfInBounds_toArray, List.set_cons_zero, List.set_cons_succ, i64_w, i32_w]
                  rfl
                 refine pA 7 (some 58) 123 12 251 HT_ ?_
                 refine pA 8 (some 59) 251 12 507 HT_ ?_
                 refine join_ (σ := Value × Nat) 1 (bts 12 2047) (fun s_ => [(53, s_.1), (10, .pointer (some ⟨s_.2, 0, none⟩)), (60, .agg #[s_.1, .int .i64 (wrap64 (-(wrap64 (rd l0 x8_2))))])]) (fun s_ w' => (w'.cell? (ad372.add (x8_2).toNat) = some (.int .i16 (rd l0 x8_2))) ∧ (Kd.R (Kd.int .i64) 2 w' w.heap.size (fun _ => True) s_.1 y369) ∧ (Kd.N k59 59 w' w.heap.size (fun k_ => some k_ ≠ (s_.1 : Value).ownBlock ∧ k_ ≠ gb367 ∧ k_ ≠ s_.2) u368002 x368002_2) ∧ (w'.heap[gb367]? = some (.cells #[.int .i64 (l0.length : Int), .slice none 0 0, u368002] 24 (0, 0))) ∧ (w'.heap[s_.2]? = some (.cells #[.slice none 0 0, .int .i64 0] 59 (0, 0))) ∧ (w.heap.size ≤ s_.2) ∧ (w.heap.size ≤ s_.2) ∧ (gb367 ≠ s_.2) ∧ (s_.2 ≠ gb367) ∧ (Below w.heap.size w w')) ?_ ?_
                 rotate_left
                 ·intro hCont
                  refine two_ (i := 2) (j := 10) (Ni := some 53) (Nj := some 10) (bts 12 511) (bts 12 1531) rfl rfl rfl rfl (two_of HT_.out (by kernel_rfl)) (by decide) (by decide) (fun K hK => ?_) (fun K hK => ?_)
                  ·skip
                   refine Kd.R_make_step (Kd.int .i64) _ 2 (by rfl) (N := 53) rfl 44 _ _ rfl (l0.length : Int) rfl rfl Tryd.underlying44 (.int .i64 0) 8 info2 rfl (by decide) (by omega) 0 (ok := fun _ => True) (okp := fun _ => True) rfl (fun _ hk => hk) trivial (of_decide_eq_true (by first | (with_reducible assumption) | assumption)) (Nat.le_trans (Nat.mul_le_mul_right _ (of_decide_eq_true (by first | (with_reducible assumption) | assumption) : (l0.length : Int).toNat ≤ 35184372088832)) (by omega)) (Below.refl _ _) (Nat.le_refl _) ?_
                   intro v370 w25 ho26 hb hg_ hnew_
                   clear hg_ hnew_
                   (first | rw [← Ny369.out] at ho26 | (simp only [Int.reduceToNat] at ho26; rw [← Ny369.out] at ho26))
                   replace HO_368002 := mk0 (Kd.N_elder' (uN HO_368002.out) (Kd.R_base ho26) hb)
                   have HO371 := mk0 (Kd.R_lower ho26 (below_size bH))
                   replace BK367 := bB BK367 hb
                   replace HB := hbB bH hb
                   clear hb ho26
                   obtain ⟨Ao27, co27, eo27⟩ := Kd.R_slice HO371.out
                   (first | subst eo27 | (injection eo27 with f1_ f2_ f3_; have f4_ := f1_.symm; have f5_ := f3_.symm; clear f1_ f2_ f3_; subst f4_; subst f5_))
                   refine hK.out _ _ (((HB.out.cell (World.block_lt_of_cell? w _ hw372_0)).trans hw372_0)) (fun hHeld => ?_)
                   clear hK K
                   refine norm_ (a' := ?_) ?_ ?_
                   rotate_left
                   ·show Act.put _ (some 53) _ = _
                    simp only [Act.put, List.setIfInBounds_toArray, List.set_cons_zero, List.set_cons_succ, i64_w, i32_w]
                    rfl
                   refine pA 9 (some 60) 511 12 1023 HT_ ?_
                   refine one_ (i := 10) (N := some 10) (bts 12 2047) rfl rfl (one_of HT_.out (by kernel_rfl)) (by decide) (fun K hK => ?_)
                   refine box_step ?hg (N := 10) ?hd (cs := #[.slice none 0 0, .int .i64 0]) (t := 59) ?hr ?_; (case hd => rfl); (case hg => rfl); (case hr => first | (go_simp; done) | (go_simp; rfl))
                   intro gb373 hg w28 hbox hb
                   replace HO_368002 := mk0 (Kd.N_below (Kd.N_elderB (uN HO_368002.out) gb373 (Nat.le_of_eq hg.symm)) hb)
                   replace HO371 := rB HO371 hb
                   have BK373 := mk0 (hbox)
                   have GW373 := mk0 ((by rw [hg]; exact (below_size bH) : w.heap.size ≤ gb373))
                   have GE373 := mk0 ((by rw [hg]; exact (below_size bH) : w.heap.size ≤ gb373))
                   replace HB := hbB bH hb
                   have NB367_373 := mk0 ((by rw [hg]; exact Nat.ne_of_lt (blk_lt (g := gb367) (o := .cells #[.int .i64 (l0.length : Int), .slice none 0 0, u368002] 24 (0, 0)) (uB BK367.out)) : gb367 ≠ gb373))
                   have NB373_367 := mk0 ((by rw [hg]; exact Nat.ne_of_gt (blk_lt (g := gb367) (o := .cells #[.int .i64 (l0.length : Int), .slice none 0 0, u368002] 24 (0, 0)) (uB BK367.out)) : gb373 ≠ gb367))
                   replace BK367 := bB BK367 hb
                   clear hb hbox hg
                   refine hK.out _ _ (((HB.out.cell (World.block_lt_of_cell? w _ hw372_0)).trans hw372_0)) (fun hHeld => ?_)
                   clear hK K
                   refine norm_ (a' := ?_) ?_ ?_
                   rotate_left
                   ·show Act.put _ (some 10) _ = _
                    simp only [Act.put, List.setIfInBounds_toArray, List.set_cons_zero, List.set_cons_succ, i64_w, i32_w]
                    rfl
                   exact norm_ (by first | (simp only [putAll, Act.put, List.setIfInBounds_toArray, List.set_cons_zero, List.set_cons_succ]; done) | (simp only [putAll, Act.put, List.setIfInBounds_toArray, List.set_cons_zero, List.set_cons_succ, *]; done)) (hCont (.slice Ao27 y369.length co27, gb373) _ ⟨hHeld, (uR HO371.out), (uN (Kd.N_mono HO_368002.out (fun _ hk => ⟨hk.1.2, ⟨hk.1.1, hk.2⟩⟩))), (uB BK367.out), (uB BK373.out), GW373.out, GE373.out, NB367_373.out, NB373_367.out, bH⟩)
                  ·skip
                   refine box_step ?hg (N := 10) ?hd (cs := #[.slice none 0 0, .int .i64 0]) (t := 59) ?hr ?_; (case hd => rfl); (case hg => rfl); (case hr => first | (go_simp; done) | (go_simp; rfl))
                   intro gb373 hg w25 hbox hb
                   replace HO_368002 := mk0 (Kd.N_below (Kd.N_elderB (uN HO_368002.out) gb373 (Nat.le_of_eq hg.symm)) hb)
                   have BK373 := mk0 (hbox)
                   have GW373 := mk0 ((by rw [hg]; exact (below_size bH) : w.heap.size ≤ gb373))
                   have GE373 := mk0 ((by rw [hg]; exact (below_size bH) : w.heap.size ≤ gb373))
                   replace HB := hbB bH hb
                   have NB367_373 := mk0 ((by rw [hg]; exact Nat.ne_of_lt (blk_lt (g := gb367) (o := .cells #[.int .i64 (l0.length : Int), .slice none 0 0, u368002] 24 (0, 0)) (uB BK367.out)) : gb367 ≠ gb373))
                   have NB373_367 := mk0 ((by rw [hg]; exact Nat.ne_of_gt (blk_lt (g := gb367) (o := .cells #[.int .i64 (l0.length : Int), .slice none 0 0, u368002] 24 (0, 0)) (uB BK367.out)) : gb373 ≠ gb367))
                   replace BK367 := bB BK367 hb
                   clear hb hbox hg
                   refine hK.out _ _ (((HB.out.cell (World.block_lt_of_cell? w _ hw372_0)).trans hw372_0)) (fun hHeld => ?_)
                   clear hK K
                   refine norm_ (a' := ?_) ?_ ?_
                   rotate_left
                   ·show Act.put _ (some 10) _ = _
                    simp only [Act.put, List.setIfInBounds_toArray, List.set_cons_zero, List.set_cons_succ, i64_w, i32_w]
                    rfl
                   refine one_ (i := 2) (N := some 53) (bts 12 1535) rfl rfl (one_of HT_.out (by kernel_rfl)) (by decide) (fun K hK => ?_)
                   refine Kd.R_make_step (Kd.int .i64) _ 2 (by rfl) (N := 53) rfl 44 _ _ rfl (l0.length : Int) rfl rfl Tryd.underlying44 (.int .i64 0) 8 info2 rfl (by decide) (by omega) 0 (ok := fun _ => True) (okp := fun _ => True) rfl (fun _ hk => hk) trivial (of_decide_eq_true (by first | (with_reducible assumption) | assumption)) (Nat.le_trans (Nat.mul_le_mul_right _ (of_decide_eq_true (by first | (with_reducible assumption) | assumption) : (l0.length : Int).toNat ≤ 35184372088832)) (by omega)) (Below.refl _ _) (Nat.le_refl _) ?_
                   intro v370 w26 ho27 hb hg_ hnew_
                   clear hg_ hnew_
                   (first | rw [← Ny369.out] at ho27 | (simp only [Int.reduceToNat] at ho27; rw [← Ny369.out] at ho27))
                   replace HO_368002 := mk0 (Kd.N_elder' (uN HO_368002.out) (Kd.R_base ho27) hb)
                   have HO371 := mk0 (Kd.R_lower ho27 (below_size bH))
                   replace BK367 := bB BK367 hb
                   replace BK373 := bB BK373 hb
                   replace HB := hbB bH hb
                   clear hb ho27
                   obtain ⟨Ao28, co28, eo28⟩ := Kd.R_slice HO371.out
                   (first | subst eo28 | (injection eo28 with f1_ f2_ f3_; have f4_ := f1_.symm; have f5_ := f3_.symm; clear f1_ f2_ f3_; subst f4_; subst f5_))
                   refine hK.out _ _ (((HB.out.cell (World.block_lt_of_cell? w _ hw372_0)).trans hw372_0)) (fun hHeld => ?_)
                   clear hK K
                   refine norm_ (a' := ?_) ?_ ?_
                   rotate_left
                   ·show Act.put _ (some 53) _ = _
                    simp only [Act.put, List.setIfInBounds_toArray, List.set_cons_zero, List.set_cons_succ, i64_w, i32_w]
                    rfl
                   refine pA 9 (some 60) 1535 12 2047 HT_ ?_
                   exact norm_ (by first | (simp only [putAll, Act.put, List.setIfInBounds_toArray, List.set_cons_zero, List.set_cons_succ]; done) | (simp only [putAll, Act.put, List.setIfInBounds_toArray, List.set_cons_zero, List.set_cons_succ, *]; done)) (hCont (.slice Ao28 y369.length co28, gb373) _ ⟨hHeld, (uR HO371.out), (uN (Kd.N_mono HO_368002.out (fun _ hk => ⟨hk.2, ⟨hk.1.1, hk.1.2⟩⟩))), (uB BK367.out), (uB BK373.out), GW373.out, GE373.out, NB367_373.out, NB373_367.out, bH⟩)
                 rintro ⟨v370, gb373⟩ w29 ⟨hS_, h0_, h1_, h2_, h3_, h4_, h5_, h6_, h7_, h8_⟩
                 have n0_ : Aside0 (Kd.R (Kd.int .i64) 2 w29 w.heap.size (fun _ => True) v370 y369) := ⟨h0_⟩
                 have n1_ : Aside0 (Kd.N k59 59 w29 w.heap.size (fun k_ => some k_ ≠ (v370 : Value).ownBlock ∧ k_ ≠ gb367 ∧ k_ ≠ gb373) u368002 x368002_2) := ⟨h1_⟩
                 have n2_ : Aside0 (w29.heap[gb367]? = some (.cells #[.int .i64 (l0.length : Int), .slice none 0 0, u368002] 24 (0, 0))) := ⟨h2_⟩
                 have n3_ : Aside0 (w29.heap[gb373]? = some (.cells #[.slice none 0 0, .int .i64 0] 59 (0, 0))) := ⟨h3_⟩
                 have n4_ : Aside0 (w.heap.size ≤ gb373) := ⟨h4_⟩
                 have n5_ : Aside0 (w.heap.size ≤ gb373) := ⟨h5_⟩
                 have n6_ : Aside0 (gb367 ≠ gb373) := ⟨h6_⟩
                 have n7_ : Aside0 (gb373 ≠ gb367) := ⟨h7_⟩
                 have n8_ : Aside0 (Below w.heap.size w w29) := ⟨h8_⟩
                 clear HO_368002
                 clear BK367
                 clear HB
                 clear h0_ h1_ h2_ h3_ h4_ h5_ h6_ h7_ h8_
                 have HO371 := n0_
                 have HO_368002 := n1_
                 have BK367 := n2_
                 have BK373 := n3_
                 have GW373 := n4_
                 have GE373 := n5_
                 have NB367_373 := n6_
                 have NB373_367 := n7_
                 have HB := n8_
                 clear n0_ n1_ n2_ n3_ n4_ n5_ n6_ n7_ n8_
                 have hHeld : w29.cell? (ad372.add (x8_2).toNat) = some (.int .i16 (rd l0 x8_2)) := hS_
                 obtain ⟨Ao30, co30, eo30⟩ := Kd.R_slice HO371.out
                 (first | subst eo30 | (injection eo30 with f1_ f2_ f3_; have f4_ := f1_.symm; have f5_ := f3_.symm; clear f1_ f2_ f3_; subst f4_; subst f5_))
                 refine norm_ (a' := ?_) ?_ ?_
                 rotate_left
                 ·simp only [putAll, Act.put, List.setIfInBounds_toArray, List.set_cons_zero, List.set_cons_succ]
                  rfl
                 refine one_ (i := 11) (N := none) (bts 12 4095) rfl rfl (one_of HT_.out (by kernel_rfl)) (by decide) (fun K hK => ?_)
                 have hs31 : w29.cell? ⟨gb373, 0, none⟩ = some (.slice none 0 0) := (blk_cell BK373.out 0).trans rfl
                 have hfs31 := blk_frozen BK373.out 0
                 have hns31_0 := NB367_373.out
                 have hms31_0 := NB373_367.out
                 have hs32 : w29.cell? ⟨gb373, 1, none⟩ = some (.int .i64 0) := (blk_cell BK373.out 1).trans rfl
                 have hfs32 := blk_frozen BK373.out 1
                 have hns32_0 := NB367_373.out
                 have hms32_0 := NB373_367.out
                 refine skip_ (w1 := ?_) (by rfl) rfl ?_ ?_
                 rotate_left
                 ·go_simp
                  rfl
                 refine hK.out _ _ (((cell_far (p := ⟨gb373, _, none⟩) (by first | exact Nat.ne_of_lt (Nat.lt_of_lt_of_le (by have := World.block_lt_of_cell? _ _ hw372_0; first | rwa [add_block] at this | exact this) GW373.out) | (rw [add_block]; exact Nat.ne_of_lt (Nat.lt_of_lt_of_le (by have := World.block_lt_of_cell? _ _ hw372_0; first | rwa [add_block] at this | exact this) GW373.out)) | (show (Addr.add _ _).block ≠ _; rw [add_block]; exact Nat.ne_of_lt (Nat.lt_of_lt_of_le (by have := World.block_lt_of_cell? _ _ hw372_0; first | rwa [add_block] at this | exact this) GW373.out)) | (dsimp only; exact Nat.ne_of_lt (Nat.lt_of_lt_of_le (by have := World.block_lt_of_cell? _ _ hw372_0; first | rwa [add_block] at this | exact this) GW373.out))) _).trans (((cell_far (p := ⟨gb373, _, none⟩) (by first | exact Nat.ne_of_lt (Nat.lt_of_lt_of_le (by have := World.block_lt_of_cell? _ _ hw372_0; first | rwa [add_block] at this | exact this) GW373.out) | (rw [add_block]; exact Nat.ne_of_lt (Nat.lt_of_lt_of_le (by have := World.block_lt_of_cell? _ _ hw372_0; first | rwa [add_block] at this | exact this) GW373.out)) | (show (Addr.add _ _).block ≠ _; rw [add_block]; exact Nat.ne_of_lt (Nat.lt_of_lt_of_le (by have := World.block_lt_of_cell? _ _ hw372_0; first | rwa [add_block] at this | exact this) GW373.out)) | (dsimp only; exact Nat.ne_of_lt (Nat.lt_of_lt_of_le (by have := World.block_lt_of_cell? _ _ hw372_0; first | rwa [add_block] at this | exact this) GW373.out))) _).trans (hHeld))))) (fun hHeld => ?_)
                 clear hK K
                 refine done_ (done_of HT_.out (by kernel_rfl)) ?_
                 try go_wp2
                 have n0_ : Aside0 (Kd.N k59 59 ((w29.setCell ⟨gb373, 0, none⟩ (.slice Ao30 y369.length co30)).setCell ⟨gb373, 1, none⟩ (.int .i64 (wrap64 (-(wrap64 (rd l0 x8_2)))))) w.heap.size (fun k_ => some k_ ≠ (.slice Ao30 y369.length co30 : Value).ownBlock ∧ k_ ≠ gb367 ∧ k_ ≠ gb373) u368002 x368002_2) := ⟨uN (Kd.N_mono (Kd.N_far (p := ⟨gb373, 1, none⟩) (Kd.N_far (p := ⟨gb373, 0, none⟩) (Kd.N_mono HO_368002.out (fun k_ hk => (⟨hk, hk.2.2⟩ : _ ∧ k_ ≠ gb373))) (fun _ hk => hk.2) (.slice Ao30 y369.length co30)) (fun _ hk => hk.2) (.int .i64 (wrap64 (-(wrap64 (rd l0 x8_2)))))) (fun _ hk => ⟨hk.1.1, ⟨hk.1.2.1, hk.1.2.2⟩⟩))⟩
                 have n1_ : Aside0 (Kd.R (Kd.int .i64) 2 ((w29.setCell ⟨gb373, 0, none⟩ (.slice Ao30 y369.length co30)).setCell ⟨gb373, 1, none⟩ (.int .i64 (wrap64 (-(wrap64 (rd l0 x8_2)))))) w.heap.size (fun _ => True) (.slice Ao30 y369.length co30) y369) := ⟨uR (Kd.R_mono (Kd.R_far (p := ⟨gb373, 1, none⟩) (Kd.R_far (p := ⟨gb373, 0, none⟩) (Kd.R_types HO371.out BK373.out (by decide)) (fun _ hk => hk.2) (.slice Ao30 y369.length co30)) (fun _ hk => hk.2) (.int .i64 (wrap64 (-(wrap64 (rd l0 x8_2)))))) (fun _ hk => trivial))⟩
                 have n2_ : Aside0 (((w29.setCell ⟨gb373, 0, none⟩ (.slice Ao30 y369.length co30)).setCell ⟨gb373, 1, none⟩ (.int .i64 (wrap64 (-(wrap64 (rd l0 x8_2)))))).heap[gb367]? = some (.cells #[.int .i64 (l0.length : Int), .slice none 0 0, u368002] 24 (0, 0))) := ⟨by (with_reducible repeat (first | refine blk_drewN ?_ _ | refine blk_drew ?_ | refine blk_alloc ?_ _)); refine blk_far ?_ NB367_373.out _; (with_reducible repeat (first | refine blk_drewN ?_ _ | refine blk_drew ?_ | refine blk_alloc ?_ _)); refine blk_far ?_ NB367_373.out _; (with_reducible repeat (first | refine blk_drewN ?_ _ | refine blk_drew ?_ | refine blk_alloc ?_ _)); exact BK367.out⟩
                 have n3_ : Aside0 (((w29.setCell ⟨gb373, 0, none⟩ (.slice Ao30 y369.length co30)).setCell ⟨gb373, 1, none⟩ (.int .i64 (wrap64 (-(wrap64 (rd l0 x8_2)))))).heap[gb373]? = some (.cells #[.slice Ao30 y369.length co30, .int .i64 (wrap64 (-(wrap64 (rd l0 x8_2))))] 59 (0, 0))) := ⟨by (with_reducible repeat (first | refine blk_drewN ?_ _ | refine blk_drew ?_ | refine blk_alloc ?_ _)); refine blk_put (cs := #[.slice Ao30 y369.length co30, .int .i64 0]) ?_ 1 _ rfl; (with_reducible repeat (first | refine blk_drewN ?_ _ | refine blk_drew ?_ | refine blk_alloc ?_ _)); refine blk_put (cs := #[.slice none 0 0, .int .i64 0]) ?_ 0 _ rfl; (with_reducible repeat (first | refine blk_drewN ?_ _ | refine blk_drew ?_ | refine blk_alloc ?_ _)); exact BK373.out⟩
                 have n4_ : Aside0 (Below w.heap.size w ((w29.setCell ⟨gb373, 0, none⟩ (.slice Ao30 y369.length co30)).setCell ⟨gb373, 1, none⟩ (.int .i64 (wrap64 (-(wrap64 (rd l0 x8_2))))))) := ⟨bH⟩
                 (try clear HO_368002)
                 (try clear HO371)
                 (try clear BK367)
                 (try clear BK373)
                 (try clear HB)
                 generalize ((w29.setCell ⟨gb373, 0, none⟩ (.slice Ao30 y369.length co30)).setCell ⟨gb373, 1, none⟩ (.int .i64 (wrap64 (-(wrap64 (rd l0 x8_2)))))) = w33 at n0_ n1_ n2_ n3_ n4_ ⊢
                 have HO_368002 := n0_
                 have HO371 := n1_
                 have BK367 := n2_
                 have BK373 := n3_
                 have HB := n4_
                 clear n0_ n1_ n2_ n3_ n4_
                 replace HO_368002 := mk0 (Kd.N_drew HO_368002.out)
                 replace HO371 := mk0 (Kd.R_drew HO371.out)
                 replace BK367 := mk0 (blk_drew BK367.out)
                 replace BK373 := mk0 (blk_drew BK373.out)
                 replace HB := mk0 (below_drew1 HB.out)
                 have p377 : 0 ≤ (x8_2 : Int) := of_decide_eq_true (by first | (with_reducible assumption) | assumption)
                 have q377 : x8_2 < (l0.length : Int) := of_decide_eq_true (by first | (with_reducible assumption) | assumption)
                 obtain ⟨ad377, e377, hx377_0⟩ := Kd.at_int HR0.out x8_2 p377 q377
                 have hw377_0 := hx377_0
                 obtain rfl : ad372 = ad377 := (by injection e377)
                 replace hx377_0 := (HB.out.cell (World.block_lt_of_cell? w _ hx377_0)).trans hx377_0
                 replace p377 := eq_true p377
                 replace q377 := eq_true q377
                 have p378 : 0 ≤ (x8_2 : Int) := of_decide_eq_true (by first | (with_reducible assumption) | assumption)
                 have q378 : x8_2 < (l1.length : Int) := of_decide_eq_true (by first | (with_reducible assumption) | assumption)
                 obtain ⟨ad378, e378, hx378_0⟩ := Kd.at_int HR1.out x8_2 p378 q378
                 have hw378_0 := hx378_0
                 cases e378
                 replace hx378_0 := (HB.out.cell (World.block_lt_of_cell? w _ hx378_0)).trans hx378_0
                 replace p378 := eq_true p378
                 replace q378 := eq_true q378
                 refine start_ (n := 17) (S := fun w' => w'.cell? (ad372.add (x8_2).toNat) = some (.int .i16 (rd l0 x8_2)) ∧ w'.cell? (ad378.add (x8_2).toNat) = some (.int .u16 (rd l1 x8_2))) (ds := []) (bts 17 0) (by kernel_rfl) rfl rfl ⟨((HB.out.cell (World.block_lt_of_cell? w _ hw377_0)).trans hw377_0), ((HB.out.cell (World.block_lt_of_cell? w _ hw378_0)).trans hw378_0)⟩ (fun hHeld => ?_); refine with_tabW furrowlaw15_SysBox.tab11 furrowlaw15_SysBox.bits11 (fun HT_ HW_ => ?_)
                 generalize w33.drew = w34 at HO_368002 HO371 BK367 BK373 HB HO371 hx377_0 hx378_0 hHeld ⊢
                 refine pA 0 (some 61) 0 17 1 HT_ ?_
                 refine pA 1 (some 62) 1 17 3 HT_ ?_
                 refine pA 3 (some 64) 3 17 11 HT_ ?_
                 refine pA 4 (some 65) 11 17 27 HT_ ?_
                 refine pA 5 (some 66) 27 17 59 HT_ ?_
                 refine pA 8 (some 69) 59 17 315 HT_ ?_
                 refine pA 9 (some 70) 315 17 827 HT_ ?_
                 refine pA 10 (some 71) 827 17 1851 HT_ ?_
                 refine tA2 6 (some 67) 1851 17 1915 HT_ HW_ hHeld ?_
                 refine pA 7 (some 68) 1915 17 2043 HT_ ?_
                 refine tA2 11 (some 72) 2043 17 4091 HT_ HW_ hHeld ?_
                 refine pA 12 (some 73) 4091 17 8187 HT_ ?_
                 refine pA 13 (some 74) 8187 17 16379 HT_ ?_
                 refine join_ (σ := Value × Nat) 1 (bts 17 65535) (fun s_ => [(63, s_.1), (11, .pointer (some ⟨s_.2, 0, none⟩)), (75, .agg #[s_.1, .int .i64 (wrap64 ((wrap64 (rd l0 x8_2)) + (wrap64 (rd l1 x8_2))))])]) (fun s_ w' => (w'.cell? (ad372.add (x8_2).toNat) = some (.int .i16 (rd l0 x8_2)) ∧ w'.cell? (ad378.add (x8_2).toNat) = some (.int .u16 (rd l1 x8_2))) ∧ (Kd.R (Kd.int .i64) 2 w' w.heap.size (fun k_ => some k_ ≠ (s_.1 : Value).ownBlock) (.slice Ao30 y369.length co30) y369) ∧ (Kd.R (Kd.int .i64) 2 w' w.heap.size (fun k_ => some k_ ≠ (.slice Ao30 y369.length co30 : Value).ownBlock) s_.1 y374) ∧ (Kd.N k59 59 w' w.heap.size (fun k_ => some k_ ≠ (.slice Ao30 y369.length co30 : Value).ownBlock ∧ some k_ ≠ (s_.1 : Value).ownBlock ∧ k_ ≠ gb367 ∧ k_ ≠ gb373 ∧ k_ ≠ s_.2) u368002 x368002_2) ∧ (w'.heap[gb367]? = some (.cells #[.int .i64 (l0.length : Int), .slice none 0 0, u368002] 24 (0, 0))) ∧ (w'.heap[gb373]? = some (.cells #[.slice Ao30 y369.length co30, .int .i64 (wrap64 (-(wrap64 (rd l0 x8_2))))] 59 (0, 0))) ∧ (w'.heap[s_.2]? = some (.cells #[.slice none 0 0, .int .i64 0] 59 (0, 0))) ∧ (w.heap.size ≤ s_.2) ∧ (w.heap.size ≤ s_.2) ∧ (gb367 ≠ s_.2) ∧ (s_.2 ≠ gb367) ∧ (gb373 ≠ s_.2) ∧ (s_.2 ≠ gb373) ∧ (Below w.heap.size w w')) ?_ ?_
                 rotate_left
                 ·intro hCont
                  refine two_ (i := 2) (j := 15) (Ni := some 63) (Nj := some 11) (bts 17 16383) (bts 17 49147) rfl rfl rfl rfl (two_of HT_.out (by kernel_rfl)) (by decide) (by decide) (fun K hK => ?_) (fun K hK => ?_)
                  ·skip
                   refine Kd.R_make_step (Kd.int .i64) _ 2 (by rfl) (N := 63) rfl 44 _ _ rfl (l0.length : Int) rfl rfl Tryd.underlying44 (.int .i64 0) 8 info2 rfl (by decide) (by omega) 0 (ok := fun _ => True) (okp := fun _ => True) rfl (fun _ hk => hk) trivial (of_decide_eq_true (by first | (with_reducible assumption) | assumption)) (Nat.le_trans (Nat.mul_le_mul_right _ (of_decide_eq_true (by first | (with_reducible assumption) | assumption) : (l0.length : Int).toNat ≤ 35184372088832)) (by omega)) (Below.refl _ _) (Nat.le_refl _) ?_
                   intro v375 w35 ho36 hb hg_ hnew_
                   clear hg_ hnew_
                   (first | rw [← Ny374.out] at ho36 | (simp only [Int.reduceToNat] at ho36; rw [← Ny374.out] at ho36))
                   replace HO_368002 := mk0 (Kd.N_elder' (uN HO_368002.out) (Kd.R_base ho36) hb)
                   have HO376 := mk0 (Kd.R_lower (Kd.R_new' ho36 (Kd.R_lt (uR HO371.out))) (below_size bH))
                   replace HO371 := mk0 (Kd.R_elder' (uR HO371.out) (Kd.R_base ho36) hb)
                   replace BK367 := bB BK367 hb
                   replace BK373 := bB BK373 hb
                   replace HB := hbB bH hb
                   clear hb ho36
                   obtain ⟨Ao37, co37, eo37⟩ := Kd.R_slice HO376.out
                   (first | subst eo37 | (injection eo37 with f1_ f2_ f3_; have f4_ := f1_.symm; have f5_ := f3_.symm; clear f1_ f2_ f3_; subst f4_; subst f5_))
                   refine hK.out _ _ ⟨((HB.out.cell (World.block_lt_of_cell? w _ hw377_0)).trans hw377_0), ((HB.out.cell (World.block_lt_of_cell? w _ hw378_0)).trans hw378_0)⟩ (fun hHeld => ?_)
                   clear hK K
                   refine norm_ (a' := ?_) ?_ ?_
                   rotate_left
                   ·show Act.put _ (some 63) _ = _
                    simp only [Act.put, List.setIfInBounds_toArray, List.set_cons_zero, List.set_cons_succ, i64_w, i32_w]
                    rfl
                   refine pA 14 (some 75) 16383 17 32767 HT_ ?_
                   refine one_ (i := 15) (N := some 11) (bts 17 65535) rfl rfl (one_of HT_.out (by kernel_rfl)) (by decide) (fun K hK => ?_)
                   refine box_step ?hg (N := 11) ?hd (cs := #[.slice none 0 0, .int .i64 0]) (t := 59) ?hr ?_; (case hd => rfl); (case hg => rfl); (case hr => first | (go_simp; done) | (go_simp; rfl))
                   intro gb379 hg w38 hbox hb
                   replace HO_368002 := mk0 (Kd.N_below (Kd.N_elderB (uN HO_368002.out) gb379 (Nat.le_of_eq hg.symm)) hb)
                   replace HO371 := rB HO371 hb
                   replace HO376 := rB HO376 hb
                   have BK379 := mk0 (hbox)
                   have GW379 := mk0 ((by rw [hg]; exact (below_size bH) : w.heap.size ≤ gb379))
                   have GE379 := mk0 ((by rw [hg]; exact (below_size bH) : w.heap.size ≤ gb379))
                   replace HB := hbB bH hb
                   have NB367_379 := mk0 ((by rw [hg]; exact Nat.ne_of_lt (blk_lt (g := gb367) (o := .cells #[.int .i64 (l0.length : Int), .slice none 0 0, u368002] 24 (0, 0)) (uB BK367.out)) : gb367 ≠ gb379))
                   have NB379_367 := mk0 ((by rw [hg]; exact Nat.ne_of_gt (blk_lt (g := gb367) (o := .cells #[.int .i64 (l0.length : Int), .slice none 0 0, u368002] 24 (0, 0)) (uB BK367.out)) : gb379 ≠ gb367))
                   replace BK367 := bB BK367 hb
                   have NB373_379 := mk0 ((by rw [hg]; exact Nat.ne_of_lt (blk_lt (g := gb373) (o := .cells #[.slice Ao30 y369.length co30, .int .i64 (wrap64 (-(wrap64 (rd l0 x8_2))))] 59 (0, 0)) (uB BK373.out)) : gb373 ≠ gb379))
                   have NB379_373 := mk0 ((by rw [hg]; exact Nat.ne_of_gt (blk_lt (g := gb373) (o := .cells #[.slice Ao30 y369.length co30, .int .i64 (wrap64 (-(wrap64 (rd l0 x8_2))))] 59 (0, 0)) (uB BK373.out)) : gb379 ≠ gb373))
                   replace BK373 := bB BK373 hb
                   clear hb hbox hg
                   refine hK.out _ _ ⟨((HB.out.cell (World.block_lt_of_cell? w _ hw377_0)).trans hw377_0), ((HB.out.cell (World.block_lt_of_cell? w _ hw378_0)).trans hw378_0)⟩ (fun hHeld => ?_)
                   clear hK K
                   refine norm_ (a' := ?_) ?_ ?_
                   rotate_left
                   ·show Act.put _ (some 11) _ = _
                    simp only [Act.put, List.setIfInBounds_toArray, List.set_cons_zero, List.set_cons_succ, i64_w, i32_w]
                    rfl
                   exact norm_ (by first | (simp only [putAll, Act.put, List.setIfInBounds_toArray, List.set_cons_zero, List.set_cons_succ]; done) | (simp only [putAll, Act.put, List.setIfInBounds_toArray, List.set_cons_zero, List.set_cons_succ, *]; done)) (hCont (.slice Ao37 y374.length co37, gb379) _ ⟨hHeld, (uR (Kd.R_mono HO371.out (fun _ hk => hk.2))), (uR (Kd.R_mono HO376.out (fun _ hk => hk.2))), (uN (Kd.N_mono HO_368002.out (fun _ hk => ⟨hk.1.1.1, ⟨hk.1.2, ⟨hk.1.1.2.1, ⟨hk.1.1.2.2, hk.2⟩⟩⟩⟩))), (uB BK367.out), (uB BK373.out), (uB BK379.out), GW379.out, GE379.out, NB367_379.out, NB379_367.out, NB373_379.out, NB379_373.out, bH⟩)
                  ·skip
                   refine box_step ?hg (N := 11) ?hd (cs := #[.slice none 0 0, .int .i64 0]) (t := 59) ?hr ?_; (case hd => rfl); (case hg => rfl); (case hr => first | (go_simp; done) | (go_simp; rfl))
                   intro gb379 hg w35 hbox hb
                   replace HO_368002 := mk0 (Kd.N_below (Kd.N_elderB (uN HO_368002.out) gb379 (Nat.le_of_eq hg.symm)) hb)
                   replace HO371 := rB HO371 hb
                   have BK379 := mk0 (hbox)
                   have GW379 := mk0 ((by rw [hg]; exact (below_size bH) : w.heap.size ≤ gb379))
                   have GE379 := mk0 ((by rw [hg]; exact (below_size bH) : w.heap.size ≤ gb379))
                   replace HB := hbB bH hb
                   have NB367_379 := mk0 ((by rw [hg]; exact Nat.ne_of_lt (blk_lt (g := gb367) (o := .cells #[.int .i64 (l0.length : Int), .slice none 0 0, u368002] 24 (0, 0)) (uB BK367.out)) : gb367 ≠ gb379))
                   have NB379_367 := mk0 ((by rw [hg]; exact Nat.ne_of_gt (blk_lt (g := gb367) (o := .cells #[.int .i64 (l0.length : Int), .slice none 0 0, u368002] 24 (0, 0)) (uB BK367.out)) : gb379 ≠ gb367))
                   replace BK367 := bB BK367 hb
                   have NB373_379 := mk0 ((by rw [hg]; exact Nat.ne_of_lt (blk_lt (g := gb373) (o := .cells #[.slice Ao30 y369.length co30, .int .i64 (wrap64 (-(wrap64 (rd l0 x8_2))))] 59 (0, 0)) (uB BK373.out)) : gb373 ≠ gb379))
                   have NB379_373 := mk0 ((by rw [hg]; exact Nat.ne_of_gt (blk_lt (g := gb373) (o := .cells #[.slice Ao30 y369.length co30, .int .i64 (wrap64 (-(wrap64 (rd l0 x8_2))))] 59 (0, 0)) (uB BK373.out)) : gb379 ≠ gb373))
                   replace BK373 := bB BK373 hb
                   clear hb hbox hg
                   refine hK.out _ _ ⟨((HB.out.cell (World.block_lt_of_cell? w _ hw377_0)).trans hw377_0), ((HB.out.cell (World.block_lt_of_cell? w _ hw378_0)).trans hw378_0)⟩ (fun hHeld => ?_)
                   clear hK K
                   refine norm_ (a' := ?_) ?_ ?_
                   rotate_left
                   ·show Act.put _ (some 11) _ = _
                    simp only [Act.put, List.setIfInBounds_toArray, List.set_cons_zero, List.set_cons_succ, i64_w, i32_w]
                    rfl
                   refine one_ (i := 2) (N := some 63) (bts 17 49151) rfl rfl (one_of HT_.out (by kernel_rfl)) (by decide) (fun K hK => ?_)
                   refine Kd.R_make_step (Kd.int .i64) _ 2 (by rfl) (N := 63) rfl 44 _ _ rfl (l0.length : Int) rfl rfl Tryd.underlying44 (.int .i64 0) 8 info2 rfl (by decide) (by omega) 0 (ok := fun _ => True) (okp := fun _ => True) rfl (fun _ hk => hk) trivial (of_decide_eq_true (by first | (with_reducible assumption) | assumption)) (Nat.le_trans (Nat.mul_le_mul_right _ (of_decide_eq_true (by first | (with_reducible assumption) | assumption) : (l0.length : Int).toNat ≤ 35184372088832)) (by omega)) (Below.refl _ _) (Nat.le_refl _) ?_
                   intro v375 w36 ho37 hb hg_ hnew_
                   clear hg_ hnew_
                   (first | rw [← Ny374.out] at ho37 | (simp only [Int.reduceToNat] at ho37; rw [← Ny374.out] at ho37))
                   replace HO_368002 := mk0 (Kd.N_elder' (uN HO_368002.out) (Kd.R_base ho37) hb)
                   have HO376 := mk0 (Kd.R_lower (Kd.R_new' ho37 (Kd.R_lt (uR HO371.out))) (below_size bH))
                   replace HO371 := mk0 (Kd.R_elder' (uR HO371.out) (Kd.R_base ho37) hb)
                   replace BK367 := bB BK367 hb
                   replace BK373 := bB BK373 hb
                   replace BK379 := bB BK379 hb
                   replace HB := hbB bH hb
                   clear hb ho37
                   obtain ⟨Ao38, co38, eo38⟩ := Kd.R_slice HO376.out
                   (first | subst eo38 | (injection eo38 with f1_ f2_ f3_; have f4_ := f1_.symm; have f5_ := f3_.symm; clear f1_ f2_ f3_; subst f4_; subst f5_))
                   refine hK.out _ _ ⟨((HB.out.cell (World.block_lt_of_cell? w _ hw377_0)).trans hw377_0), ((HB.out.cell (World.block_lt_of_cell? w _ hw378_0)).trans hw378_0)⟩ (fun hHeld => ?_)
                   clear hK K
                   refine norm_ (a' := ?_) ?_ ?_
                   rotate_left
                   ·show Act.put _ (some 63) _ = _
                    simp only [Act.put, List.setIfInBounds_toArray, List.set_cons_zero, List.set_cons_succ, i64_w, i32_w]
                    rfl
                   refine pA 14 (some 75) 49151 17 65535 HT_ ?_
                   exact norm_ (by first | (simp only [putAll, Act.put, List.setIfInBounds_toArray, List.set_cons_zero, List.set_cons_succ]; done) | (simp only [putAll, Act.put, List.setIfInBounds_toArray, List.set_cons_zero, List.set_cons_succ, *]; done)) (hCont (.slice Ao38 y374.length co38, gb379) _ ⟨hHeld, (uR (Kd.R_mono HO371.out (fun _ hk => hk.2))), (uR (Kd.R_mono HO376.out (fun _ hk => hk.2))), (uN (Kd.N_mono HO_368002.out (fun _ hk => ⟨hk.1.1.1, ⟨hk.2, ⟨hk.1.1.2.1, ⟨hk.1.1.2.2, hk.1.2⟩⟩⟩⟩))), (uB BK367.out), (uB BK373.out), (uB BK379.out), GW379.out, GE379.out, NB367_379.out, NB379_367.out, NB373_379.out, NB379_373.out, bH⟩)
                 rintro ⟨v375, gb379⟩ w39 ⟨hS_, h0_, h1_, h2_, h3_, h4_, h5_, h6_, h7_, h8_, h9_, h10_, h11_, h12_⟩
                 have n0_ : Aside0 (Kd.R (Kd.int .i64) 2 w39 w.heap.size (fun k_ => some k_ ≠ (v375 : Value).ownBlock) (.slice Ao30 y369.length co30) y369) := ⟨h0_⟩
                 have n1_ : Aside0 (Kd.R (Kd.int .i64) 2 w39 w.heap.size (fun k_ => some k_ ≠ (.slice Ao30 y369.length co30 : Value).ownBlock) v375 y374) := ⟨h1_⟩
                 have n2_ : Aside0 (Kd.N k59 59 w39 w.heap.size (fun k_ => some k_ ≠ (.slice Ao30 y369.length co30 : Value).ownBlock ∧ some k_ ≠ (v375 : Value).ownBlock ∧ k_ ≠ gb367 ∧ k_ ≠ gb373 ∧ k_ ≠ gb379) u368002 x368002_2) := ⟨h2_⟩
                 have n3_ : Aside0 (w39.heap[gb367]? = some (.cells #[.int .i64 (l0.length : Int), .slice none 0 0, u368002] 24 (0, 0))) := ⟨h3_⟩
                 have n4_ : Aside0 (w39.heap[gb373]? = some (.cells #[.slice Ao30 y369.length co30, .int .i64 (wrap64 (-(wrap64 (rd l0 x8_2))))] 59 (0, 0))) := ⟨h4_⟩
                 have n5_ : Aside0 (w39.heap[gb379]? = some (.cells #[.slice none 0 0, .int .i64 0] 59 (0, 0))) := ⟨h5_⟩
                 have n6_ : Aside0 (w.heap.size ≤ gb379) := ⟨h6_⟩
                 have n7_ : Aside0 (w.heap.size ≤ gb379) := ⟨h7_⟩
                 have n8_ : Aside0 (gb367 ≠ gb379) := ⟨h8_⟩
                 have n9_ : Aside0 (gb379 ≠ gb367) := ⟨h9_⟩
                 have n10_ : Aside0 (gb373 ≠ gb379) := ⟨h10_⟩
                 have n11_ : Aside0 (gb379 ≠ gb373) := ⟨h11_⟩
                 have n12_ : Aside0 (Below w.heap.size w w39) := ⟨h12_⟩
                 clear HO_368002
                 clear HO371
                 clear BK367
                 clear BK373
                 clear HB
                 clear h0_ h1_ h2_ h3_ h4_ h5_ h6_ h7_ h8_ h9_ h10_ h11_ h12_
                 have HO371 := n0_
                 have HO376 := n1_
                 have HO_368002 := n2_
                 have BK367 := n3_
                 have BK373 := n4_
                 have BK379 := n5_
                 have GW379 := n6_
                 have GE379 := n7_
                 have NB367_379 := n8_
                 have NB379_367 := n9_
                 have NB373_379 := n10_
                 have NB379_373 := n11_
                 have HB := n12_
                 clear n0_ n1_ n2_ n3_ n4_ n5_ n6_ n7_ n8_ n9_ n10_ n11_ n12_
                 have hHeld : w39.cell? (ad372.add (x8_2).toNat) = some (.int .i16 (rd l0 x8_2)) ∧ w39.cell? (ad378.add (x8_2).toNat) = some (.int .u16 (rd l1 x8_2)) := hS_
                 obtain ⟨Ao40, co40, eo40⟩ := Kd.R_slice HO376.out
                 (first | subst eo40 | (injection eo40 with f1_ f2_ f3_; have f4_ := f1_.symm; have f5_ := f3_.symm; clear f1_ f2_ f3_; subst f4_; subst f5_))
                 refine norm_ (a' := ?_) ?_ ?_
                 rotate_left
                 ·simp only [putAll, Act.put, List.setIfInBounds_toArray, List.set_cons_zero, List.set_cons_succ]
                  rfl
                 refine one_ (i := 16) (N := none) (bts 17 131071) rfl rfl (one_of HT_.out (by kernel_rfl)) (by decide) (fun K hK => ?_)
                 have hs41 : w39.cell? ⟨gb379, 0, none⟩ = some (.slice none 0 0) := (blk_cell BK379.out 0).trans rfl
                 have hfs41 := blk_frozen BK379.out 0
                 have hns41_0 := NB367_379.out
                 have hns41_1 := NB373_379.out
                 have hms41_0 := NB379_367.out
                 have hms41_1 := NB379_373.out
                 have hs42 : w39.cell? ⟨gb379, 1, none⟩ = some (.int .i64 0) := (blk_cell BK379.out 1).trans rfl
                 have hfs42 := blk_frozen BK379.out 1
                 have hns42_0 := NB367_379.out
                 have hns42_1 := NB373_379.out
                 have hms42_0 := NB379_367.out
                 have hms42_1 := NB379_373.out
                 refine skip_ (w1 := ?_) (by rfl) rfl ?_ ?_
                 rotate_left
                 ·go_simp
                  rfl
                 refine hK.out _ _ ⟨((cell_far (p := ⟨gb379, _, none⟩) (by first | exact Nat.ne_of_lt (Nat.lt_of_lt_of_le (by have := World.block_lt_of_cell? _ _ hw377_0; first | rwa [add_block] at this | exact this) GW379.out) | (rw [add_block]; exact Nat.ne_of_lt (Nat.lt_of_lt_of_le (by have := World.block_lt_of_cell? _ _ hw377_0; first | rwa [add_block] at this | exact this) GW379.out)) | (show (Addr.add _ _).block ≠ _; rw [add_block]; exact Nat.ne_of_lt (Nat.lt_of_lt_of_le (by have := World.block_lt_of_cell? _ _ hw377_0; first | rwa [add_block] at this | exact this) GW379.out)) | (dsimp only; exact Nat.ne_of_lt (Nat.lt_of_lt_of_le (by have := World.block_lt_of_cell? _ _ hw377_0; first | rwa [add_block] at this | exact this) GW379.out))) _).trans (((cell_far (p := ⟨gb379, _, none⟩) (by first | exact Nat.ne_of_lt (Nat.lt_of_lt_of_le (by have := World.block_lt_of_cell? _ _ hw377_0; first | rwa [add_block] at this | exact this) GW379.out) | (rw [add_block]; exact Nat.ne_of_lt (Nat.lt_of_lt_of_le (by have := World.block_lt_of_cell? _ _ hw377_0; first | rwa [add_block] at this | exact this) GW379.out)) | (show (Addr.add _ _).block ≠ _; rw [add_block]; exact Nat.ne_of_lt (Nat.lt_of_lt_of_le (by have := World.block_lt_of_cell? _ _ hw377_0; first | rwa [add_block] at this | exact this) GW379.out)) | (dsimp only; exact Nat.ne_of_lt (Nat.lt_of_lt_of_le (by have := World.block_lt_of_cell? _ _ hw377_0; first | rwa [add_block] at this | exact this) GW379.out))) _).trans (hHeld.1)))), ((cell_far (p := ⟨gb379, _, none⟩) (by first | exact Nat.ne_of_lt (Nat.lt_of_lt_of_le (by have := World.block_lt_of_cell? _ _ hw378_0; first | rwa [add_block] at this | exact this) GW379.out) | (rw [add_block]; exact Nat.ne_of_lt (Nat.lt_of_lt_of_le (by have := World.block_lt_of_cell? _ _ hw378_0; first | rwa [add_block] at this | exact this) GW379.out)) | (show (Addr.add _ _).block ≠ _; rw [add_block]; exact Nat.ne_of_lt (Nat.lt_of_lt_of_le (by have := World.block_lt_of_cell? _ _ hw378_0; first | rwa [add_block] at this | exact this) GW379.out)) | (dsimp only; exact Nat.ne_of_lt (Nat.lt_of_lt_of_le (by have := World.block_lt_of_cell? _ _ hw378_0; first | rwa [add_block] at this | exact this) GW379.out))) _).trans (((cell_far (p := ⟨gb379, _, none⟩) (by first | exact Nat.ne_of_lt (Nat.lt_of_lt_of_le (by have := World.block_lt_of_cell? _ _ hw378_0; first | rwa [add_block] at this | exact this) GW379.out) | (rw [add_block]; exact Nat.ne_of_lt (Nat.lt_of_lt_of_le (by have := World.block_lt_of_cell? _ _ hw378_0; first | rwa [add_block] at this | exact this) GW379.out)) | (show (Addr.add _ _).block ≠ _; rw [add_block]; exact Nat.ne_of_lt (Nat.lt_of_lt_of_le (by have := World.block_lt_of_cell? _ _ hw378_0; first | rwa [add_block] at this | exact this) GW379.out)) | (dsimp only; exact Nat.ne_of_lt (Nat.lt_of_lt_of_le (by have := World.block_lt_of_cell? _ _ hw378_0; first | rwa [add_block] at this | exact this) GW379.out))) _).trans (hHeld.2))))⟩ (fun hHeld => ?_)
                 clear hK K
                 refine done_ (done_of HT_.out (by kernel_rfl)) ?_
                 try go_wp2
                 have n0_ : Aside0 (Kd.N k59 59 ((w39.setCell ⟨gb379, 0, none⟩ (.slice Ao40 y374.length co40)).setCell ⟨gb379, 1, none⟩ (.int .i64 (wrap64 ((wrap64 (rd l0 x8_2)) + (wrap64 (rd l1 x8_2)))))) w.heap.size (fun k_ => some k_ ≠ (.slice Ao30 y369.length co30 : Value).ownBlock ∧ some k_ ≠ (.slice Ao40 y374.length co40 : Value).ownBlock ∧ k_ ≠ gb367 ∧ k_ ≠ gb373 ∧ k_ ≠ gb379) u368002 x368002_2) := ⟨uN (Kd.N_mono (Kd.N_far (p := ⟨gb379, 1, none⟩) (Kd.N_far (p := ⟨gb379, 0, none⟩) (Kd.N_mono HO_368002.out (fun k_ hk => (⟨hk, hk.2.2.2.2⟩ : _ ∧ k_ ≠ gb379))) (fun _ hk => hk.2) (.slice Ao40 y374.length co40)) (fun _ hk => hk.2) (.int .i64 (wrap64 ((wrap64 (rd l0 x8_2)) + (wrap64 (rd l1 x8_2)))))) (fun _ hk => ⟨hk.1.1, ⟨hk.1.2.1, ⟨hk.1.2.2.1, ⟨hk.1.2.2.2.1, hk.1.2.2.2.2⟩⟩⟩⟩))⟩
                 have n1_ : Aside0 (Kd.R (Kd.int .i64) 2 ((w39.setCell ⟨gb379, 0, none⟩ (.slice Ao40 y374.length co40)).setCell ⟨gb379, 1, none⟩ (.int .i64 (wrap64 ((wrap64 (rd l0 x8_2)) + (wrap64 (rd l1 x8_2)))))) w.heap.size (fun k_ => some k_ ≠ (.slice Ao40 y374.length co40 : Value).ownBlock) (.slice Ao30 y369.length co30) y369) := ⟨uR (Kd.R_mono (Kd.R_far (p := ⟨gb379, 1, none⟩) (Kd.R_far (p := ⟨gb379, 0, none⟩) (Kd.R_types HO371.out BK379.out (by decide)) (fun _ hk => hk.2) (.slice Ao40 y374.length co40)) (fun _ hk => hk.2) (.int .i64 (wrap64 ((wrap64 (rd l0 x8_2)) + (wrap64 (rd l1 x8_2)))))) (fun _ hk => hk.1))⟩
                 have n2_ : Aside0 (Kd.R (Kd.int .i64) 2 ((w39.setCell ⟨gb379, 0, none⟩ (.slice Ao40 y374.length co40)).setCell ⟨gb379, 1, none⟩ (.int .i64 (wrap64 ((wrap64 (rd l0 x8_2)) + (wrap64 (rd l1 x8_2)))))) w.heap.size (fun k_ => some k_ ≠ (.slice Ao30 y369.length co30 : Value).ownBlock) (.slice Ao40 y374.length co40) y374) := ⟨uR (Kd.R_mono (Kd.R_far (p := ⟨gb379, 1, none⟩) (Kd.R_far (p := ⟨gb379, 0, none⟩) (Kd.R_types HO376.out BK379.out (by decide)) (fun _ hk => hk.2) (.slice Ao40 y374.length co40)) (fun _ hk => hk.2) (.int .i64 (wrap64 ((wrap64 (rd l0 x8_2)) + (wrap64 (rd l1 x8_2)))))) (fun _ hk => hk.1))⟩
                 have n3_ : Aside0 (((w39.setCell ⟨gb379, 0, none⟩ (.slice Ao40 y374.length co40)).setCell ⟨gb379, 1, none⟩ (.int .i64 (wrap64 ((wrap64 (rd l0 x8_2)) + (wrap64 (rd l1 x8_2)))))).heap[gb367]? = some (.cells #[.int .i64 (l0.length : Int), .slice none 0 0, u368002] 24 (0, 0))) := ⟨by (with_reducible repeat (first | refine blk_drewN ?_ _ | refine blk_drew ?_ | refine blk_alloc ?_ _)); refine blk_far ?_ NB367_379.out _; (with_reducible repeat (first | refine blk_drewN ?_ _ | refine blk_drew ?_ | refine blk_alloc ?_ _)); refine blk_far ?_ NB367_379.out _; (with_reducible repeat (first | refine blk_drewN ?_ _ | refine blk_drew ?_ | refine blk_alloc ?_ _)); exact BK367.out⟩
                 have n4_ : Aside0 (((w39.setCell ⟨gb379, 0, none⟩ (.slice Ao40 y374.length co40)).setCell ⟨gb379, 1, none⟩ (.int .i64 (wrap64 ((wrap64 (rd l0 x8_2)) + (wrap64 (rd l1 x8_2)))))).heap[gb373]? = some (.cells #[.slice Ao30 y369.length co30, .int .i64 (wrap64 (-(wrap64 (rd l0 x8_2))))] 59 (0, 0))) := ⟨by (with_reducible repeat (first | refine blk_drewN ?_ _ | refine blk_drew ?_ | refine blk_alloc ?_ _)); refine blk_far ?_ NB373_379.out _; (with_reducible repeat (first | refine blk_drewN ?_ _ | refine blk_drew ?_ | refine blk_alloc ?_ _)); refine blk_far ?_ NB373_379.out _; (with_reducible repeat (first | refine blk_drewN ?_ _ | refine blk_drew ?_ | refine blk_alloc ?_ _)); exact BK373.out⟩
                 have n5_ : Aside0 (((w39.setCell ⟨gb379, 0, none⟩ (.slice Ao40 y374.length co40)).setCell ⟨gb379, 1, none⟩ (.int .i64 (wrap64 ((wrap64 (rd l0 x8_2)) + (wrap64 (rd l1 x8_2)))))).heap[gb379]? = some (.cells #[.slice Ao40 y374.length co40, .int .i64 (wrap64 ((wrap64 (rd l0 x8_2)) + (wrap64 (rd l1 x8_2))))] 59 (0, 0))) := ⟨by (with_reducible repeat (first | refine blk_drewN ?_ _ | refine blk_drew ?_ | refine blk_alloc ?_ _)); refine blk_put (cs := #[.slice Ao40 y374.length co40, .int .i64 0]) ?_ 1 _ rfl; (with_reducible repeat (first | refine blk_drewN ?_ _ | refine blk_drew ?_ | refine blk_alloc ?_ _)); refine blk_put (cs := #[.slice none 0 0, .int .i64 0]) ?_ 0 _ rfl; (with_reducible repeat (first | refine blk_drewN ?_ _ | refine blk_drew ?_ | refine blk_alloc ?_ _)); exact BK379.out⟩
                 have n6_ : Aside0 (Below w.heap.size w ((w39.setCell ⟨gb379, 0, none⟩ (.slice Ao40 y374.length co40)).setCell ⟨gb379, 1, none⟩ (.int .i64 (wrap64 ((wrap64 (rd l0 x8_2)) + (wrap64 (rd l1 x8_2))))))) := ⟨bH⟩
                 (try clear HO_368002)
                 (try clear HO371)
                 (try clear HO376)
                 (try clear BK367)
                 (try clear BK373)
                 (try clear BK379)
                 (try clear HB)
                 generalize ((w39.setCell ⟨gb379, 0, none⟩ (.slice Ao40 y374.length co40)).setCell ⟨gb379, 1, none⟩ (.int .i64 (wrap64 ((wrap64 (rd l0 x8_2)) + (wrap64 (rd l1 x8_2)))))) = w43 at n0_ n1_ n2_ n3_ n4_ n5_ n6_ ⊢
                 have HO_368002 := n0_
                 have HO371 := n1_
                 have HO376 := n2_
                 have BK367 := n3_
                 have BK373 := n4_
                 have BK379 := n5_
                 have HB := n6_
                 clear n0_ n1_ n2_ n3_ n4_ n5_ n6_
                 replace HO_368002 := mk0 (Kd.N_drew HO_368002.out)
                 replace HO371 := mk0 (Kd.R_drew HO371.out)
                 replace HO376 := mk0 (Kd.R_drew HO376.out)
                 replace BK367 := mk0 (blk_drew BK367.out)
                 replace BK373 := mk0 (blk_drew BK373.out)
                 replace BK379 := mk0 (blk_drew BK379.out)
                 replace HB := mk0 (below_drew1 HB.out)
                 have p20 : 0 ≤ (x8_2 : Int) := of_decide_eq_true (by first | (with_reducible assumption) | assumption)
                 have q20 : (x8_2 : Int) < ((y369.length : Int) : Int) := of_decide_eq_true (by first | (with_reducible assumption) | assumption)
                 obtain ⟨go20, co20, eo20, gb20, gl20, cl20, HG20⟩ := Kd.R_form HO371.out (by omega)
                 (first | cases eo20 | (injection eo20 with ea_ en_ ec_; (first | subst ea_ | (injection ea_ with ea_; subst ea_)); subst ec_; clear en_))
                 have GB20 := mk0 gb20
                 have GG20 := mk0 HG20
                 clear gb20 gl20 HG20
                 obtain ⟨hx20_0, hf20_0⟩ := Kd.R_celln 0 HO371.out (x8_2 : Int) p20 q20
                 replace p20 := eq_true p20
                 replace q20 := eq_true q20
                 have HP45 := Kd.R_putn HO371.out (x8_2 : Int) (wrap64 (1 + (wrap64 (rd l2 x8_2))))
                 rw [← Ny380.out] at HP45
                 have HQ45 := mk0 HP45
                 clear HP45
                 have p22 : 0 ≤ (x8_2 : Int) := of_decide_eq_true (by first | (with_reducible assumption) | assumption)
                 have q22 : (x8_2 : Int) < ((y374.length : Int) : Int) := of_decide_eq_true (by first | (with_reducible assumption) | assumption)
                 obtain ⟨go22, co22, eo22, gb22, gl22, cl22, HG22⟩ := Kd.R_form HO376.out (by omega)
                 (first | cases eo22 | (injection eo22 with ea_ en_ ec_; (first | subst ea_ | (injection ea_ with ea_; subst ea_)); subst ec_; clear en_))
                 have GB22 := mk0 gb22
                 have GG22 := mk0 HG22
                 clear gb22 gl22 HG22
                 obtain ⟨hx22_0, hf22_0⟩ := Kd.R_celln 0 (Kd.R_far (p := ⟨go20, (x8_2 : Int).toNat, none⟩) (Kd.R_mono HO376.out (fun k_ hk => (⟨hk, fun e_ => hk (by rw [e_]; rfl)⟩ : _ ∧ k_ ≠ go20))) (fun _ hk => hk.2) (.int .i64 (wrap64 (1 + (wrap64 (rd l2 x8_2)))))) (x8_2 : Int) p22 q22
                 replace p22 := eq_true p22
                 replace q22 := eq_true q22
                 have HP46 := Kd.R_putn (Kd.R_far (p := ⟨go20, (x8_2 : Int).toNat, none⟩) (Kd.R_mono HO376.out (fun k_ hk => (⟨hk, fun e_ => hk (by rw [e_]; rfl)⟩ : _ ∧ k_ ≠ go20))) (fun _ hk => hk.2) (.int .i64 (wrap64 (1 + (wrap64 (rd l2 x8_2)))))) (x8_2 : Int) (wrap64 (-(wrap64 (1 + (wrap64 (rd l2 x8_2))))))
                 rw [← Ny381.out] at HP46
                 have HQ46 := mk0 HP46
                 clear HP46
                 refine start_ (n := 13) (S := fun w' => w'.cell? ⟨gb373, 0, none⟩ = some (.slice (some ⟨go20, 0, none⟩) y369.length co30) ∧ w'.cell? ⟨gb373, 1, none⟩ = some (.int .i64 (wrap64 (-(wrap64 (rd l0 x8_2))))) ∧ w'.cell? ⟨gb379, 0, none⟩ = some (.slice (some ⟨go22, 0, none⟩) y374.length co40) ∧ w'.cell? ⟨gb379, 1, none⟩ = some (.int .i64 (wrap64 ((wrap64 (rd l0 x8_2)) + (wrap64 (rd l1 x8_2)))))) (ds := [12]) (bts 13 0) (by kernel_rfl) rfl rfl ⟨(blk_cell BK373.out 0).trans rfl, (blk_cell BK373.out 1).trans rfl, (blk_cell BK379.out 0).trans rfl, (blk_cell BK379.out 1).trans rfl⟩ (fun hHeld => ?_); refine with_tabW furrowlaw15_SysBox.tab12 furrowlaw15_SysBox.bits12 (fun HT_ HW_ => ?_)
                 generalize w43.drew = w44 at HO_368002 HO371 HO376 BK367 BK373 BK379 HB GG20 GG22 HO371 HO376 HQ45 HQ46 hf20_0 hf22_0 hx20_0 hx22_0 hHeld ⊢
                 refine pA 0 (some 76) 0 13 1 HT_ ?_
                 refine pA 2 (some 78) 1 13 5 HT_ ?_
                 refine pA 3 (some 79) 5 13 13 HT_ ?_
                 refine pA 5 (some 81) 13 13 45 HT_ ?_
                 refine pA 6 (some 82) 45 13 109 HT_ ?_
                 refine pA 7 (some 83) 109 13 237 HT_ ?_
                 refine pA 8 (some 84) 237 13 493 HT_ ?_
                 refine tA4 1 (some 77) 493 13 495 HT_ HW_ hHeld ?_
                 refine pA 9 (some 85) 495 13 1007 HT_ ?_
                 refine tA4 4 (some 80) 1007 13 1023 HT_ HW_ hHeld ?_
                 have hqa_ : gb373 ≠ go20 := by (have h_ := GG20.out; intro e_; rw [← e_, BK373.out] at h_; injection h_ with h_; injection h_ with _ h_; exact absurd h_ (by decide))
                 have hqb_ : gb379 ≠ go20 := by (have h_ := GG20.out; intro e_; rw [← e_, BK379.out] at h_; injection h_ with h_; injection h_ with _ h_; exact absurd h_ (by decide))
                 refine one_ (i := 10) (N := none) (bts 13 2047) rfl rfl (one_of HT_.out (by kernel_rfl)) (by decide) (fun K hK => ?_)
                 refine skip_ (w1 := ?_) (by rfl) rfl ?_ ?_
                 rotate_left
                 ·go_simp
                  rfl
                 refine hK.out _ _ ⟨(cell_far (p := ⟨go20, _, none⟩) hqa_ _).trans hHeld.1, (cell_far (p := ⟨go20, _, none⟩) hqa_ _).trans hHeld.2.1, (cell_far (p := ⟨go20, _, none⟩) hqb_ _).trans hHeld.2.2.1, (cell_far (p := ⟨go20, _, none⟩) hqb_ _).trans hHeld.2.2.2⟩ (fun hHeld => ?_)
                 clear hK K
                 refine pA 11 (some 86) 2047 13 4095 HT_ ?_
                 refine last_ (i := 12) (N := none) (bts 13 8191) rfl rfl (one_of HT_.out (by kernel_rfl)) (by decide) (fun K hK => ?_)
                 refine skip_ (w1 := ?_) (by rfl) rfl ?_ ?_
                 rotate_left
                 ·go_simp
                  rfl
                 refine hK.out _ _ ?_
                 clear hK K
                 refine done_ (done_of HT_.out (by kernel_rfl)) ?_
                 have n0_ : Aside0 (Kd.N k59 59 ((w44.setCell ⟨go20, (x8_2 : Int).toNat, none⟩ (.int .i64 (wrap64 (1 + (wrap64 (rd l2 x8_2)))))).setCell ⟨go22, (x8_2 : Int).toNat, none⟩ (.int .i64 (wrap64 (-(wrap64 (1 + (wrap64 (rd l2 x8_2)))))))) w.heap.size (fun k_ => some k_ ≠ (.slice (some ⟨go20, 0, none⟩) y369.length co30 : Value).ownBlock ∧ some k_ ≠ (.slice (some ⟨go22, 0, none⟩) y374.length co40 : Value).ownBlock ∧ k_ ≠ gb367 ∧ k_ ≠ gb373 ∧ k_ ≠ gb379) u368002 x368002_2) := ⟨uN (Kd.N_mono (Kd.N_far (p := ⟨go22, (x8_2 : Int).toNat, none⟩) (Kd.N_far (p := ⟨go20, (x8_2 : Int).toNat, none⟩) (Kd.N_mono (Kd.N_mono HO_368002.out (fun k_ hk => (⟨hk, fun e_ => hk.1 (by rw [e_]; rfl)⟩ : _ ∧ k_ ≠ go20))) (fun k_ hk => (⟨hk, fun e_ => hk.1.2.1 (by rw [e_]; rfl)⟩ : _ ∧ k_ ≠ go22))) (fun _ hk => hk.1.2) (.int .i64 (wrap64 (1 + (wrap64 (rd l2 x8_2)))))) (fun _ hk => hk.2) (.int .i64 (wrap64 (-(wrap64 (1 + (wrap64 (rd l2 x8_2)))))))) (fun _ hk => ⟨hk.1.1.1, ⟨hk.1.1.2.1, ⟨hk.1.1.2.2.1, ⟨hk.1.1.2.2.2.1, hk.1.1.2.2.2.2⟩⟩⟩⟩))⟩
                 have n1_ : Aside0 (Kd.R (Kd.int .i64) 2 ((w44.setCell ⟨go20, (x8_2 : Int).toNat, none⟩ (.int .i64 (wrap64 (1 + (wrap64 (rd l2 x8_2)))))).setCell ⟨go22, (x8_2 : Int).toNat, none⟩ (.int .i64 (wrap64 (-(wrap64 (1 + (wrap64 (rd l2 x8_2)))))))) w.heap.size (fun k_ => some k_ ≠ (.slice (some ⟨go22, 0, none⟩) y374.length co40 : Value).ownBlock) (.slice (some ⟨go20, 0, none⟩) y369.length co30) y380) := ⟨uR (Kd.R_mono (Kd.R_far (p := ⟨go22, (x8_2 : Int).toNat, none⟩) (Kd.R_mono HQ45.out (fun k_ hk => (⟨hk, fun e_ => hk (by rw [e_]; rfl)⟩ : _ ∧ k_ ≠ go22))) (fun _ hk => hk.2) (.int .i64 (wrap64 (-(wrap64 (1 + (wrap64 (rd l2 x8_2)))))))) (fun _ hk => hk.1))⟩
                 have n2_ : Aside0 (Kd.R (Kd.int .i64) 2 ((w44.setCell ⟨go20, (x8_2 : Int).toNat, none⟩ (.int .i64 (wrap64 (1 + (wrap64 (rd l2 x8_2)))))).setCell ⟨go22, (x8_2 : Int).toNat, none⟩ (.int .i64 (wrap64 (-(wrap64 (1 + (wrap64 (rd l2 x8_2)))))))) w.heap.size (fun k_ => some k_ ≠ (.slice (some ⟨go20, 0, none⟩) y369.length co30 : Value).ownBlock) (.slice (some ⟨go22, 0, none⟩) y374.length co40) y381) := ⟨uR (Kd.R_mono HQ46.out (fun _ hk => hk.1))⟩
                 have n3_ : Aside0 (((w44.setCell ⟨go20, (x8_2 : Int).toNat, none⟩ (.int .i64 (wrap64 (1 + (wrap64 (rd l2 x8_2)))))).setCell ⟨go22, (x8_2 : Int).toNat, none⟩ (.int .i64 (wrap64 (-(wrap64 (1 + (wrap64 (rd l2 x8_2)))))))).heap[gb367]? = some (.cells #[.int .i64 (l0.length : Int), .slice none 0 0, u368002] 24 (0, 0))) := ⟨by (with_reducible repeat (first | refine blk_drewN ?_ _ | refine blk_drew ?_ | refine blk_alloc ?_ _)); refine blk_far ?_ (by have h_ := Kd.R_ne HO376.out BK367.out (by decide); intro e_; exact h_ (by rw [e_]; rfl)) _; (with_reducible repeat (first | refine blk_drewN ?_ _ | refine blk_drew ?_ | refine blk_alloc ?_ _)); refine blk_far ?_ (by have h_ := Kd.R_ne HO371.out BK367.out (by decide); intro e_; exact h_ (by rw [e_]; rfl)) _; (with_reducible repeat (first | refine blk_drewN ?_ _ | refine blk_drew ?_ | refine blk_alloc ?_ _)); exact BK367.out⟩
                 have n4_ : Aside0 (((w44.setCell ⟨go20, (x8_2 : Int).toNat, none⟩ (.int .i64 (wrap64 (1 + (wrap64 (rd l2 x8_2)))))).setCell ⟨go22, (x8_2 : Int).toNat, none⟩ (.int .i64 (wrap64 (-(wrap64 (1 + (wrap64 (rd l2 x8_2)))))))).heap[gb373]? = some (.cells #[.slice (some ⟨go20, 0, none⟩) y369.length co30, .int .i64 (wrap64 (-(wrap64 (rd l0 x8_2))))] 59 (0, 0))) := ⟨by (with_reducible repeat (first | refine blk_drewN ?_ _ | refine blk_drew ?_ | refine blk_alloc ?_ _)); refine blk_far ?_ (by have h_ := Kd.R_ne HO376.out BK373.out (by decide); intro e_; exact h_ (by rw [e_]; rfl)) _; (with_reducible repeat (first | refine blk_drewN ?_ _ | refine blk_drew ?_ | refine blk_alloc ?_ _)); refine blk_far ?_ (by have h_ := Kd.R_ne HO371.out BK373.out (by decide); intro e_; exact h_ (by rw [e_]; rfl)) _; (with_reducible repeat (first | refine blk_drewN ?_ _ | refine blk_drew ?_ | refine blk_alloc ?_ _)); exact BK373.out⟩
                 have n5_ : Aside0 (((w44.setCell ⟨go20, (x8_2 : Int).toNat, none⟩ (.int .i64 (wrap64 (1 + (wrap64 (rd l2 x8_2)))))).setCell ⟨go22, (x8_2 : Int).toNat, none⟩ (.int .i64 (wrap64 (-(wrap64 (1 + (wrap64 (rd l2 x8_2)))))))).heap[gb379]? = some (.cells #[.slice (some ⟨go22, 0, none⟩) y374.length co40, .int .i64 (wrap64 ((wrap64 (rd l0 x8_2)) + (wrap64 (rd l1 x8_2))))] 59 (0, 0))) := ⟨by (with_reducible repeat (first | refine blk_drewN ?_ _ | refine blk_drew ?_ | refine blk_alloc ?_ _)); refine blk_far ?_ (by have h_ := Kd.R_ne HO376.out BK379.out (by decide); intro e_; exact h_ (by rw [e_]; rfl)) _; (with_reducible repeat (first | refine blk_drewN ?_ _ | refine blk_drew ?_ | refine blk_alloc ?_ _)); refine blk_far ?_ (by have h_ := Kd.R_ne HO371.out BK379.out (by decide); intro e_; exact h_ (by rw [e_]; rfl)) _; (with_reducible repeat (first | refine blk_drewN ?_ _ | refine blk_drew ?_ | refine blk_alloc ?_ _)); exact BK379.out⟩
                 have n6_ : Aside0 (Below w.heap.size w ((w44.setCell ⟨go20, (x8_2 : Int).toNat, none⟩ (.int .i64 (wrap64 (1 + (wrap64 (rd l2 x8_2)))))).setCell ⟨go22, (x8_2 : Int).toNat, none⟩ (.int .i64 (wrap64 (-(wrap64 (1 + (wrap64 (rd l2 x8_2))))))))) := ⟨by repeat (first | (with_reducible first | exact HB.out | apply below_alloc | apply pw_below_drewN | apply below_drew1 | refine below_set ?_ GB20.out | refine below_set ?_ GB22.out | refine below_set ?_ GE367.out | refine below_set ?_ GE373.out | refine below_set ?_ GE379.out) | exact HB.out)⟩
                 (try clear HO_368002)
                 (try clear HO371)
                 (try clear HO376)
                 (try clear BK367)
                 (try clear BK373)
                 (try clear BK379)
                 (try clear HB)
                 generalize ((w44.setCell ⟨go20, (x8_2 : Int).toNat, none⟩ (.int .i64 (wrap64 (1 + (wrap64 (rd l2 x8_2)))))).setCell ⟨go22, (x8_2 : Int).toNat, none⟩ (.int .i64 (wrap64 (-(wrap64 (1 + (wrap64 (rd l2 x8_2)))))))) = w47 at n0_ n1_ n2_ n3_ n4_ n5_ n6_ ⊢
                 have HO_368002 := n0_
                 have HO371 := n1_
                 have HO376 := n2_
                 have BK367 := n3_
                 have BK373 := n4_
                 have BK379 := n5_
                 have HB := n6_
                 clear n0_ n1_ n2_ n3_ n4_ n5_ n6_
                 have hnb48 := NB367_373.out
                 have hnc48 := NB373_367.out
                 have hnb49 := NB367_379.out
                 have hnc49 := NB379_367.out
                 obtain ⟨hcz50_0, hcz50_1, hcz50_2, hfz50_0, hfz50_1, hfz50_2⟩ := cL3 BK367
                 have hnb51 := NB373_379.out
                 have hnc51 := NB379_373.out
                 obtain ⟨hcz52_0, hcz52_1, hfz52_0, hfz52_1⟩ := cL2 BK373
                 obtain ⟨hcz53_0, hcz53_1, hfz53_0, hfz53_1⟩ := cL2 BK379
                 try go_wp2_with (first | ((with_reducible refine gate_dst (N := 91) rfl ?_); (try (refine gate_guard (by rfl) ?_; dsimp only)); refine Kd.N_lit k59 _ 59 ?hg (N' := 91) ?hd (xs := ([(⟨y380, wrap64 (-(wrap64 (rd l0 x8_2)))⟩ : S59), (⟨y381, wrap64 ((wrap64 (rd l0 x8_2)) + (wrap64 (rd l1 x8_2)))⟩ : S59)] : List (S59))) (inner := [.slice (some ⟨go20, 0, none⟩) y369.length co30, .int .i64 (wrap64 (-(wrap64 (rd l0 x8_2)))), .slice (some ⟨go22, 0, none⟩) y374.length co40, .int .i64 (wrap64 ((wrap64 (rd l0 x8_2)) + (wrap64 (rd l1 x8_2))))]) (ok := (fun k_ => some k_ ≠ (u368002 : Value).ownBlock ∧ k_ ≠ gb367 ∧ k_ ≠ gb373 ∧ k_ ≠ gb379)) (okp := (fun k_ => some k_ ≠ (u368002 : Value).ownBlock ∧ k_ ≠ gb367 ∧ k_ ≠ gb373 ∧ k_ ≠ gb379)) ?hr ?hp (fun _ hk => hk) ((show ∀ k_, w47.heap.size ≤ k_ → (fun k_ => some k_ ≠ (u368002 : Value).ownBlock ∧ k_ ≠ gb367 ∧ k_ ≠ gb373 ∧ k_ ≠ gb379) k_ from fun k_ hk => ⟨Kd.fresh' (Kd.N_lt (uN HO_368002.out)) k_ hk, Kd.freshB (g := gb367) (o := .cells #[.int .i64 (l0.length : Int), .slice none 0 0, u368002] 24 (0, 0)) (uB BK367.out) k_ hk, Kd.freshB (g := gb373) (o := .cells #[.slice (some ⟨go20, 0, none⟩) y369.length co30, .int .i64 (wrap64 (-(wrap64 (rd l0 x8_2))))] 59 (0, 0)) (uB BK373.out) k_ hk, Kd.freshB (g := gb379) (o := .cells #[.slice (some ⟨go22, 0, none⟩) y374.length co40, .int .i64 (wrap64 ((wrap64 (rd l0 x8_2)) + (wrap64 (rd l1 x8_2))))] 59 (0, 0)) (uB BK379.out) k_ hk⟩) _ (Nat.le_refl _)) (Below.refl _ _) (Nat.le_refl _) (by simp) ?_; (case hd => rfl); (case hg => rfl); (case hr => first | (go_simp; done) | (go_simp; rfl)); (case hp => exact (Reps.c2 (show Kd.FK k59 _ _ (⟨y380, wrap64 (-(wrap64 (rd l0 x8_2)))⟩ : S59) [.slice (some ⟨go20, 0, none⟩) y369.length co30, .int .i64 (wrap64 (-(wrap64 (rd l0 x8_2))))] from (k59_mkFn _ _ (⟨y380, wrap64 (-(wrap64 (rd l0 x8_2)))⟩ : S59) (Kd.R_reads' HO371.out).1 (Kd.R_reads' (Kd.R_mono (ok' := (fun k_ => some k_ ≠ (u368002 : Value).ownBlock ∧ k_ ≠ gb367 ∧ k_ ≠ gb373 ∧ k_ ≠ gb379)) (Kd.R_types (Kd.R_types (Kd.R_types (Kd.R_apart' (HO371.out) (Kd.N_typed HO_368002.out) (by decide)) BK367.out (by decide)) BK373.out (by decide)) BK379.out (by decide)) (fun k_ hk => ⟨hk.1.1.1.2, ⟨hk.1.1.2, ⟨hk.1.2, hk.2⟩⟩⟩))).2.1 (Kd.R_F (Kd.R_mono (ok' := (fun k_ => some k_ ≠ (u368002 : Value).ownBlock ∧ k_ ≠ gb367 ∧ k_ ≠ gb373 ∧ k_ ≠ gb379)) (Kd.R_types (Kd.R_types (Kd.R_types (Kd.R_apart' (HO371.out) (Kd.N_typed HO_368002.out) (by decide)) BK367.out (by decide)) BK373.out (by decide)) BK379.out (by decide)) (fun k_ hk => ⟨hk.1.1.1.2, ⟨hk.1.1.2, ⟨hk.1.2, hk.2⟩⟩⟩))))) (Reps.c2 (show Kd.FK k59 _ _ (⟨y381, wrap64 ((wrap64 (rd l0 x8_2)) + (wrap64 (rd l1 x8_2)))⟩ : S59) [.slice (some ⟨go22, 0, none⟩) y374.length co40, .int .i64 (wrap64 ((wrap64 (rd l0 x8_2)) + (wrap64 (rd l1 x8_2))))] from (k59_mkFn _ _ (⟨y381, wrap64 ((wrap64 (rd l0 x8_2)) + (wrap64 (rd l1 x8_2)))⟩ : S59) (Kd.R_reads' HO376.out).1 (Kd.R_reads' (Kd.R_mono (ok' := (fun k_ => some k_ ≠ (u368002 : Value).ownBlock ∧ k_ ≠ gb367 ∧ k_ ≠ gb373 ∧ k_ ≠ gb379)) (Kd.R_types (Kd.R_types (Kd.R_types (Kd.R_apart' (HO376.out) (Kd.N_typed HO_368002.out) (by decide)) BK367.out (by decide)) BK373.out (by decide)) BK379.out (by decide)) (fun k_ hk => ⟨hk.1.1.1.2, ⟨hk.1.1.2, ⟨hk.1.2, hk.2⟩⟩⟩))).2.1 (Kd.R_F (Kd.R_mono (ok' := (fun k_ => some k_ ≠ (u368002 : Value).ownBlock ∧ k_ ≠ gb367 ∧ k_ ≠ gb373 ∧ k_ ≠ gb379)) (Kd.R_types (Kd.R_types (Kd.R_types (Kd.R_apart' (HO376.out) (Kd.N_typed HO_368002.out) (by decide)) BK367.out (by decide)) BK373.out (by decide)) BK379.out (by decide)) (fun k_ hk => ⟨hk.1.1.1.2, ⟨hk.1.1.2, ⟨hk.1.2, hk.2⟩⟩⟩))))) (Reps.none _ _)))); intro v383 w54 ho55 hb hg_ hnew_; clear hg_ hnew_; (first | rw [← Ny382.out] at ho55 | (simp only [Int.reduceToNat] at ho55; rw [← Ny382.out] at ho55)); have n0_ := mk0 (Kd.N_elder' (uN HO_368002.out) (Kd.N_base ho55) hb); have n1_ := mk0 (Kd.N_lower ho55 (below_size bH)); have n2_ := bB BK367 hb; have n3_ := bB BK373 hb; have n4_ := bB BK379 hb; have n5_ := hbB bH hb; clear HO_368002; clear BK367; clear BK373; clear BK379; clear HB; clear HO371; clear HO376; have HO_368002 := n0_; have HO384 := n1_; have BK367 := n2_; have BK373 := n3_; have BK379 := n4_; have HB := n5_; clear n0_ n1_ n2_ n3_ n4_ n5_; clear hb ho55; obtain ⟨Ao57, co57, eo57⟩ := Kd.N_slice HO384.out; subst eo57) | ((with_reducible refine gate_builtin (b := .append) (xs := #[.tmp 88, .tmp 91]) rfl ?_); (try (refine gate_guard (by rfl) ?_; dsimp only)); at_builtin; refine Kd.N_append_rows k59 (w0 := w) w.heap.size rfl (.tmp 88) (.tmp 91) 22 59 (.agg #[(.slice none 0 0), (.int .i64 0)]) 32 rfl Tryd.underlying22 info59 rfl (by decide) (by omega) u368002 x368002_2 y382 _ _ _ (fun k_ => k_ ≠ gb367 ∧ k_ ≠ gb373 ∧ k_ ≠ gb379) (fun k_ => ((fun k_ => k_ ≠ gb367 ∧ k_ ≠ gb373 ∧ k_ ≠ gb379)) k_ ∧ some k_ ≠ (u368002 : Value).ownBlock) rfl rfl ?aO ?aR (fun _ hk => hk) ?aF ?aB ?aS ?aL ?_; (case aR => exact (by skip; exact Kd.N_F (Kd.N_mono (ok' := (fun k_ => ((fun k_ => k_ ≠ gb367 ∧ k_ ≠ gb373 ∧ k_ ≠ gb379)) k_ ∧ some k_ ≠ (u368002 : Value).ownBlock)) (HO384.out) (fun k_ hk => ⟨⟨hk.2.1, ⟨hk.2.2.1, hk.2.2.2⟩⟩, hk.1⟩)))); (case aB => exact bH); (case aF => exact (fun k_ hk => ⟨Kd.freshB (g := gb367) (o := .cells #[.int .i64 (l0.length : Int), .slice none 0 0, u368002] 24 (0, 0)) (uB BK367.out) k_ hk, Kd.freshB (g := gb373) (o := .cells #[.slice (some ⟨go20, 0, none⟩) y369.length co30, .int .i64 (wrap64 (-(wrap64 (rd l0 x8_2))))] 59 (0, 0)) (uB BK373.out) k_ hk, Kd.freshB (g := gb379) (o := .cells #[.slice (some ⟨go22, 0, none⟩) y374.length co40, .int .i64 (wrap64 ((wrap64 (rd l0 x8_2)) + (wrap64 (rd l1 x8_2))))] 59 (0, 0)) (uB BK379.out) k_ hk⟩)); (case aO => exact (uN (Kd.N_mono HO_368002.out (fun _ hk => ⟨hk.1.2.2.1, ⟨hk.1.2.2.2.1, hk.1.2.2.2.2⟩⟩)))); (case aS => exact (below_size bH)); (case aL => have := LMc23.out; omega); intro v386 w56 ho hb hg hat; rw [← Ny385.out] at ho; have n0_ := mk0 (blk_grown (g := gb367) (o := .cells #[.int .i64 (l0.length : Int), .slice none 0 0, u368002] 24 (0, 0)) (uB BK367.out) hg (Kd.N_ne HO_368002.out BK367.out (by decide))); have n1_ := mk0 (blk_grown (g := gb373) (o := .cells #[.slice (some ⟨go20, 0, none⟩) y369.length co30, .int .i64 (wrap64 (-(wrap64 (rd l0 x8_2))))] 59 (0, 0)) (uB BK373.out) hg (Kd.N_away HO_368002.out (fun _ hk => hk.1.2.2.2.1))); have n2_ := mk0 (blk_grown (g := gb379) (o := .cells #[.slice (some ⟨go22, 0, none⟩) y374.length co40, .int .i64 (wrap64 ((wrap64 (rd l0 x8_2)) + (wrap64 (rd l1 x8_2))))] 59 (0, 0)) (uB BK379.out) hg (Kd.N_away HO_368002.out (fun _ hk => hk.1.2.2.2.2))); have n3_ := mk0 (Kd.N_afterv (ok := (fun k_ => k_ ≠ gb367 ∧ k_ ≠ gb373 ∧ k_ ≠ gb379)) (uN (Kd.N_mono HO384.out (fun _ hk => ⟨⟨hk.2.1, ⟨hk.2.2.1, hk.2.2.2⟩⟩, hk.1⟩))) hg hat); have n4_ := mk0 (hb); have n5_ := mk0 (ho); clear BK367; clear BK373; clear BK379; clear HO384; clear HB; clear HO_368002; have BK367 := n0_; have BK373 := n1_; have BK379 := n2_; have HO384 := n3_; have HB := n4_; have HO387 := n5_; clear n0_ n1_ n2_ n3_ n4_ n5_; clear ho hb hg hat; obtain ⟨Ao58, co58, eo58⟩ := Kd.N_slice HO387.out; subst eo58; obtain ⟨hcz59_0, hcz59_1, hcz59_2, hfz59_0, hfz59_1, hfz59_2⟩ := cL3 BK367))
                 go_roundg k2
                 case measure => have := HJ5.out; have := HK2.out; omega
                 case rel => exact ⟨(wrap64 (x8_2 + 1)), (y385), (.slice Ao58 y385.length co58), (by first | rfl | (simp; done) | (simp [*]; done) | (simp [bne_nil_, beq_nil_]; done)), H', ⟨by have := HJ5.out; have := HK2.out; omega⟩, ⟨uN (Kd.N_mono (Kd.N_far (p := ⟨gb367, 2, none⟩) (Kd.N_mono HO387.out (fun k_ hk => (⟨hk, hk.1⟩ : _ ∧ k_ ≠ gb367))) (fun _ hk => hk.2) (.slice Ao58 y385.length co58)) (fun _ hk => hk.1.1))⟩, ⟨by (with_reducible repeat (first | refine blk_drewN ?_ _ | refine blk_drew ?_ | refine blk_alloc ?_ _)); refine blk_put (cs := #[.int .i64 (l0.length : Int), .slice none 0 0, u368002]) ?_ 2 _ rfl; (with_reducible repeat (first | refine blk_drewN ?_ _ | refine blk_drew ?_ | refine blk_alloc ?_ _)); exact BK367.out⟩, ⟨bH⟩⟩
               ·rw [if_neg c23] at H
                exact absurd H (by simp)
              ·rw [if_neg c21] at H
               exact absurd H (by simp)
             ·rw [if_neg c19] at H
              exact absurd H (by simp)
            ·rw [if_neg c18] at H
             exact absurd H (by simp)
           ·rw [if_neg c17] at H
            exact absurd H (by simp)
          ·rw [if_neg c16] at H
           exact absurd H (by simp)
         ·rw [if_neg c15] at H
          exact absurd H (by simp)
        ·rw [if_neg c14] at H
         exact absurd H (by simp)
       ·rw [if_neg c13] at H
        have c13b0 : decide (x8_2 < (l0.length : Int)) = false := decide_eq_false c13
        clear c13
        replace H := Option.bind_eq_some_iff.mp H
        obtain ⟨⟨t388, t391, t394⟩, A600, H⟩ := H
        dsimp only at H
        have A60 := mk0 A600
        clear A600
        have HC61 := mk0 H
        clear H
        obtain ⟨hcz62_0, hcz62_1, hcz62_2, hfz62_0, hfz62_1, hfz62_2⟩ := cL3 BK367
        obtain ⟨Ao63, co63, eo63⟩ := Kd.N_slice HO_368002.out
        subst eo63
        go_upto_region 15 with (first | ((with_reducible refine gate_dst (N := 96) rfl ?_); refine gsM (some 96) Tryd.func14 #[.agg #[.int .i64 (l0.length : Int), .slice none 0 0, .slice Ao63 x368002_2.length co63]] ?_; (refine (sys_Bounds.calls k2 (l0.length : Int) _ _ ([] : List (S59)) _ _ x368002_2 t388 t391 t394 _ ?side1 ?side2 ?side3 ?side4 A60.out).mono ?_); (case side1 => exact Kd.C_nil _ _); (case side2 => exact Nat.le_refl _); (case side3 => exact uC ((Kd.N_reads' HO_368002.out).2.2)); (case side4 => exact (Kd.N_reads' HO_368002.out).2.1); rintro e w64 ⟨v389, v392, rfl, ho0, ho1, hb⟩; refine ⟨_, rfl, ?_⟩; replace HO_368002 := mk0 (Kd.N_mono (Kd.N_told (Kd.N_told (Kd.N_old (uN HO_368002.out) hb) (Kd.R_base ho0)) (Kd.R_base ho1)) (fun _ h_ => h_.1)); have HO390 := mk0 (Kd.R_lower ho0 (below_size bH)); have HO393 := mk0 (Kd.R_lower ho1 (below_size bH)); replace BK367 := bB BK367 hb; replace HB := hbB bH hb; (try clear hb); (try clear hb2); (try clear hk); (try clear hi); (try clear ho0); (try clear ho1)))
        (try simp only [Act.put, List.setIfInBounds_toArray, List.set_cons_zero, List.set_cons_succ])
        go_cut [115] (fun v115 wc => ∃ (kq : Nat) (x115_60 : Bool), v115 = .bool x115_60 ∧ Aside0 (furrowlaw15_SysBox.j2 kq l0 l1 l2 t388 t391 x115_60 (l0.length : Int) x368002_2 = some true) ∧ Aside0 (kq ≤ k2) ∧ Aside0 (Kd.R (Kd.int .i64) 2 wc w.heap.size (fun k_ => some k_ ≠ (v392 : Value).ownBlock) v389 t388) ∧ Aside0 (Kd.R (Kd.int .i64) 2 wc w.heap.size (fun k_ => some k_ ≠ (v389 : Value).ownBlock) v392 t391) ∧ Aside0 (Kd.N k59 59 wc w.heap.size (fun k_ => some k_ ≠ (v389 : Value).ownBlock ∧ some k_ ≠ (v392 : Value).ownBlock ∧ k_ ≠ gb367) (.slice Ao63 x368002_2.length co63) x368002_2) ∧ Aside0 (wc.heap[gb367]? = some (.cells #[.int .i64 (l0.length : Int), (.slice none 0 0), (.slice Ao63 x368002_2.length co63)] 24 (0, 0))) ∧ Aside0 (Below w.heap.size w wc))
        case first =>
         have H := HC61.out
         clear HC61
         by_cases c65 : t394 = true
         ·subst c65
          have H1 : (if (t388.length : Int) = (l0.length : Int) then (furrowlaw15_SysBox.j2 k2 l0 l1 l2 t388 t391 ((t391.length : Int) != (l0.length : Int)) (l0.length : Int) x368002_2) else (furrowlaw15_SysBox.j2 k2 l0 l1 l2 t388 t391 true (l0.length : Int) x368002_2)) = some true := by rw [if_pos rfl] at H; first | done | exact H
          clear H
          have H := H1
          clear H1
          by_cases c66 : (t388.length : Int) = (l0.length : Int)
          ·rw [if_pos c66] at H
           have c66b0 : ((t388.length : Int) == (l0.length : Int)) = true := beq_iff_eq.mpr c66
           have c66b1 : ((t388.length : Int) != (l0.length : Int)) = false := bne_eq_false_iff_eq.mpr c66
           have c66b2 : (t388.length == l0.length) = true := by first | simpa using c66 | (simp at c66 ⊢; omega)
           clear c66
           (first | rw [c66b0] | (simp only [i64_w, i32_w]; rw [c66b0]) | skip)
           as_aux_lemma =>
            have H' := mk0 H
            clear H
            obtain ⟨Ao67, co67, eo67⟩ := Kd.R_slice HO390.out
            subst eo67
            obtain ⟨Ao68, co68, eo68⟩ := Kd.R_slice HO393.out
            subst eo68
            go_wp2
            go_meet
            case rel => exact ⟨_, (((t391.length : Int) != (l0.length : Int))), (by first | rfl | (simp; done) | (simp [*]; done) | (simp [bne_nil_, beq_nil_]; done)), H', ⟨by have := HJ5.out; have := HK2.out; first | omega | exact Nat.le_refl _⟩, ⟨uR HO390.out⟩, ⟨uR HO393.out⟩, ⟨uN (Kd.N_mono HO_368002.out (fun _ hk => ⟨hk.1.2, ⟨hk.2, hk.1.1⟩⟩))⟩, ⟨uB BK367.out⟩, ⟨bH⟩⟩
          ·rw [if_neg c66] at H
           have c66b0 : ((t388.length : Int) == (l0.length : Int)) = false := beq_eq_false_iff_ne.mpr c66
           have c66b1 : ((t388.length : Int) != (l0.length : Int)) = true := bne_iff_ne.mpr c66
           have c66b2 : (t388.length == l0.length) = false := by first | simpa using c66 | (simp at c66 ⊢; omega)
           (first | rw [c66b0] | (simp only [i64_w, i32_w]; rw [c66b0]) | skip)
           as_aux_lemma =>
            have H' := mk0 H
            clear H
            obtain ⟨Ao69, co69, eo69⟩ := Kd.R_slice HO390.out
            subst eo69
            go_wp2
            go_meet
            case rel => exact ⟨_, (true), (by first | rfl | (simp; done) | (simp [*]; done) | (simp [bne_nil_, beq_nil_]; done)), H', ⟨by have := HJ5.out; have := HK2.out; first | omega | exact Nat.le_refl _⟩, ⟨uR HO390.out⟩, ⟨uR HO393.out⟩, ⟨uN (Kd.N_mono HO_368002.out (fun _ hk => ⟨hk.1.2, ⟨hk.2, hk.1.1⟩⟩))⟩, ⟨uB BK367.out⟩, ⟨bH⟩⟩
         ·replace c65 := Bool.eq_false_iff.mpr c65
          subst c65
          have H1 : (furrowlaw15_SysBox.j2 k2 l0 l1 l2 t388 t391 true (l0.length : Int) x368002_2) = some true := by rw [if_neg (show ¬ (false = true) by decide)] at H; first | done | exact H
          clear H
          have H := H1
          clear H1
          as_aux_lemma =>
           have H' := mk0 H
           clear H
           go_wp2
           go_meet
           case rel => exact ⟨_, (true), (by first | rfl | (simp; done) | (simp [*]; done) | (simp [bne_nil_, beq_nil_]; done)), H', ⟨by have := HJ5.out; have := HK2.out; first | omega | exact Nat.le_refl _⟩, ⟨uR HO390.out⟩, ⟨uR HO393.out⟩, ⟨uN (Kd.N_mono HO_368002.out (fun _ hk => ⟨hk.1.2, ⟨hk.2, hk.1.1⟩⟩))⟩, ⟨uB BK367.out⟩, ⟨bH⟩⟩
        case rest =>
         clear HC61
         try clear c1
         try clear c2
         try clear p2
         try clear q2
         try clear hx2
         try clear p3
         try clear q3
         try clear hx3
         try clear c4
         try clear c5
         try clear c6
         try clear p6
         try clear c13
         try clear c13b0
         try clear c14
         try clear c15
         try clear c16
         try clear c17
         try clear c18
         try clear c19
         try clear p20
         try clear q20
         try clear hx20
         try clear hf20
         try clear c21
         try clear p22
         try clear q22
         try clear hx22
         try clear hf22
         try clear c23
         try clear p37
         try clear q37
         try clear hx37
         try clear c48
         try clear c49
         try clear c51
         try clear p64
         try clear c65
         try clear c66
         try clear c66b0
         try clear c66b1
         try clear c66b2
         try clear hcz50_0
         try clear hcz50_1
         try clear hcz50_2
         try clear hcz52_0
         try clear hcz52_1
         try clear hcz53_0
         try clear hcz53_1
         try clear hcz59_0
         try clear hcz59_1
         try clear hcz59_2
         try clear hcz62_0
         try clear hcz62_1
         try clear hcz62_2
         try clear hfz50_0
         try clear hfz50_1
         try clear hfz50_2
         try clear hfz52_0
         try clear hfz52_1
         try clear hfz53_0
         try clear hfz53_1
         try clear hfz59_0
         try clear hfz59_1
         try clear hfz59_2
         try clear hfz62_0
         try clear hfz62_1
         try clear hfz62_2
         try clear hx20_0
         try clear hx22_0
         try clear hx377_0
         try clear hx378_0
         try clear p20
         try clear p22
         try clear p377
         try clear p378
         try clear q20
         try clear q22
         try clear q377
         try clear q378
         obtain ⟨kq, x115_60, rfl, HA, HJ60, HO_12, HO_13, HO_368002, BK367, HB⟩ := hcut
         cases kq with
         | zero => exact absurd HA.out (by simp [furrowlaw15_SysBox.j2])
         | succ kj60 =>
          have H := HA.out
          clear HA
          simp only [furrowlaw15_SysBox.j2] at H
          by_cases c70 : x115_60 = true
          ·subst c70
           have H1 : (some false) = some true := by rw [if_pos rfl] at H; first | done | exact H
           clear H
           have H := H1
           clear H1
           as_aux_lemma =>
            exact absurd H (by simp)
          ·replace c70 := Bool.eq_false_iff.mpr c70
           subst c70
           have H1 : (furrowlaw15_SysBox.l1 kj60 l0 l1 l2 t388 t391 0 (l0.length : Int) x368002_2) = some true := by rw [if_neg (show ¬ (false = true) by decide)] at H; first | done | exact H
           clear H
           have H := H1
           clear H1
           have H' := mk0 H
           clear H
           go_wp2
           go_loopg [15] kj60 (fun kq v15 w' => ∃ (x15_4 : Int), v15 = .int .i64 x15_4 ∧ Aside0 (furrowlaw15_SysBox.l1 kq l0 l1 l2 t388 t391 x15_4 (l0.length : Int) x368002_2 = some true) ∧ Aside0 (kq ≤ kj60) ∧ Aside0 (Kd.R (Kd.int .i64) 2 w' w.heap.size (fun k_ => some k_ ≠ (v392 : Value).ownBlock) v389 t388) ∧ Aside0 (Kd.R (Kd.int .i64) 2 w' w.heap.size (fun k_ => some k_ ≠ (v389 : Value).ownBlock) v392 t391) ∧ Aside0 (Kd.N k59 59 w' w.heap.size (fun k_ => some k_ ≠ (v389 : Value).ownBlock ∧ some k_ ≠ (v392 : Value).ownBlock ∧ k_ ≠ gb367) (.slice Ao63 x368002_2.length co63) x368002_2) ∧ Aside0 (w'.heap[gb367]? = some (.cells #[.int .i64 (l0.length : Int), (.slice none 0 0), (.slice Ao63 x368002_2.length co63)] 24 (0, 0))) ∧ Aside0 (Below w.heap.size w w'))
           case atStart => exact ⟨(0), (by first | rfl | (simp; done) | (simp [*]; done) | (simp [bne_nil_, beq_nil_]; done)), H', ⟨Nat.le_refl _⟩, ⟨uR HO_12.out⟩, ⟨uR HO_13.out⟩, ⟨uN HO_368002.out⟩, ⟨uB BK367.out⟩, ⟨bH⟩⟩
           case round =>
            clear H'
            try clear c1
            try clear c2
            try clear p2
            try clear q2
            try clear hx2
            try clear p3
            try clear q3
            try clear hx3
            try clear c4
            try clear c5
            try clear c6
            try clear p6
            try clear c7
            try clear c13
            try clear c13b0
            try clear c14
            try clear c15
            try clear c16
            try clear c17
            try clear c18
            try clear c19
            try clear p20
            try clear q20
            try clear hx20
            try clear hf20
            try clear c21
            try clear p22
            try clear q22
            try clear hx22
            try clear hf22
            try clear c23
            try clear p37
            try clear q37
            try clear hx37
            try clear c48
            try clear c49
            try clear c51
            try clear p64
            try clear c65
            try clear c66
            try clear c66b0
            try clear c66b1
            try clear c66b2
            try clear c70
            try clear hcz50_0
            try clear hcz50_1
            try clear hcz50_2
            try clear hcz52_0
            try clear hcz52_1
            try clear hcz53_0
            try clear hcz53_1
            try clear hcz59_0
            try clear hcz59_1
            try clear hcz59_2
            try clear hcz62_0
            try clear hcz62_1
            try clear hcz62_2
            try clear hfz50_0
            try clear hfz50_1
            try clear hfz50_2
            try clear hfz52_0
            try clear hfz52_1
            try clear hfz53_0
            try clear hfz53_1
            try clear hfz59_0
            try clear hfz59_1
            try clear hfz59_2
            try clear hfz62_0
            try clear hfz62_1
            try clear hfz62_2
            try clear hx20_0
            try clear hx22_0
            try clear hx377_0
            try clear hx378_0
            try clear p2
            try clear p20
            try clear p22
            try clear p3
            try clear p37
            try clear p377
            try clear p378
            try clear p6
            try clear p64
            try clear q2
            try clear q20
            try clear q22
            try clear q3
            try clear q37
            try clear q377
            try clear q378
            obtain ⟨x15_4, rfl, HA, HK4, HO_12, HO_13, HO_368002, BK367, HB⟩ := hrel
            cases gk with
            | zero => exact absurd HA.out (by simp [furrowlaw15_SysBox.l1])
            | succ k4 =>
             have H := HA.out
             clear HA
             simp only [furrowlaw15_SysBox.l1] at H
             by_cases c71 : x15_4 < (l0.length : Int)
             ·rw [if_pos c71] at H
              have c71b0 : decide (x15_4 < (l0.length : Int)) = true := decide_eq_true c71
              clear c71
              by_cases c72 : 0 ≤ x15_4
              ·rw [if_pos c72] at H
               have c72b0 : decide (0 ≤ x15_4) = true := decide_eq_true c72
               clear c72
               by_cases c73 : x15_4 < (l2.length : Int)
               ·rw [if_pos c73] at H
                have c73b0 : decide (x15_4 < (l2.length : Int)) = true := decide_eq_true c73
                clear c73
                by_cases c74 : x15_4 < (t388.length : Int)
                ·rw [if_pos c74] at H
                 have c74b0 : decide (x15_4 < (t388.length : Int)) = true := decide_eq_true c74
                 clear c74
                 by_cases c75 : (wrap64 ((wrap64 (1 + (wrap64 (rd l2 x15_4)))) * (rd t388 x15_4))) < (wrap64 (rd l0 x15_4))
                 ·rw [if_pos c75] at H
                  have c75b0 : decide ((wrap64 ((wrap64 (1 + (wrap64 (rd l2 x15_4)))) * (rd t388 x15_4))) < (wrap64 (rd l0 x15_4))) = true := decide_eq_true c75
                  clear c75
                  as_aux_lemma =>
                   exact absurd H (by simp)
                 ·rw [if_neg c75] at H
                  have c75b0 : decide ((wrap64 ((wrap64 (1 + (wrap64 (rd l2 x15_4)))) * (rd t388 x15_4))) < (wrap64 (rd l0 x15_4))) = false := decide_eq_false c75
                  clear c75
                  by_cases c76 : (wrap64 ((wrap64 (1 + (wrap64 (rd l2 x15_4)))) * (wrap64 ((rd t388 x15_4) - 1)))) ≥ (wrap64 (rd l0 x15_4))
                  ·rw [if_pos c76] at H
                   have c76b0 : decide ((wrap64 (rd l0 x15_4)) ≤ (wrap64 ((wrap64 (1 + (wrap64 (rd l2 x15_4)))) * (wrap64 ((rd t388 x15_4) - 1))))) = true := decide_eq_true c76
                   clear c76
                   as_aux_lemma =>
                    exact absurd H (by simp)
                  ·rw [if_neg c76] at H
                   have c76b0 : decide ((wrap64 (rd l0 x15_4)) ≤ (wrap64 ((wrap64 (1 + (wrap64 (rd l2 x15_4)))) * (wrap64 ((rd t388 x15_4) - 1))))) = false := decide_eq_false c76
                   clear c76
                   by_cases c77 : x15_4 < (t391.length : Int)
                   ·rw [if_pos c77] at H
                    have c77b0 : decide (x15_4 < (t391.length : Int)) = true := decide_eq_true c77
                    clear c77
                    by_cases c78 : x15_4 < (l1.length : Int)
                    ·rw [if_pos c78] at H
                     have c78b0 : decide (x15_4 < (l1.length : Int)) = true := decide_eq_true c78
                     clear c78
                     by_cases c79 : (wrap64 ((wrap64 (1 + (wrap64 (rd l2 x15_4)))) * (rd t391 x15_4))) > (wrap64 ((wrap64 (rd l0 x15_4)) + (wrap64 (rd l1 x15_4))))
                     ·rw [if_pos c79] at H
                      have c79b0 : decide ((wrap64 ((wrap64 (rd l0 x15_4)) + (wrap64 (rd l1 x15_4)))) < (wrap64 ((wrap64 (1 + (wrap64 (rd l2 x15_4)))) * (rd t391 x15_4)))) = true := decide_eq_true c79
                      clear c79
                      as_aux_lemma =>
                       exact absurd H (by simp)
                     ·rw [if_neg c79] at H
                      have c79b0 : decide ((wrap64 ((wrap64 (rd l0 x15_4)) + (wrap64 (rd l1 x15_4)))) < (wrap64 ((wrap64 (1 + (wrap64 (rd l2 x15_4)))) * (rd t391 x15_4)))) = false := decide_eq_false c79
                      clear c79
                      by_cases c80 : (wrap64 ((wrap64 (1 + (wrap64 (rd l2 x15_4)))) * (wrap64 ((rd t391 x15_4) + 1)))) ≤ (wrap64 ((wrap64 (rd l0 x15_4)) + (wrap64 (rd l1 x15_4))))
                      ·rw [if_pos c80] at H
                       have c80b0 : decide ((wrap64 ((wrap64 (1 + (wrap64 (rd l2 x15_4)))) * (wrap64 ((rd t391 x15_4) + 1)))) ≤ (wrap64 ((wrap64 (rd l0 x15_4)) + (wrap64 (rd l1 x15_4))))) = true := decide_eq_true c80
                       clear c80
                       as_aux_lemma =>
                        exact absurd H (by simp)
                      ·rw [if_neg c80] at H
                       have c80b0 : decide ((wrap64 ((wrap64 (1 + (wrap64 (rd l2 x15_4)))) * (wrap64 ((rd t391 x15_4) + 1)))) ≤ (wrap64 ((wrap64 (rd l0 x15_4)) + (wrap64 (rd l1 x15_4))))) = false := decide_eq_false c80
                       clear c80
                       as_aux_lemma =>
                        have H' := mk0 H
                        clear H
                        have p395 : 0 ≤ (x15_4 : Int) := of_decide_eq_true (by first | (with_reducible assumption) | assumption)
                        have q395 : x15_4 < (l2.length : Int) := of_decide_eq_true (by first | (with_reducible assumption) | assumption)
                        obtain ⟨ad395, e395, hx395_0⟩ := Kd.at_int HR2.out x15_4 p395 q395
                        cases e395
                        replace hx395_0 := (HB.out.cell (World.block_lt_of_cell? w _ hx395_0)).trans hx395_0
                        replace p395 := eq_true p395
                        replace q395 := eq_true q395
                        try go_wp2
                        replace HO_12 := mk0 (Kd.R_drew HO_12.out)
                        replace HO_13 := mk0 (Kd.R_drew HO_13.out)
                        replace HO_368002 := mk0 (Kd.N_drew HO_368002.out)
                        replace BK367 := mk0 (blk_drew BK367.out)
                        replace HB := mk0 (below_drew1 HB.out)
                        obtain ⟨Ao82, co82, eo82⟩ := Kd.R_slice HO_12.out
                        (first | subst eo82 | (injection eo82 with f1_ f2_ f3_; have f4_ := f1_.symm; have f5_ := f3_.symm; clear f1_ f2_ f3_; subst f4_; subst f5_))
                        have p396 : 0 ≤ (x15_4 : Int) := of_decide_eq_true (by first | (with_reducible assumption) | assumption)
                        have q396 : x15_4 < (t388.length : Int) := of_decide_eq_true (by first | (with_reducible assumption) | assumption)
                        obtain ⟨ad396, e396, hx396_0⟩ := Kd.at_int (Kd.R_reads' HO_12.out).2.2 x15_4 p396 q396
                        cases e396
                        replace p396 := eq_true p396
                        replace q396 := eq_true q396
                        have p397 : 0 ≤ (x15_4 : Int) := of_decide_eq_true (by first | (with_reducible assumption) | assumption)
                        have q397 : x15_4 < (l0.length : Int) := of_decide_eq_true (by first | (with_reducible assumption) | assumption)
                        obtain ⟨ad397, e397, hx397_0⟩ := Kd.at_int HR0.out x15_4 p397 q397
                        have hw397_0 := hx397_0
                        cases e397
                        replace hx397_0 := (HB.out.cell (World.block_lt_of_cell? w _ hx397_0)).trans hx397_0
                        replace p397 := eq_true p397
                        replace q397 := eq_true q397
                        have p398 : 0 ≤ (x15_4 : Int) := of_decide_eq_true (by first | (with_reducible assumption) | assumption)
                        have q398 : x15_4 < (t388.length : Int) := of_decide_eq_true (by first | (with_reducible assumption) | assumption)
                        obtain ⟨ad398, e398, hx398_0⟩ := Kd.at_int (Kd.R_reads' HO_12.out).2.2 x15_4 p398 q398
                        obtain rfl : ad396 = ad398 := (by injection e398)
                        replace p398 := eq_true p398
                        replace q398 := eq_true q398
                        have p399 : 0 ≤ (x15_4 : Int) := of_decide_eq_true (by first | (with_reducible assumption) | assumption)
                        have q399 : x15_4 < (l0.length : Int) := of_decide_eq_true (by first | (with_reducible assumption) | assumption)
                        obtain ⟨ad399, e399, hx399_0⟩ := Kd.at_int HR0.out x15_4 p399 q399
                        have hw399_0 := hx399_0
                        obtain rfl : ad397 = ad399 := (by injection e399)
                        replace hx399_0 := (HB.out.cell (World.block_lt_of_cell? w _ hx399_0)).trans hx399_0
                        replace p399 := eq_true p399
                        replace q399 := eq_true q399
                        obtain ⟨Ao83, co83, eo83⟩ := Kd.R_slice HO_13.out
                        (first | subst eo83 | (injection eo83 with f1_ f2_ f3_; have f4_ := f1_.symm; have f5_ := f3_.symm; clear f1_ f2_ f3_; subst f4_; subst f5_))
                        have p400 : 0 ≤ (x15_4 : Int) := of_decide_eq_true (by first | (with_reducible assumption) | assumption)
                        have q400 : x15_4 < (t391.length : Int) := of_decide_eq_true (by first | (with_reducible assumption) | assumption)
                        obtain ⟨ad400, e400, hx400_0⟩ := Kd.at_int (Kd.R_reads' HO_13.out).2.2 x15_4 p400 q400
                        cases e400
                        replace p400 := eq_true p400
                        replace q400 := eq_true q400
                        have p401 : 0 ≤ (x15_4 : Int) := of_decide_eq_true (by first | (with_reducible assumption) | assumption)
                        have q401 : x15_4 < (l0.length : Int) := of_decide_eq_true (by first | (with_reducible assumption) | assumption)
                        obtain ⟨ad401, e401, hx401_0⟩ := Kd.at_int HR0.out x15_4 p401 q401
                        have hw401_0 := hx401_0
                        obtain rfl : ad397 = ad401 := (by injection e401)
                        replace hx401_0 := (HB.out.cell (World.block_lt_of_cell? w _ hx401_0)).trans hx401_0
                        replace p401 := eq_true p401
                        replace q401 := eq_true q401
                        have p402 : 0 ≤ (x15_4 : Int) := of_decide_eq_true (by first | (with_reducible assumption) | assumption)
                        have q402 : x15_4 < (l1.length : Int) := of_decide_eq_true (by first | (with_reducible assumption) | assumption)
                        obtain ⟨ad402, e402, hx402_0⟩ := Kd.at_int HR1.out x15_4 p402 q402
                        have hw402_0 := hx402_0
                        cases e402
                        replace hx402_0 := (HB.out.cell (World.block_lt_of_cell? w _ hx402_0)).trans hx402_0
                        replace p402 := eq_true p402
                        replace q402 := eq_true q402
                        have p403 : 0 ≤ (x15_4 : Int) := of_decide_eq_true (by first | (with_reducible assumption) | assumption)
                        have q403 : x15_4 < (t391.length : Int) := of_decide_eq_true (by first | (with_reducible assumption) | assumption)
                        obtain ⟨ad403, e403, hx403_0⟩ := Kd.at_int (Kd.R_reads' HO_13.out).2.2 x15_4 p403 q403
                        obtain rfl : ad400 = ad403 := (by injection e403)
                        replace p403 := eq_true p403
                        replace q403 := eq_true q403
                        have p404 : 0 ≤ (x15_4 : Int) := of_decide_eq_true (by first | (with_reducible assumption) | assumption)
                        have q404 : x15_4 < (l0.length : Int) := of_decide_eq_true (by first | (with_reducible assumption) | assumption)
                        obtain ⟨ad404, e404, hx404_0⟩ := Kd.at_int HR0.out x15_4 p404 q404
                        have hw404_0 := hx404_0
                        obtain rfl : ad397 = ad404 := (by injection e404)
                        replace hx404_0 := (HB.out.cell (World.block_lt_of_cell? w _ hx404_0)).trans hx404_0
                        replace p404 := eq_true p404
                        replace q404 := eq_true q404
                        have p405 : 0 ≤ (x15_4 : Int) := of_decide_eq_true (by first | (with_reducible assumption) | assumption)
                        have q405 : x15_4 < (l1.length : Int) := of_decide_eq_true (by first | (with_reducible assumption) | assumption)
                        obtain ⟨ad405, e405, hx405_0⟩ := Kd.at_int HR1.out x15_4 p405 q405
                        have hw405_0 := hx405_0
                        obtain rfl : ad402 = ad405 := (by injection e405)
                        replace hx405_0 := (HB.out.cell (World.block_lt_of_cell? w _ hx405_0)).trans hx405_0
                        replace p405 := eq_true p405
                        replace q405 := eq_true q405
                        refine start_ (n := 68) (S := fun w' => w'.cell? (ad396.add (x15_4).toNat) = some (.int .i64 (rd t388 x15_4)) ∧ w'.cell? (ad397.add (x15_4).toNat) = some (.int .i16 (rd l0 x15_4)) ∧ w'.cell? (ad396.add (x15_4).toNat) = some (.int .i64 (rd t388 x15_4)) ∧ w'.cell? (ad397.add (x15_4).toNat) = some (.int .i16 (rd l0 x15_4)) ∧ w'.cell? (ad400.add (x15_4).toNat) = some (.int .i64 (rd t391 x15_4)) ∧ w'.cell? (ad397.add (x15_4).toNat) = some (.int .i16 (rd l0 x15_4)) ∧ w'.cell? (ad402.add (x15_4).toNat) = some (.int .u16 (rd l1 x15_4)) ∧ w'.cell? (ad400.add (x15_4).toNat) = some (.int .i64 (rd t391 x15_4)) ∧ w'.cell? (ad397.add (x15_4).toNat) = some (.int .i16 (rd l0 x15_4)) ∧ w'.cell? (ad402.add (x15_4).toNat) = some (.int .u16 (rd l1 x15_4))) (ds := []) (bts 68 0) (by kernel_rfl) rfl rfl ⟨hx396_0, ((HB.out.cell (World.block_lt_of_cell? w _ hw397_0)).trans hw397_0), hx398_0, ((HB.out.cell (World.block_lt_of_cell? w _ hw399_0)).trans hw399_0), hx400_0, ((HB.out.cell (World.block_lt_of_cell? w _ hw401_0)).trans hw401_0), ((HB.out.cell (World.block_lt_of_cell? w _ hw402_0)).trans hw402_0), hx403_0, ((HB.out.cell (World.block_lt_of_cell? w _ hw404_0)).trans hw404_0), ((HB.out.cell (World.block_lt_of_cell? w _ hw405_0)).trans hw405_0)⟩ (fun hHeld => ?_); refine with_tabW furrowlaw15_SysBox.tab21 furrowlaw15_SysBox.bits21 (fun HT_ HW_ => ?_)
                        generalize wr.drew = w81 at HO_12 HO_13 HO_368002 BK367 HB hx396_0 hx397_0 hx398_0 hx399_0 hx400_0 hx401_0 hx402_0 hx403_0 hx404_0 hx405_0 hHeld ⊢
                        refine pA 0 (some 128) 0 68 1 HT_ ?_
                        refine pA 1 (some 129) 1 68 3 HT_ ?_
                        refine pA 2 (some 130) 3 68 7 HT_ ?_
                        refine pA 3 (some 131) 7 68 15 HT_ ?_
                        refine pA 6 (some 134) 15 68 79 HT_ ?_
                        refine pA 7 (some 135) 79 68 207 HT_ ?_
                        refine pA 8 (some 136) 207 68 463 HT_ ?_
                        refine take_ (i := 4) (N := some 132) (v := ?_) (a' := ?_) (bts 68 479) rfl rfl (take_ofW HT_.out HW_.out (by kernel_rfl)) (fun _ _ _ h => h) (Or.inl ⟨by rfl, ?_⟩) hHeld ?_ ?_
                        rotate_left
                        ·rintro w' ⟨s0, s1, s2, s3, s4, s5, s6, s7, s8, s9⟩
                         go_simp
                         with_reducible rfl
                        rotate_left
                        ·simp only [Act.put, List.setIfInBounds_toArray, List.set_cons_zero, List.set_cons_succ, i64_w, i32_w]
                         rfl
                        refine pA 5 (some 133) 479 68 511 HT_ ?_
                        refine take_ (i := 9) (N := some 137) (v := ?_) (a' := ?_) (bts 68 1023) rfl rfl (take_ofW HT_.out HW_.out (by kernel_rfl)) (fun _ _ _ h => h) (Or.inl ⟨by rfl, ?_⟩) hHeld ?_ ?_
                        rotate_left
                        ·rintro w' ⟨s0, s1, s2, s3, s4, s5, s6, s7, s8, s9⟩
                         go_simp
                         with_reducible rfl
                        rotate_left
                        ·simp only [Act.put, List.setIfInBounds_toArray, List.set_cons_zero, List.set_cons_succ, i64_w, i32_w]
                         rfl
                        refine pA 10 (some 138) 1023 68 2047 HT_ ?_
                        refine pA 11 (some 139) 2047 68 4095 HT_ ?_
                        refine pA 12 (some 140) 4095 68 8191 HT_ ?_
                        refine pA 13 (some 141) 8191 68 16383 HT_ ?_
                        refine pA 14 (some 142) 16383 68 32767 HT_ ?_
                        refine pA 15 (some 143) 32767 68 65535 HT_ ?_
                        refine pA 16 (some 144) 65535 68 131071 HT_ ?_
                        refine pA 20 (some 148) 131071 68 1179647 HT_ ?_
                        refine pA 21 (some 149) 1179647 68 3276799 HT_ ?_
                        refine pA 22 (some 150) 3276799 68 7471103 HT_ ?_
                        refine take_ (i := 17) (N := some 145) (v := ?_) (a' := ?_) (bts 68 7602175) rfl rfl (take_ofW HT_.out HW_.out (by kernel_rfl)) (fun _ _ _ h => h) (Or.inl ⟨by rfl, ?_⟩) hHeld ?_ ?_
                        rotate_left
                        ·rintro w' ⟨s0, s1, s2, s3, s4, s5, s6, s7, s8, s9⟩
                         go_simp
                         with_reducible rfl
                        rotate_left
                        ·simp only [Act.put, List.setIfInBounds_toArray, List.set_cons_zero, List.set_cons_succ, i64_w, i32_w]
                         rfl
                        refine pA 18 (some 146) 7602175 68 7864319 HT_ ?_
                        refine pA 19 (some 147) 7864319 68 8388607 HT_ ?_
                        refine take_ (i := 23) (N := some 151) (v := ?_) (a' := ?_) (bts 68 16777215) rfl rfl (take_ofW HT_.out HW_.out (by kernel_rfl)) (fun _ _ _ h => h) (Or.inl ⟨by rfl, ?_⟩) hHeld ?_ ?_
                        rotate_left
                        ·rintro w' ⟨s0, s1, s2, s3, s4, s5, s6, s7, s8, s9⟩
                         go_simp
                         with_reducible rfl
                        rotate_left
                        ·simp only [Act.put, List.setIfInBounds_toArray, List.set_cons_zero, List.set_cons_succ, i64_w, i32_w]
                         rfl
                        refine pA 24 (some 152) 16777215 68 33554431 HT_ ?_
                        refine pA 25 (some 153) 33554431 68 67108863 HT_ ?_
                        refine pA 26 (some 154) 67108863 68 134217727 HT_ ?_
                        refine pA 27 (some 155) 134217727 68 268435455 HT_ ?_
                        refine pA 28 (some 156) 268435455 68 536870911 HT_ ?_
                        refine pA 29 (some 157) 536870911 68 1073741823 HT_ ?_
                        refine pA 30 (some 158) 1073741823 68 2147483647 HT_ ?_
                        refine pA 31 (some 159) 2147483647 68 4294967295 HT_ ?_
                        refine pA 34 (some 162) 4294967295 68 21474836479 HT_ ?_
                        refine pA 35 (some 163) 21474836479 68 55834574847 HT_ ?_
                        refine pA 36 (some 164) 55834574847 68 124554051583 HT_ ?_
                        refine pA 39 (some 167) 124554051583 68 674309865471 HT_ ?_
                        refine pA 40 (some 168) 674309865471 68 1773821493247 HT_ ?_
                        refine pA 41 (some 169) 1773821493247 68 3972844748799 HT_ ?_
                        refine take_ (i := 32) (N := some 160) (v := ?_) (a' := ?_) (bts 68 3977139716095) rfl rfl (take_ofW HT_.out HW_.out (by kernel_rfl)) (fun _ _ _ h => h) (Or.inl ⟨by rfl, ?_⟩) hHeld ?_ ?_
                        rotate_left
                        ·rintro w' ⟨s0, s1, s2, s3, s4, s5, s6, s7, s8, s9⟩
                         go_simp
                         with_reducible rfl
                        rotate_left
                        ·simp only [Act.put, List.setIfInBounds_toArray, List.set_cons_zero, List.set_cons_succ, i64_w, i32_w]
                         rfl
                        refine pA 33 (some 161) 3977139716095 68 3985729650687 HT_ ?_
                        refine take_ (i := 37) (N := some 165) (v := ?_) (a' := ?_) (bts 68 4123168604159) rfl rfl (take_ofW HT_.out HW_.out (by kernel_rfl)) (fun _ _ _ h => h) (Or.inl ⟨by rfl, ?_⟩) hHeld ?_ ?_
                        rotate_left
                        ·rintro w' ⟨s0, s1, s2, s3, s4, s5, s6, s7, s8, s9⟩
                         go_simp
                         with_reducible rfl
                        rotate_left
                        ·simp only [Act.put, List.setIfInBounds_toArray, List.set_cons_zero, List.set_cons_succ, i64_w, i32_w]
                         rfl
                        refine pA 38 (some 166) 4123168604159 68 4398046511103 HT_ ?_
                        refine take_ (i := 42) (N := some 170) (v := ?_) (a' := ?_) (bts 68 8796093022207) rfl rfl (take_ofW HT_.out HW_.out (by kernel_rfl)) (fun _ _ _ h => h) (Or.inl ⟨by rfl, ?_⟩) hHeld ?_ ?_
                        rotate_left
                        ·rintro w' ⟨s0, s1, s2, s3, s4, s5, s6, s7, s8, s9⟩
                         go_simp
                         with_reducible rfl
                        rotate_left
                        ·simp only [Act.put, List.setIfInBounds_toArray, List.set_cons_zero, List.set_cons_succ, i64_w, i32_w]
                         rfl
                        refine pA 43 (some 171) 8796093022207 68 17592186044415 HT_ ?_
                        refine pA 44 (some 172) 17592186044415 68 35184372088831 HT_ ?_
                        refine pA 45 (some 173) 35184372088831 68 70368744177663 HT_ ?_
                        refine pA 46 (some 174) 70368744177663 68 140737488355327 HT_ ?_
                        refine pA 47 (some 175) 140737488355327 68 281474976710655 HT_ ?_
                        refine pA 48 (some 176) 281474976710655 68 562949953421311 HT_ ?_
                        refine pA 49 (some 177) 562949953421311 68 1125899906842623 HT_ ?_
                        refine pA 50 (some 178) 1125899906842623 68 2251799813685247 HT_ ?_
                        refine pA 51 (some 179) 2251799813685247 68 4503599627370495 HT_ ?_
                        refine pA 55 (some 183) 4503599627370495 68 40532396646334463 HT_ ?_
                        refine pA 56 (some 184) 40532396646334463 68 112589990684262399 HT_ ?_
                        refine pA 57 (some 185) 112589990684262399 68 256705178760118271 HT_ ?_
                        refine pA 60 (some 188) 256705178760118271 68 1409626683366965247 HT_ ?_
                        refine pA 61 (some 189) 1409626683366965247 68 3715469692580659199 HT_ ?_
                        refine pA 62 (some 190) 3715469692580659199 68 8327155711008047103 HT_ ?_
                        refine take_ (i := 52) (N := some 180) (v := ?_) (a' := ?_) (bts 68 8331659310635417599) rfl rfl (take_ofW HT_.out HW_.out (by kernel_rfl)) (fun _ _ _ h => h) (Or.inl ⟨by rfl, ?_⟩) hHeld ?_ ?_
                        rotate_left
                        ·rintro w' ⟨s0, s1, s2, s3, s4, s5, s6, s7, s8, s9⟩
                         go_simp
                         with_reducible rfl
                        rotate_left
                        ·simp only [Act.put, List.setIfInBounds_toArray, List.set_cons_zero, List.set_cons_succ, i64_w, i32_w]
                         rfl
                        refine pA 53 (some 181) 8331659310635417599 68 8340666509890158591 HT_ ?_
                        refine pA 54 (some 182) 8340666509890158591 68 8358680908399640575 HT_ ?_
                        refine take_ (i := 58) (N := some 186) (v := ?_) (a' := ?_) (bts 68 8646911284551352319) rfl rfl (take_ofW HT_.out HW_.out (by kernel_rfl)) (fun _ _ _ h => h) (Or.inl ⟨by rfl, ?_⟩) hHeld ?_ ?_
                        rotate_left
                        ·rintro w' ⟨s0, s1, s2, s3, s4, s5, s6, s7, s8, s9⟩
                         go_simp
                         with_reducible rfl
                        rotate_left
                        ·simp only [Act.put, List.setIfInBounds_toArray, List.set_cons_zero, List.set_cons_succ, i64_w, i32_w]
                         rfl
                        refine pA 59 (some 187) 8646911284551352319 68 9223372036854775807 HT_ ?_
                        refine take_ (i := 63) (N := some 191) (v := ?_) (a' := ?_) (bts 68 18446744073709551615) rfl rfl (take_ofW HT_.out HW_.out (by kernel_rfl)) (fun _ _ _ h => h) (Or.inl ⟨by rfl, ?_⟩) hHeld ?_ ?_
                        rotate_left
                        ·rintro w' ⟨s0, s1, s2, s3, s4, s5, s6, s7, s8, s9⟩
                         go_simp
                         with_reducible rfl
                        rotate_left
                        ·simp only [Act.put, List.setIfInBounds_toArray, List.set_cons_zero, List.set_cons_succ, i64_w, i32_w]
                         rfl
                        refine pA 64 (some 192) 18446744073709551615 68 36893488147419103231 HT_ ?_
                        refine pA 65 (some 193) 36893488147419103231 68 73786976294838206463 HT_ ?_
                        refine pA 66 (some 194) 73786976294838206463 68 147573952589676412927 HT_ ?_
                        refine pA 67 (some 195) 147573952589676412927 68 295147905179352825855 HT_ ?_
                        refine done_ (done_of HT_.out (by kernel_rfl)) ?_
                        try go_wp2
                        go_roundg k4
                        case measure => have := HJ5.out; have := HK2.out; have := HJ60.out; have := HK4.out; omega
                        case rel => exact ⟨(wrap64 (x15_4 + 1)), (by first | rfl | (simp; done) | (simp [*]; done) | (simp [bne_nil_, beq_nil_]; done)), H', ⟨by have := HJ5.out; have := HK2.out; have := HJ60.out; have := HK4.out; omega⟩, ⟨uR HO_12.out⟩, ⟨uR HO_13.out⟩, ⟨uN HO_368002.out⟩, ⟨uB BK367.out⟩, ⟨bH⟩⟩
                    ·rw [if_neg c78] at H
                     exact absurd H (by simp)
                   ·rw [if_neg c77] at H
                    exact absurd H (by simp)
                ·rw [if_neg c74] at H
                 exact absurd H (by simp)
               ·rw [if_neg c73] at H
                exact absurd H (by simp)
              ·rw [if_neg c72] at H
               exact absurd H (by simp)
             ·rw [if_neg c71] at H
              have c71b0 : decide (x15_4 < (l0.length : Int)) = false := decide_eq_false c71
              clear c71
              replace H := Option.bind_eq_some_iff.mp H
              obtain ⟨⟨t406, t407, t410⟩, A840, H⟩ := H
              dsimp only at H
              have A84 := mk0 A840
              clear A840
              replace H := Option.bind_eq_some_iff.mp H
              obtain ⟨⟨t413, t416⟩, A850, H⟩ := H
              dsimp only at H
              have A85 := mk0 A850
              clear A850
              as_aux_lemma =>
               have HT := mk0 (Option.some.inj H)
               clear H
               obtain ⟨hcz86_0, hcz86_1, hcz86_2, hfz86_0, hfz86_1, hfz86_2⟩ := cL3 BK367
               go_wp2_with (first | ((with_reducible refine gate_dst (N := 197) rfl ?_); refine gsM (some 197) Tryd.func9 #[.agg #[.int .i64 (l0.length : Int), .slice none 0 0, .slice Ao63 x368002_2.length co63]] ?_; (refine (furrowlaw15_Of.calls k4 (l0.length : Int) (fun k_ => False) _ _ ([] : List (S59)) (fun k_ => (some k_ ≠ (v389 : Value).ownBlock ∧ (some k_ ≠ (v392 : Value).ownBlock ∧ k_ ≠ gb367))) _ _ x368002_2 t406 t407 t410 _ ?side1 ?side2 A84.out).mono ?_); (case side1 => exact Kd.V_nil _ _ _ _ _); (case side2 => exact Kd.N_V (HO_368002.out)); rintro e w87 ⟨v408, v411, rfl, ho0, ho1, hb⟩; refine ⟨_, rfl, ?_⟩; replace HO_368002 := mk0 (Kd.N_mono (Kd.N_told (Kd.N_told (Kd.N_old (uN HO_368002.out) hb) (Kd.N_base ho0)) (Kd.N_base ho1)) (fun _ h_ => h_.1)); have HO409 := mk0 (Kd.N_lower (Kd.N_mono (ok' := fun k_ => some k_ ≠ (v411 : Value).ownBlock ∧ some k_ ≠ (v389 : Value).ownBlock ∧ some k_ ≠ (v392 : Value).ownBlock ∧ k_ ≠ gb367) ho0 (fun k_ hk_ => ⟨hk_.2, Or.elim hk_.1 (fun hs_ => Or.elim hs_ (fun hs_ => (hs_).elim) (fun hs_ => hs_.1)) (fun hn_ => (Kd.fresh' (Kd.R_lt (uR HO_12.out)) k_ hn_)), Or.elim hk_.1 (fun hs_ => Or.elim hs_ (fun hs_ => (hs_).elim) (fun hs_ => hs_.2.1)) (fun hn_ => (Kd.fresh' (Kd.R_lt (uR HO_13.out)) k_ hn_)), Or.elim hk_.1 (fun hs_ => Or.elim hs_ (fun hs_ => (hs_).elim) (fun hs_ => hs_.2.2)) (fun hn_ => (Kd.freshB (g := gb367) (o := .cells #[.int .i64 (l0.length : Int), .slice none 0 0, .slice Ao63 x368002_2.length co63] 24 (0, 0)) (uB BK367.out) k_ hn_))⟩)) (below_size bH)); have HO412 := mk0 (Kd.N_lower (Kd.N_mono (ok' := fun k_ => some k_ ≠ (v408 : Value).ownBlock ∧ some k_ ≠ (v389 : Value).ownBlock ∧ some k_ ≠ (v392 : Value).ownBlock ∧ k_ ≠ gb367) ho1 (fun k_ hk_ => ⟨hk_.2, Or.elim hk_.1 (fun hs_ => Or.elim hs_ (fun hs_ => (hs_).elim) (fun hs_ => hs_.1)) (fun hn_ => (Kd.fresh' (Kd.R_lt (uR HO_12.out)) k_ hn_)), Or.elim hk_.1 (fun hs_ => Or.elim hs_ (fun hs_ => (hs_).elim) (fun hs_ => hs_.2.1)) (fun hn_ => (Kd.fresh' (Kd.R_lt (uR HO_13.out)) k_ hn_)), Or.elim hk_.1 (fun hs_ => Or.elim hs_ (fun hs_ => (hs_).elim) (fun hs_ => hs_.2.2)) (fun hn_ => (Kd.freshB (g := gb367) (o := .cells #[.int .i64 (l0.length : Int), .slice none 0 0, .slice Ao63 x368002_2.length co63] 24 (0, 0)) (uB BK367.out) k_ hn_))⟩)) (below_size bH)); replace HO_12 := rB HO_12 hb; replace HO_13 := rB HO_13 hb; replace BK367 := bB BK367 hb; replace HB := hbB bH hb; (try clear hb); (try clear hb2); (try clear hk); (try clear hi); (try clear ho0); (try clear ho1); clear HO_12 HO_13 HO_368002; obtain ⟨Ao88, co88, eo88⟩ := Kd.N_slice HO409.out; subst eo88; obtain ⟨Ao89, co89, eo89⟩ := Kd.N_slice HO412.out; subst eo89) | ((with_reducible refine gate_dst (N := 198) rfl ?_); refine gsM (some 198) Tryd.func8 #[.agg #[.int .i64 t406, .slice Ao88 t407.length co88, .slice Ao89 t410.length co89]] ?_; (with_reducible refine (furrowref20_Check.calls k4 t406 _ _ t407 _ _ t410 t413 t416 _ ?side1 ?side2 ?side3 ?side4 A85.out).mono ?_); (case side1 => exact uC ((Kd.N_reads' HO409.out).2.2)); (case side2 => exact (Kd.N_reads' HO409.out).2.1); (case side3 => exact uC ((Kd.N_reads' HO412.out).2.2)); (case side4 => exact (Kd.N_reads' HO412.out).2.1); rintro e w90 ⟨v414, rfl, ho0, hb⟩; refine ⟨_, rfl, ?_⟩; replace HO409 := mk0 (Kd.N_elder' (uN HO409.out) (Kd.R_base ho0) hb); replace HO412 := mk0 (Kd.N_elder' (uN HO412.out) (Kd.R_base ho0) hb); have HO415 := mk0 (Kd.R_lower ho0 (below_size bH)); replace BK367 := bB BK367 hb; replace HB := hbB bH hb; (try clear hb); (try clear hb2); (try clear hk); (try clear hi); (try clear ho0)))
               go_ret
               exact ⟨by first | rfl | (simp [errW_none, errW_some] <;> rfl) | (exact congrArg (fun b_ => Ending.returned (Value.bool b_)) HT.out) | (rw [show _ = _ from HT.out]) | (simp [HT.out]; done) | (simp [show _ = _ from HT.out]; done) | (simp [*, errW_none, errW_some] <;> rfl), bH⟩
 ·replace c5 := Bool.eq_false_iff.mpr c5
  subst c5
  have H1 : (some false) = some true := by rw [if_neg (show ¬ (false = true) by decide)] at H; first | done | exact H
  clear H
  have H := H1
  clear H1
  as_aux_lemma =>
   exact absurd H (by simp)

/-- THE ONE PURE STATEMENT of furrowlaw15_SysBox: yours. -/
def furrowlaw15_SysBox.Pure : Prop := ∀ (l0 : List Int) (l1 : List Int) (l2 : List Int), l0.length ≤ maxLen → l0.length * 2 ≤ 140737488351232 → (∀ x ∈ l0, (Lit.int .i16 x).wf = true) → l1.length ≤ maxLen → l1.length * 2 ≤ 140737488351232 → (∀ x ∈ l1, (Lit.int .u16 x).wf = true) → l2.length ≤ maxLen → l2.length * 1 ≤ 140737488351232 → (∀ x ∈ l2, (Lit.int .u8 x).wf = true) → ∃ k, furrowlaw15_SysBox.f k l0 l1 l2 = some true
theorem furrowlaw15_SysBox.walk (P : furrowlaw15_SysBox.Pure) (a0 : Option Addr) (len0 cap0 : Nat) (z0 : List Int) (a1 : Option Addr) (len1 cap1 : Nat) (z1 : List Int) (a2 : Option Addr) (len2 cap2 : Nat) (z2 : List Int) (w : World) (w0 : (a0 = none ∧ len0 = 0 ∧ cap0 = 0 ∧ z0 = []) ∨ ∃ x, a0 = some x ∧ len0 ≤ cap0 ∧ cap0 ≤ maxLen ∧ z0.length = cap0 ∧ (∀ i, i < z0.length → w.cell? (x.add i) = some (.int .i16 (z0.getD i 0))) ∧ ∀ n ∈ z0, (Lit.int .i16 n).wf = true) (y0 : len0 * 2 ≤ 140737488351232) (w1 : (a1 = none ∧ len1 = 0 ∧ cap1 = 0 ∧ z1 = []) ∨ ∃ x, a1 = some x ∧ len1 ≤ cap1 ∧ cap1 ≤ maxLen ∧ z1.length = cap1 ∧ (∀ i, i < z1.length → w.cell? (x.add i) = some (.int .u16 (z1.getD i 0))) ∧ ∀ n ∈ z1, (Lit.int .u16 n).wf = true) (y1 : len1 * 2 ≤ 140737488351232) (w2 : (a2 = none ∧ len2 = 0 ∧ cap2 = 0 ∧ z2 = []) ∨ ∃ x, a2 = some x ∧ len2 ≤ cap2 ∧ cap2 ≤ maxLen ∧ z2.length = cap2 ∧ (∀ i, i < z2.length → w.cell? (x.add i) = some (.int .u8 (z2.getD i 0))) ∧ ∀ n ∈ z2, (Lit.int .u8 n).wf = true) (y2 : len2 * 1 ≤ 140737488351232) (hG : Glob w) :
  Calls Tryd.prog 5 #[.slice a0 len0 cap0, .slice a1 len1 cap1, .slice a2 len2 cap2] w fun e w' => e = .returned (.bool true) ∧ Below w.heap.size w w' := by
 obtain ⟨l0, rfl, hr0, hm0, hw0, hc0⟩ := ReadsInt.ofRowC w0
 obtain ⟨l1, rfl, hr1, hm1, hw1, hc1⟩ := ReadsInt.ofRowC w1
 obtain ⟨l2, rfl, hr2, hm2, hw2, hc2⟩ := ReadsInt.ofRowC w2
 obtain ⟨k, h⟩ := P l0 l1 l2 hm0 y0 hw0 hm1 y1 hw1 hm2 y2 hw2
 refine (furrowlaw15_SysBox.calls k _ _ l0 _ _ l1 _ _ l2  w (Kd.C_of_reads (d := (0 : Int)) (h1 := fun _ => rfl) hr0) hc0 (Kd.C_of_reads (d := (0 : Int)) (h1 := fun _ => rfl) hr1) hc1 (Kd.C_of_reads (d := (0 : Int)) (h1 := fun _ => rfl) hr2) hc2 hG h).mono ?_
 rintro e w' ⟨rfl, hd⟩
 exact ⟨rfl, hd⟩

end Go.Proofs.YtkkpgjkjkcmcbaaDoor.X
