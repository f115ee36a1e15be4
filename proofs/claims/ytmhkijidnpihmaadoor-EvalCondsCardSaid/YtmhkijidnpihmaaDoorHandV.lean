-- eval.Eval and eval.Place walked: printed over stand-ins, turned by mkeval.py
import Derived.Test.YtmhkijidnpihmaaDoorXx0
import Derived.Test.YtmhkijidnpihmaaDoorXx2
namespace Go.Proofs.YtmhkijidnpihmaaDoor.X
open Go.Proofs.YtmhkijidnpihmaaDoor.Flt Go.Proofs.YtmhkijidnpihmaaDoor.H Go.RowKit Go.Proofs.YtmhkijidnpihmaaDoorW.PrintWords Go.Proofs.YtmhkijidnpihmaaDoorW.PrintLast Go.Proofs.YtmhkijidnpihmaaDoorW.PrintMore
attribute [local go_sem] max2_int min2_int max_two min_two max_three min_three max_four min_four   -- for this text's walks alone
set_option linter.unusedVariables false
set_option linter.unusedSimpArgs false
theorem k24_heap : Kd.Heap k24 := Kd.heap_fix (fun _ h_ => Kd.heap_iso _ (Kd.heap_pair (Kd.heap_int .i64) (Kd.heap_pair (Kd.heap_int .i64) (Kd.heap_pair Kd.heap_string (Kd.heap_slice 24 h_)))))
theorem k64_heap : Kd.Heap k64 := Kd.heap_iso _ (Kd.heap_pair Kd.heap_string (Kd.heap_pair (Kd.heap_slice 2 (Kd.heap_int .i64)) (Kd.heap_pair (Kd.heap_int .i64) (Kd.heap_int .i64))))

mutual
def eval_Eval.j0 : Nat → List Int → Bool → List (S64) → Int → Int → Int → ByteArray → List (S24) → Option (Int × (List (Flt)))
 | 0, _, _, _, _, _, _, _, _ => none
 | k + 1, x1, x23, x106000, x106001, x107000, x107001, x107002, x107003 => if x23 = true then ((eval_Place.f k x106000 x106001 x1 x107000 x107001 x107002 x107003).bind fun bt107 => (if (bt107.2.length : Int) = 0 then (if 0 ≤ bt107.1 then (if bt107.1 < (x1.length : Int) then (some (rd x1 bt107.1, ([] : List (Flt)))) else (none)) else (none)) else (some (0, bt107.2)))) else (eval_Eval.l0 k x1 x107003 (x107003.length : Int) 0 x106000 x106001 x107000 x107001 x107002 x107003 0 0)
def eval_Eval.l0 : Nat → List Int → List (S24) → Int → Int → List (S64) → Int → Int → Int → ByteArray → List (S24) → Int → Int → Option (Int × (List (Flt)))
 | 0, _, _, _, _, _, _, _, _, _, _, _, _ => none
 | k + 1, x1, x41, x42, x43, x106000, x106001, x107000, x107001, x107002, x107003, x113000, x113001 => if x43 < x42 then (if 0 ≤ x43 then (if x43 < (x41.length : Int) then ((eval_Eval.f k x106000 x106001 x1 ((rd_T24 x41 x43).f0) ((rd_T24 x41 x43).f1) ((rd_T24 x41 x43).f2) ((rd_T24 x41 x43).f3)).bind fun bt115 => (if (bt115.2.length : Int) = 0 then (if x43 = 0 then (eval_Eval.l0 k x1 x41 x42 (wrap64 (x43 + 1)) x106000 x106001 x107000 x107001 x107002 x107003 bt115.1 x113001) else (if x43 = 1 then (eval_Eval.l0 k x1 x41 x42 (wrap64 (x43 + 1)) x106000 x106001 x107000 x107001 x107002 x107003 x113000 bt115.1) else (none))) else (some (0, bt115.2)))) else (none)) else (none)) else (if x107000 = 4 then (some (wrap64 (0 + (wrap64 (-x113000))), ([] : List (Flt)))) else (if x107000 = 6 then (some (wrap64 (x113000 + (wrap64 (-x113001))), ([] : List (Flt)))) else (if x107000 = 5 then (some (wrap64 (x113000 + x113001), ([] : List (Flt)))) else (if x107000 = 7 then (some (wrap64 (x113000 * x113001), ([] : List (Flt)))) else (if x113001 = 0 then (some (0, [(⟨(⟨#[100, 105, 118]⟩ : ByteArray), 0, some 13⟩ : Flt)])) else (some (wrap64 (Int.tdiv x113000 x113001), ([] : List (Flt)))))))))
def eval_Eval.f : Nat → List (S64) → Int → List Int → Int → Int → ByteArray → List (S24) → Option (Int × (List (Flt)))
 | 0, _, _, _, _, _, _, _ => none
 | k + 1, l0_0, a0_1, l1, a2_0, a2_1, a2_2, l2_3 => if a2_0 = 1 then (some (a2_1, ([] : List (Flt)))) else (if a2_0 = 2 then (eval_Eval.j0 k l1 (a2_0 == 2) l0_0 a0_1 a2_0 a2_1 a2_2 l2_3) else (eval_Eval.j0 k l1 (a2_0 == 3) l0_0 a0_1 a2_0 a2_1 a2_2 l2_3))
def eval_Place.l0 : Nat → List Int → List Int → List (S24) → Int → Int → List (S64) → Int → ByteArray → List Int → Int → Int → Option (Int × (List (Flt)))
 | 0, _, _, _, _, _, _, _, _, _, _, _ => none
 | k + 1, x1, x10, x27, x28, x29, x106000, x106001, x115000, x115001, x115002, x115003 => if x29 < x28 then (if 0 ≤ x29 then (if x29 < (x27.length : Int) then ((eval_Eval.f k x106000 x106001 x1 ((rd_T24 x27 x29).f0) ((rd_T24 x27 x29).f1) ((rd_T24 x27 x29).f2) ((rd_T24 x27 x29).f3)).bind fun bt117 => (if (bt117.2.length : Int) = 0 then (if x10.length < 17592186044416 then (eval_Place.l0 k x1 (x10 ++ [bt117.1]) x27 x28 (wrap64 (x29 + 1)) x106000 x106001 x115000 x115001 x115002 x115003) else (none)) else (some (0, bt117.2)))) else (none)) else (none)) else (eval_Place.l1 k x115002 1 x10 (x10.length : Int) 0 x115000 x115001 x115002 x115003)
def eval_Place.l1 : Nat → Int → Int → List Int → Int → Int → ByteArray → List Int → Int → Int → Option (Int × (List (Flt)))
 | 0, _, _, _, _, _, _, _, _, _ => none
 | k + 1, x15, x16, x50, x51, x52, x115000, x115001, x115002, x115003 => if x52 < x51 then (if 0 ≤ x52 then (if x52 < (x50.length : Int) then (if (rd x50 x52) < 1 then (some (0, [(⟨(⟨#[115, 117, 98, 115, 99, 114, 105, 112, 116]⟩ : ByteArray), x52, some 14⟩ : Flt)])) else (if x52 < (x115001.length : Int) then (if (rd x50 x52) > (rd x115001 x52) then (some (0, [(⟨(⟨#[115, 117, 98, 115, 99, 114, 105, 112, 116]⟩ : ByteArray), x52, some 14⟩ : Flt)])) else (eval_Place.l1 k (wrap64 (x15 + (wrap64 ((wrap64 ((rd x50 x52) - 1)) * x16)))) (wrap64 (x16 * (rd x115001 x52))) x50 x51 (wrap64 (x52 + 1)) x115000 x115001 x115002 x115003)) else (none))) else (none)) else (none)) else (some (x15, ([] : List (Flt))))
def eval_Place.f : Nat → List (S64) → Int → List Int → Int → Int → ByteArray → List (S24) → Option (Int × (List (Flt)))
 | 0, _, _, _, _, _, _, _ => none
 | k + 1, l0_0, a0_1, l1, a2_0, a2_1, a2_2, l2_3 => (sema_Table_Find.f k l0_0 a0_1 a2_2).bind fun bt107 => (eval_Place.l0 k l1 ([] : List Int) l2_3 (l2_3.length : Int) 0 l0_0 a0_1 bt107.1 bt107.2.1 bt107.2.2.1 bt107.2.2.2.1)
end
theorem eval_both.mono_l : ∀ k, (∀ y0 y1 y2 y3 y4 y5 y6, LeO (eval_Eval.f k y0 y1 y2 y3 y4 y5 y6) (eval_Eval.f (k + 1) y0 y1 y2 y3 y4 y5 y6)) ∧ (∀ y0 y1 y2 y3 y4 y5 y6 y7, LeO (eval_Eval.j0 k y0 y1 y2 y3 y4 y5 y6 y7) (eval_Eval.j0 (k + 1) y0 y1 y2 y3 y4 y5 y6 y7)) ∧ (∀ y0 y1 y2 y3 y4 y5 y6 y7 y8 y9 y10 y11, LeO (eval_Eval.l0 k y0 y1 y2 y3 y4 y5 y6 y7 y8 y9 y10 y11) (eval_Eval.l0 (k + 1) y0 y1 y2 y3 y4 y5 y6 y7 y8 y9 y10 y11)) ∧ (∀ y0 y1 y2 y3 y4 y5 y6, LeO (eval_Place.f k y0 y1 y2 y3 y4 y5 y6) (eval_Place.f (k + 1) y0 y1 y2 y3 y4 y5 y6)) ∧ (∀ y0 y1 y2 y3 y4 y5 y6 y7 y8 y9 y10, LeO (eval_Place.l0 k y0 y1 y2 y3 y4 y5 y6 y7 y8 y9 y10) (eval_Place.l0 (k + 1) y0 y1 y2 y3 y4 y5 y6 y7 y8 y9 y10)) ∧ (∀ y0 y1 y2 y3 y4 y5 y6 y7 y8, LeO (eval_Place.l1 k y0 y1 y2 y3 y4 y5 y6 y7 y8) (eval_Place.l1 (k + 1) y0 y1 y2 y3 y4 y5 y6 y7 y8))
 | 0 => ⟨fun _ _ _ _ _ _ _ r h => by simp [eval_Eval.f] at h, fun _ _ _ _ _ _ _ _ r h => by simp [eval_Eval.j0] at h, fun _ _ _ _ _ _ _ _ _ _ _ _ r h => by simp [eval_Eval.l0] at h, fun _ _ _ _ _ _ _ r h => by simp [eval_Place.f] at h, fun _ _ _ _ _ _ _ _ _ _ _ r h => by simp [eval_Place.l0] at h, fun _ _ _ _ _ _ _ _ _ r h => by simp [eval_Place.l1] at h⟩
 | k + 1 => by
  obtain ⟨ih0, ih1, ih2, ih3, ih4, ih5⟩ := eval_both.mono_l k
  refine ⟨?_, ?_, ?_, ?_, ?_, ?_⟩
  ·intro y0 y1 y2 y3 y4 y5 y6
   unfold eval_Eval.f
   repeat' first
   | (with_reducible exact ih0 _ _ _ _ _ _ _)
   | (with_reducible exact ih1 _ _ _ _ _ _ _ _)
   | (with_reducible exact ih2 _ _ _ _ _ _ _ _ _ _ _ _)
   | (with_reducible exact ih3 _ _ _ _ _ _ _)
   | (with_reducible exact ih4 _ _ _ _ _ _ _ _ _ _ _)
   | (with_reducible exact ih5 _ _ _ _ _ _ _ _ _)
   | (with_reducible exact sema_Table_Find.mono _ _ _ _)
   | (with_reducible exact LeO.refl _)
   | (with_reducible exact LeO.none _)
   | (with_reducible refine LeO.ite ?_ ?_)
   | (with_reducible refine LeO.bind ?_ (fun _ => ?_))
   | exact ih0 _ _ _ _ _ _ _
   | exact ih1 _ _ _ _ _ _ _ _
   | exact ih2 _ _ _ _ _ _ _ _ _ _ _ _
   | exact ih3 _ _ _ _ _ _ _
   | exact ih4 _ _ _ _ _ _ _ _ _ _ _
   | exact ih5 _ _ _ _ _ _ _ _ _
   | exact sema_Table_Find.mono _ _ _ _
   | exact LeO.none _
   | refine LeO.ite ?_ ?_
   | refine LeO.bind ?_ (fun _ => ?_)
  ·intro y0 y1 y2 y3 y4 y5 y6 y7
   unfold eval_Eval.j0
   repeat' first
   | (with_reducible exact ih0 _ _ _ _ _ _ _)
   | (with_reducible exact ih1 _ _ _ _ _ _ _ _)
   | (with_reducible exact ih2 _ _ _ _ _ _ _ _ _ _ _ _)
   | (with_reducible exact ih3 _ _ _ _ _ _ _)
   | (with_reducible exact ih4 _ _ _ _ _ _ _ _ _ _ _)
   | (with_reducible exact ih5 _ _ _ _ _ _ _ _ _)
   | (with_reducible exact sema_Table_Find.mono _ _ _ _)
   | (with_reducible exact LeO.refl _)
   | (with_reducible exact LeO.none _)
   | (with_reducible refine LeO.ite ?_ ?_)
   | (with_reducible refine LeO.bind ?_ (fun _ => ?_))
   | exact ih0 _ _ _ _ _ _ _
   | exact ih1 _ _ _ _ _ _ _ _
   | exact ih2 _ _ _ _ _ _ _ _ _ _ _ _
   | exact ih3 _ _ _ _ _ _ _
   | exact ih4 _ _ _ _ _ _ _ _ _ _ _
   | exact ih5 _ _ _ _ _ _ _ _ _
   | exact sema_Table_Find.mono _ _ _ _
   | exact LeO.none _
   | refine LeO.ite ?_ ?_
   | refine LeO.bind ?_ (fun _ => ?_)
  ·intro y0 y1 y2 y3 y4 y5 y6 y7 y8 y9 y10 y11
   unfold eval_Eval.l0
   repeat' first
   | (with_reducible exact ih0 _ _ _ _ _ _ _)
   | (with_reducible exact ih1 _ _ _ _ _ _ _ _)
   | (with_reducible exact ih2 _ _ _ _ _ _ _ _ _ _ _ _)
   | (with_reducible exact ih3 _ _ _ _ _ _ _)
   | (with_reducible exact ih4 _ _ _ _ _ _ _ _ _ _ _)
   | (with_reducible exact ih5 _ _ _ _ _ _ _ _ _)
   | (with_reducible exact sema_Table_Find.mono _ _ _ _)
   | (with_reducible exact LeO.refl _)
   | (with_reducible exact LeO.none _)
   | (with_reducible refine LeO.ite ?_ ?_)
   | (with_reducible refine LeO.bind ?_ (fun _ => ?_))
   | exact ih0 _ _ _ _ _ _ _
   | exact ih1 _ _ _ _ _ _ _ _
   | exact ih2 _ _ _ _ _ _ _ _ _ _ _ _
   | exact ih3 _ _ _ _ _ _ _
   | exact ih4 _ _ _ _ _ _ _ _ _ _ _
   | exact ih5 _ _ _ _ _ _ _ _ _
   | exact sema_Table_Find.mono _ _ _ _
   | exact LeO.none _
   | refine LeO.ite ?_ ?_
   | refine LeO.bind ?_ (fun _ => ?_)
  ·intro y0 y1 y2 y3 y4 y5 y6
   unfold eval_Place.f
   repeat' first
   | (with_reducible exact ih0 _ _ _ _ _ _ _)
   | (with_reducible exact ih1 _ _ _ _ _ _ _ _)
   | (with_reducible exact ih2 _ _ _ _ _ _ _ _ _ _ _ _)
   | (with_reducible exact ih3 _ _ _ _ _ _ _)
   | (with_reducible exact ih4 _ _ _ _ _ _ _ _ _ _ _)
   | (with_reducible exact ih5 _ _ _ _ _ _ _ _ _)
   | (with_reducible exact sema_Table_Find.mono _ _ _ _)
   | (with_reducible exact LeO.refl _)
   | (with_reducible exact LeO.none _)
   | (with_reducible refine LeO.ite ?_ ?_)
   | (with_reducible refine LeO.bind ?_ (fun _ => ?_))
   | exact ih0 _ _ _ _ _ _ _
   | exact ih1 _ _ _ _ _ _ _ _
   | exact ih2 _ _ _ _ _ _ _ _ _ _ _ _
   | exact ih3 _ _ _ _ _ _ _
   | exact ih4 _ _ _ _ _ _ _ _ _ _ _
   | exact ih5 _ _ _ _ _ _ _ _ _
   | exact sema_Table_Find.mono _ _ _ _
   | exact LeO.none _
   | refine LeO.ite ?_ ?_
   | refine LeO.bind ?_ (fun _ => ?_)
  ·intro y0 y1 y2 y3 y4 y5 y6 y7 y8 y9 y10
   unfold eval_Place.l0
   repeat' first
   | (with_reducible exact ih0 _ _ _ _ _ _ _)
   | (with_reducible exact ih1 _ _ _ _ _ _ _ _)
   | (with_reducible exact ih2 _ _ _ _ _ _ _ _ _ _ _ _)
   | (with_reducible exact ih3 _ _ _ _ _ _ _)
   | (with_reducible exact ih4 _ _ _ _ _ _ _ _ _ _ _)
   | (with_reducible exact ih5 _ _ _ _ _ _ _ _ _)
   | (with_reducible exact sema_Table_Find.mono _ _ _ _)
   | (with_reducible exact LeO.refl _)
   | (with_reducible exact LeO.none _)
   | (with_reducible refine LeO.ite ?_ ?_)
   | (with_reducible refine LeO.bind ?_ (fun _ => ?_))
   | exact ih0 _ _ _ _ _ _ _
   | exact ih1 _ _ _ _ _ _ _ _
   | exact ih2 _ _ _ _ _ _ _ _ _ _ _ _
   | exact ih3 _ _ _ _ _ _ _
   | exact ih4 _ _ _ _ _ _ _ _ _ _ _
   | exact ih5 _ _ _ _ _ _ _ _ _
   | exact sema_Table_Find.mono _ _ _ _
   | exact LeO.none _
   | refine LeO.ite ?_ ?_
   | refine LeO.bind ?_ (fun _ => ?_)
  ·intro y0 y1 y2 y3 y4 y5 y6 y7 y8
   unfold eval_Place.l1
   repeat' first
   | (with_reducible exact ih0 _ _ _ _ _ _ _)
   | (with_reducible exact ih1 _ _ _ _ _ _ _ _)
   | (with_reducible exact ih2 _ _ _ _ _ _ _ _ _ _ _ _)
   | (with_reducible exact ih3 _ _ _ _ _ _ _)
   | (with_reducible exact ih4 _ _ _ _ _ _ _ _ _ _ _)
   | (with_reducible exact ih5 _ _ _ _ _ _ _ _ _)
   | (with_reducible exact sema_Table_Find.mono _ _ _ _)
   | (with_reducible exact LeO.refl _)
   | (with_reducible exact LeO.none _)
   | (with_reducible refine LeO.ite ?_ ?_)
   | (with_reducible refine LeO.bind ?_ (fun _ => ?_))
   | exact ih0 _ _ _ _ _ _ _
   | exact ih1 _ _ _ _ _ _ _ _
   | exact ih2 _ _ _ _ _ _ _ _ _ _ _ _
   | exact ih3 _ _ _ _ _ _ _
   | exact ih4 _ _ _ _ _ _ _ _ _ _ _
   | exact ih5 _ _ _ _ _ _ _ _ _
   | exact sema_Table_Find.mono _ _ _ _
   | exact LeO.none _
   | refine LeO.ite ?_ ?_
   | refine LeO.bind ?_ (fun _ => ?_)
theorem eval_Eval.mono : ∀ a0 a1 a2 a3 a4 a5 a6 k, LeO (eval_Eval.f k a0 a1 a2 a3 a4 a5 a6) (eval_Eval.f (k + 1) a0 a1 a2 a3 a4 a5 a6) := by
 intro a0 a1 a2 a3 a4 a5 a6 k
 obtain ⟨ih0, ih1, ih2, ih3, ih4, ih5⟩ := eval_both.mono_l k
 exact ih0 a0 a1 a2 a3 a4 a5 a6
theorem eval_Place.mono : ∀ a0 a1 a2 a3 a4 a5 a6 k, LeO (eval_Place.f k a0 a1 a2 a3 a4 a5 a6) (eval_Place.f (k + 1) a0 a1 a2 a3 a4 a5 a6) := by
 intro a0 a1 a2 a3 a4 a5 a6 k
 obtain ⟨ih0, ih1, ih2, ih3, ih4, ih5⟩ := eval_both.mono_l k
 exact ih3 a0 a1 a2 a3 a4 a5 a6
set_option maxHeartbeats 8000000 in
set_option maxRecDepth 100000 in
theorem eval_Place.calls_of (k : Nat) (IHE : ∀ k', k' < k → ∀ (A0_0 : Option Addr) (c0_0 : Nat) (l0_0 : List (S64)) (a0_1 : Int) (A1 : Option Addr) (c1 : Nat) (l1 : List Int) (a2_0 : Int) (a2_1 : Int) (a2_2 : ByteArray) (A2_3 : Option Addr) (c2_3 : Nat) (l2_3 : List (S24)) (r1 : Int) (r2 : List (Flt)) (w : World) (hr0_0 : Kd.C k64 w A0_0 l0_0.length l0_0) (hc0_0 : l0_0.length ≤ c0_0) (hr1 : Kd.C (Kd.int .i64) w A1 l1.length l1) (hc1 : l1.length ≤ c1) (hr2_3 : Kd.C k24 w A2_3 l2_3.length l2_3) (hc2_3 : l2_3.length ≤ c2_3) (h : eval_Eval.f k' l0_0 a0_1 l1 a2_0 a2_1 a2_2 l2_3 = some (r1, r2)), Calls Tryd.prog 14 #[.agg #[.slice A0_0 l0_0.length c0_0, .int .i64 a0_1], .slice A1 l1.length c1, .agg #[.int .i64 a2_0, .int .i64 a2_1, .string a2_2, .slice A2_3 l2_3.length c2_3]] w fun e w' => ∃ v1_ : Value, e = .returned (.tuple #[.int .i64 r1, errV v1_]) ∧ Kd.R fltK 78 w' w.heap.size (fun _ => True) v1_ r2 ∧ Below w.heap.size w w') : ∀ (A0_0 : Option Addr) (c0_0 : Nat) (l0_0 : List (S64)) (a0_1 : Int) (A1 : Option Addr) (c1 : Nat) (l1 : List Int) (a2_0 : Int) (a2_1 : Int) (a2_2 : ByteArray) (A2_3 : Option Addr) (c2_3 : Nat) (l2_3 : List (S24)) (r1 : Int) (r2 : List (Flt)) (w : World) (hr0_0 : Kd.C k64 w A0_0 l0_0.length l0_0) (hc0_0 : l0_0.length ≤ c0_0) (hr1 : Kd.C (Kd.int .i64) w A1 l1.length l1) (hc1 : l1.length ≤ c1) (hr2_3 : Kd.C k24 w A2_3 l2_3.length l2_3) (hc2_3 : l2_3.length ≤ c2_3) (h : eval_Place.f k l0_0 a0_1 l1 a2_0 a2_1 a2_2 l2_3 = some (r1, r2)),
  Calls Tryd.prog 18 #[.agg #[.slice A0_0 l0_0.length c0_0, .int .i64 a0_1], .slice A1 l1.length c1, .agg #[.int .i64 a2_0, .int .i64 a2_1, .string a2_2, .slice A2_3 l2_3.length c2_3]] w fun e w' => ∃ v1_ : Value, e = .returned (.tuple #[.int .i64 r1, errV v1_]) ∧ Kd.R fltK 78 w' w.heap.size (fun _ => True) v1_ r2 ∧ Below w.heap.size w w' := by
 intro A0_0 c0_0 l0_0 a0_1 A1 c1 l1 a2_0 a2_1 a2_2 A2_3 c2_3 l2_3 r1 r2 w hr0_0 hc0_0 hr1 hc1 hr2_3 hc2_3 h
 cases k with
 | zero => exact absurd h (by simp [eval_Place.f])
 | succ k =>
 simp only [eval_Place.f] at h
 have hu46 := Tryd.underlying46
 have hu24 := Tryd.underlying24
 have hu64 := Tryd.underlying64
 have HR0_0 := mk0 hr0_0
 have HC0_0 := mk0 hc0_0
 clear hr0_0 hc0_0
 have HR1 := mk0 hr1
 have HC1 := mk0 hc1
 clear hr1 hc1
 have HR2_3 := mk0 hr2_3
 have HC2_3 := mk0 hc2_3
 clear hr2_3 hc2_3
 have HB := mk0 (Below.refl w.heap.size w)
 have H : ((sema_Table_Find.f k l0_0 a0_1 a2_2).bind fun bt107 => (eval_Place.l0 k l1 ([] : List Int) l2_3 (l2_3.length : Int) 0 l0_0 a0_1 bt107.1 bt107.2.1 bt107.2.2.1 bt107.2.2.2.1)) = some (r1, r2) := h
 clear h
 replace H := Option.bind_eq_some_iff.mp H
 obtain ⟨⟨t107, t108, t111, t112, t113⟩, A40, H⟩ := H
 replace H : (eval_Place.l0 k l1 ([] : List Int) l2_3 (l2_3.length : Int) 0 l0_0 a0_1 t107 t108 t111 t112) = some (r1, r2) := H
 have A4 := mk0 A40
 clear A40
 have H' := mk0 H
 clear H
 go_enter Tryd.func18, Tryd.ntmps18
 go_wp2_with (first | ((with_reducible refine gate_dst (N := 3) rfl ?_); refine box_event ?hg (N := 3) ?hd (cs := #[.slice A0_0 l0_0.length c0_0, .int .i64 a0_1]) (t := 46) ?hr ?_; (case hd => rfl); (case hg => rfl); (case hr => first | (go_simp; done) | (go_simp; rfl)); intro gb105 hg w5 hbox hb; have n0_ := mk0 (below_step (uL HB.out) hb); have n1_ := mk0 (hbox); have n2_ := mk0 ((by rw [hg]; exact (below_size (uL HB.out)) : w.heap.size ≤ gb105)); have n3_ := mk0 ((by rw [hg]; exact (below_size (uL HB.out)) : w.heap.size ≤ gb105)); clear HB; have HB := n0_; have BK105 := n1_; have GW105 := n2_; have GE105 := n3_; clear n0_ n1_ n2_ n3_; clear hb hbox hg) | ((with_reducible refine gate_dst (N := 5) rfl ?_); refine box_event ?hg (N := 5) ?hd (cs := #[.int .i64 a2_0, .int .i64 a2_1, .string a2_2, .slice A2_3 l2_3.length c2_3]) (t := 24) ?hr ?_; (case hd => rfl); (case hg => rfl); (case hr => first | (go_simp; done) | (go_simp; rfl)); intro gb106 hg w6 hbox hb; have n0_ := mk0 (blk_below (g := gb105) (o := .cells #[.slice A0_0 l0_0.length c0_0, .int .i64 a0_1] 46 (0, 0)) (uB BK105.out) hb); have n1_ := mk0 (below_step (by repeat (first | (with_reducible first | exact HB.out | apply bA | apply bN | apply bD | refine bS ?_ (by assumption)) | exact HB.out)) hb); have n2_ := mk0 (hbox); have n3_ := mk0 ((by rw [hg]; exact (below_size (by repeat (first | (with_reducible first | exact HB.out | apply bA | apply bN | apply bD | refine bS ?_ (by assumption)) | exact HB.out))) : w.heap.size ≤ gb106)); have n4_ := mk0 ((by rw [hg]; exact (below_size (by repeat (first | (with_reducible first | exact HB.out | apply bA | apply bN | apply bD | refine bS ?_ (by assumption)) | exact HB.out))) : w.heap.size ≤ gb106)); have n5_ := mk0 ((by rw [hg]; exact Nat.ne_of_lt (blk_lt (g := gb105) (o := .cells #[.slice A0_0 l0_0.length c0_0, .int .i64 a0_1] 46 (0, 0)) (uB BK105.out)) : gb105 ≠ gb106)); have n6_ := mk0 ((by rw [hg]; exact Nat.ne_of_gt (blk_lt (g := gb105) (o := .cells #[.slice A0_0 l0_0.length c0_0, .int .i64 a0_1] 46 (0, 0)) (uB BK105.out)) : gb106 ≠ gb105)); clear BK105; clear HB; have BK105 := n0_; have HB := n1_; have BK106 := n2_; have GW106 := n3_; have GE106 := n4_; have NB105_106 := n5_; have NB106_105 := n6_; clear n0_ n1_ n2_ n3_ n4_ n5_ n6_; clear hb hbox hg; have hnb7 := NB105_106.out; have hnc7 := NB106_105.out; have hcz8_0 : w6.cell? ⟨gb105, 0, none⟩ = some (.slice A0_0 l0_0.length c0_0) := (blk_cell BK105.out 0).trans rfl; have hcz8_1 : w6.cell? ⟨gb105, 1, none⟩ = some (.int .i64 a0_1) := (blk_cell BK105.out 1).trans rfl; have hfz8_0 := blk_frozen BK105.out 0; have hfz8_1 := blk_frozen BK105.out 1; have hcz9_0 : w6.cell? ⟨gb106, 0, none⟩ = some (.int .i64 a2_0) := (blk_cell BK106.out 0).trans rfl; have hcz9_1 : w6.cell? ⟨gb106, 1, none⟩ = some (.int .i64 a2_1) := (blk_cell BK106.out 1).trans rfl; have hcz9_2 : w6.cell? ⟨gb106, 2, none⟩ = some (.string a2_2) := (blk_cell BK106.out 2).trans rfl; have hcz9_3 : w6.cell? ⟨gb106, 3, none⟩ = some (.slice A2_3 l2_3.length c2_3) := (blk_cell BK106.out 3).trans rfl; have hfz9_0 := blk_frozen BK106.out 0; have hfz9_1 := blk_frozen BK106.out 1; have hfz9_2 := blk_frozen BK106.out 2; have hfz9_3 := blk_frozen BK106.out 3) | ((with_reducible refine gate_callee (f := 28) rfl ?_); refine goesL_ (some 23) rfl rfl Tryd.func28 (by kernel_rfl) rfl #[.agg #[.slice A0_0 l0_0.length c0_0, .int .i64 a0_1], .string a2_2] rfl (by (try simp only [List.map_toArray, List.map_cons, List.map_nil]); first | done | rfl | (simp only [List.length_drop, List.length_take]; rfl)) ?_; (with_reducible refine (sema_Table_Find.calls k (fun k_ => k_ < w.heap.size) _ _ l0_0 a0_1 a2_2 t107 t108 t111 t112 t113 _ ?side1 A4.out).mono ?_); (case side1 => exact Kd.V_mk HC0_0.out (Kd.F_below (Kd.C_F k64_heap HR0_0.out) (by repeat (first | (with_reducible first | exact HB.out | apply bA | apply bN | apply bD | refine bS ?_ (by assumption)) | exact HB.out)))); rintro e w10 ⟨v109, rfl, ho0, hb⟩; refine ⟨_, rfl, ?_⟩; have n0_ := mk0 (Kd.V_lower (Kd.V_mono (ok' := fun k_ => k_ ≠ gb105 ∧ k_ ≠ gb106) ho0 (fun k_ hk_ => ⟨Or.elim hk_ (fun hs_ => fun e_ => Nat.not_le.2 hs_ (by rw [e_]; exact GW105.out)) (fun hn_ => (Kd.freshB (g := gb105) (o := .cells #[.slice A0_0 l0_0.length c0_0, .int .i64 a0_1] 46 (0, 0)) (uB BK105.out) k_ hn_)), Or.elim hk_ (fun hs_ => fun e_ => Nat.not_le.2 hs_ (by rw [e_]; exact GW106.out)) (fun hn_ => (Kd.freshB (g := gb106) (o := .cells #[.int .i64 a2_0, .int .i64 a2_1, .string a2_2, .slice A2_3 l2_3.length c2_3] 24 (0, 0)) (uB BK106.out) k_ hn_))⟩)) (below_size (by repeat (first | (with_reducible first | exact HB.out | apply bA | apply bN | apply bD | refine bS ?_ (by assumption)) | exact HB.out)))); have n1_ := mk0 (blk_below (g := gb105) (o := .cells #[.slice A0_0 l0_0.length c0_0, .int .i64 a0_1] 46 (0, 0)) (uB BK105.out) hb); have n2_ := mk0 (blk_below (g := gb106) (o := .cells #[.int .i64 a2_0, .int .i64 a2_1, .string a2_2, .slice A2_3 l2_3.length c2_3] 24 (0, 0)) (uB BK106.out) hb); have n3_ := mk0 (below_step (by repeat (first | (with_reducible first | exact HB.out | apply bA | apply bN | apply bD | refine bS ?_ (by assumption)) | exact HB.out)) hb); clear BK105; clear BK106; clear HB; have HO110 := n0_; have BK105 := n1_; have BK106 := n2_; have HB := n3_; clear n0_ n1_ n2_ n3_; (try clear hb); (try clear hb2); (try clear hk); (try clear hi); (try clear ho0)) | ((with_reducible refine gate_dst (N := 8) rfl ?_); refine box_event ?hg (N := 8) ?hd (cs := #[.string (⟨#[]⟩ : ByteArray), .slice none 0 0, .int .i64 0, .int .i64 0]) (t := 64) ?hr ?_; (case hd => rfl); (case hg => rfl); (case hr => first | (go_simp; done) | (go_simp; rfl)); intro gb114 hg w11 hbox hb; have n0_ := mk0 (Kd.V_below (Kd.V_elderB (uV HO110.out) gb114 (Nat.le_of_eq hg.symm)) hb); have n1_ := mk0 (blk_below (g := gb105) (o := .cells #[.slice A0_0 l0_0.length c0_0, .int .i64 a0_1] 46 (0, 0)) (uB BK105.out) hb); have n2_ := mk0 (blk_below (g := gb106) (o := .cells #[.int .i64 a2_0, .int .i64 a2_1, .string a2_2, .slice A2_3 l2_3.length c2_3] 24 (0, 0)) (uB BK106.out) hb); have n3_ := mk0 (below_step (by repeat (first | (with_reducible first | exact HB.out | apply bA | apply bN | apply bD | refine bS ?_ (by assumption)) | exact HB.out)) hb); have n4_ := mk0 (hbox); have n5_ := mk0 ((by rw [hg]; exact (below_size (by repeat (first | (with_reducible first | exact HB.out | apply bA | apply bN | apply bD | refine bS ?_ (by assumption)) | exact HB.out))) : w.heap.size ≤ gb114)); have n6_ := mk0 ((by rw [hg]; exact (below_size (by repeat (first | (with_reducible first | exact HB.out | apply bA | apply bN | apply bD | refine bS ?_ (by assumption)) | exact HB.out))) : w.heap.size ≤ gb114)); have n7_ := mk0 ((by rw [hg]; exact Nat.ne_of_lt (blk_lt (g := gb105) (o := .cells #[.slice A0_0 l0_0.length c0_0, .int .i64 a0_1] 46 (0, 0)) (uB BK105.out)) : gb105 ≠ gb114)); have n8_ := mk0 ((by rw [hg]; exact Nat.ne_of_gt (blk_lt (g := gb105) (o := .cells #[.slice A0_0 l0_0.length c0_0, .int .i64 a0_1] 46 (0, 0)) (uB BK105.out)) : gb114 ≠ gb105)); have n9_ := mk0 ((by rw [hg]; exact Nat.ne_of_lt (blk_lt (g := gb106) (o := .cells #[.int .i64 a2_0, .int .i64 a2_1, .string a2_2, .slice A2_3 l2_3.length c2_3] 24 (0, 0)) (uB BK106.out)) : gb106 ≠ gb114)); have n10_ := mk0 ((by rw [hg]; exact Nat.ne_of_gt (blk_lt (g := gb106) (o := .cells #[.int .i64 a2_0, .int .i64 a2_1, .string a2_2, .slice A2_3 l2_3.length c2_3] 24 (0, 0)) (uB BK106.out)) : gb114 ≠ gb106)); clear HO110; clear BK105; clear BK106; clear HB; have HO110 := n0_; have BK105 := n1_; have BK106 := n2_; have HB := n3_; have BK114 := n4_; have GW114 := n5_; have GE114 := n6_; have NB105_114 := n7_; have NB114_105 := n8_; have NB106_114 := n9_; have NB114_106 := n10_; clear n0_ n1_ n2_ n3_ n4_ n5_ n6_ n7_ n8_ n9_ n10_; clear hb hbox hg; have hnb12 := NB114_105.out; have hnc12 := NB105_114.out; have hnb13 := NB114_106.out; have hnc13 := NB106_114.out; have hcz14_0 : w11.cell? ⟨gb114, 0, none⟩ = some (.string (⟨#[]⟩ : ByteArray)) := (blk_cell BK114.out 0).trans rfl; have hcz14_1 : w11.cell? ⟨gb114, 1, none⟩ = some (.slice none 0 0) := (blk_cell BK114.out 1).trans rfl; have hcz14_2 : w11.cell? ⟨gb114, 2, none⟩ = some (.int .i64 0) := (blk_cell BK114.out 2).trans rfl; have hcz14_3 : w11.cell? ⟨gb114, 3, none⟩ = some (.int .i64 0) := (blk_cell BK114.out 3).trans rfl; have hfz14_0 := blk_frozen BK114.out 0; have hfz14_1 := blk_frozen BK114.out 1; have hfz14_2 := blk_frozen BK114.out 2; have hfz14_3 := blk_frozen BK114.out 3; obtain ⟨Ao15, co15, eo15⟩ := Kd.V_slice HO110.out; subst eo15; have hcz16_0 : w11.cell? ⟨gb106, 0, none⟩ = some (.int .i64 a2_0) := (blk_cell BK106.out 0).trans rfl; have hcz16_1 : w11.cell? ⟨gb106, 1, none⟩ = some (.int .i64 a2_1) := (blk_cell BK106.out 1).trans rfl; have hcz16_2 : w11.cell? ⟨gb106, 2, none⟩ = some (.string a2_2) := (blk_cell BK106.out 2).trans rfl; have hcz16_3 : w11.cell? ⟨gb106, 3, none⟩ = some (.slice A2_3 l2_3.length c2_3) := (blk_cell BK106.out 3).trans rfl; have hfz16_0 := blk_frozen BK106.out 0; have hfz16_1 := blk_frozen BK106.out 1; have hfz16_2 := blk_frozen BK106.out 2; have hfz16_3 := blk_frozen BK106.out 3))
 go_loopg [10, 29] k (fun kq v10 v29 w' => ∃ (x10_1 : List Int) (x29_1 : Int), v29 = .int .i64 x29_1 ∧ Aside0 (eval_Place.l0 kq l1 x10_1 l2_3 (l2_3.length : Int) x29_1 l0_0 a0_1 t107 t108 t111 t112 = some (r1, r2)) ∧ Aside0 (kq ≤ k) ∧ Aside0 (Kd.R (Kd.int .i64) 2 w' w.heap.size (fun _ => True) v10 x10_1) ∧ Aside0 (Kd.V (Kd.int .i64) 2 w' w.heap.size (fun k_ => some k_ ≠ (v10 : Value).ownBlock ∧ k_ ≠ gb105 ∧ k_ ≠ gb106 ∧ k_ ≠ gb114) (.slice Ao15 t108.length co15) t108) ∧ Aside0 (w'.heap[gb105]? = some (.cells #[(.slice A0_0 l0_0.length c0_0), .int .i64 a0_1] 46 (0, 0))) ∧ Aside0 (w'.heap[gb106]? = some (.cells #[.int .i64 a2_0, .int .i64 a2_1, .string a2_2, (.slice A2_3 l2_3.length c2_3)] 24 (0, 0))) ∧ Aside0 (w'.heap[gb114]? = some (.cells #[.string t107, (.slice Ao15 t108.length co15), .int .i64 t111, .int .i64 t112] 64 (0, 0))) ∧ Aside0 (Below w.heap.size w w'))
 case atStart => exact ⟨(([] : List Int)), (0), (by first | rfl | (simp; done) | (simp [*]; done) | (simp [bne_nil_, beq_nil_]; done)), H', ⟨Nat.le_refl _⟩, ⟨by first | exact Kd.R_nil _ _ _ _ _ | exact Kd.N_nil _ _ _ _ _ | exact Kd.V_nil _ _ _ _ _ | exact Kd.Q_nil _ _ _ _ _ | exact Kd.S_nil _ _ _ _ _⟩, ⟨uV (Kd.V_mono (Kd.V_far (p := ⟨gb114, 3, none⟩) (Kd.V_far (p := ⟨gb114, 2, none⟩) (Kd.V_far (p := ⟨gb114, 1, none⟩) (Kd.V_far (p := ⟨gb114, 0, none⟩) (Kd.V_mono HO110.out (fun k_ hk => (⟨hk, hk.2⟩ : _ ∧ k_ ≠ gb114))) (fun _ hk => hk.2) (.string t107)) (fun _ hk => hk.2) (.slice Ao15 t108.length co15)) (fun _ hk => hk.2) (.int .i64 t111)) (fun _ hk => hk.2) (.int .i64 t112)) (fun _ hk => ⟨(by simp [Value.ownBlock]), ⟨hk.1.1.1, ⟨hk.1.1.2, hk.1.2⟩⟩⟩))⟩, ⟨by (with_reducible repeat (first | refine blk_drewN ?_ _ | refine blk_drew ?_ | refine blk_alloc ?_ _)); refine blk_far ?_ NB105_114.out _; (with_reducible repeat (first | refine blk_drewN ?_ _ | refine blk_drew ?_ | refine blk_alloc ?_ _)); refine blk_far ?_ NB105_114.out _; (with_reducible repeat (first | refine blk_drewN ?_ _ | refine blk_drew ?_ | refine blk_alloc ?_ _)); refine blk_far ?_ NB105_114.out _; (with_reducible repeat (first | refine blk_drewN ?_ _ | refine blk_drew ?_ | refine blk_alloc ?_ _)); refine blk_far ?_ NB105_114.out _; (with_reducible repeat (first | refine blk_drewN ?_ _ | refine blk_drew ?_ | refine blk_alloc ?_ _)); exact BK105.out⟩, ⟨by (with_reducible repeat (first | refine blk_drewN ?_ _ | refine blk_drew ?_ | refine blk_alloc ?_ _)); refine blk_far ?_ NB106_114.out _; (with_reducible repeat (first | refine blk_drewN ?_ _ | refine blk_drew ?_ | refine blk_alloc ?_ _)); refine blk_far ?_ NB106_114.out _; (with_reducible repeat (first | refine blk_drewN ?_ _ | refine blk_drew ?_ | refine blk_alloc ?_ _)); refine blk_far ?_ NB106_114.out _; (with_reducible repeat (first | refine blk_drewN ?_ _ | refine blk_drew ?_ | refine blk_alloc ?_ _)); refine blk_far ?_ NB106_114.out _; (with_reducible repeat (first | refine blk_drewN ?_ _ | refine blk_drew ?_ | refine blk_alloc ?_ _)); exact BK106.out⟩, ⟨by (with_reducible repeat (first | refine blk_drewN ?_ _ | refine blk_drew ?_ | refine blk_alloc ?_ _)); refine blk_put (cs := #[.string t107, .slice Ao15 t108.length co15, .int .i64 t111, .int .i64 0]) ?_ 3 _ rfl; (with_reducible repeat (first | refine blk_drewN ?_ _ | refine blk_drew ?_ | refine blk_alloc ?_ _)); refine blk_put (cs := #[.string t107, .slice Ao15 t108.length co15, .int .i64 0, .int .i64 0]) ?_ 2 _ rfl; (with_reducible repeat (first | refine blk_drewN ?_ _ | refine blk_drew ?_ | refine blk_alloc ?_ _)); refine blk_put (cs := #[.string t107, .slice none 0 0, .int .i64 0, .int .i64 0]) ?_ 1 _ rfl; (with_reducible repeat (first | refine blk_drewN ?_ _ | refine blk_drew ?_ | refine blk_alloc ?_ _)); refine blk_put (cs := #[.string (⟨#[]⟩ : ByteArray), .slice none 0 0, .int .i64 0, .int .i64 0]) ?_ 0 _ rfl; (with_reducible repeat (first | refine blk_drewN ?_ _ | refine blk_drew ?_ | refine blk_alloc ?_ _)); exact BK114.out⟩, ⟨by repeat (first | (with_reducible first | exact HB.out | apply bA | apply bN | apply bD | refine bS ?_ (by assumption)) | exact HB.out)⟩⟩
 case round =>
  clear H'
  try clear c1
  try clear c2
  try clear p2
  try clear c7
  try clear c12
  try clear c13
  try clear hcz14_0
  try clear hcz14_1
  try clear hcz14_2
  try clear hcz14_3
  try clear hcz16_0
  try clear hcz16_1
  try clear hcz16_2
  try clear hcz16_3
  try clear hcz8_0
  try clear hcz8_1
  try clear hcz9_0
  try clear hcz9_1
  try clear hcz9_2
  try clear hcz9_3
  try clear hfz14_0
  try clear hfz14_1
  try clear hfz14_2
  try clear hfz14_3
  try clear hfz16_0
  try clear hfz16_1
  try clear hfz16_2
  try clear hfz16_3
  try clear hfz8_0
  try clear hfz8_1
  try clear hfz9_0
  try clear hfz9_1
  try clear hfz9_2
  try clear hfz9_3
  obtain ⟨x10_1, x29_1, rfl, HA, HK1, HO_10, HO_115001, BK105, BK106, BK114, HB⟩ := hrel
  cases gk with
  | zero => exact absurd HA.out (by simp [eval_Place.l0])
  | succ k1 =>
   have H := HA.out
   clear HA
   simp only [eval_Place.l0] at H
   by_cases c17 : x29_1 < (l2_3.length : Int)
   ·rw [if_pos c17] at H
    have c17b0 : decide (x29_1 < (l2_3.length : Int)) = true := decide_eq_true c17
    clear c17
    by_cases c18 : 0 ≤ x29_1
    ·rw [if_pos c18] at H
     have c18b0 : decide (0 ≤ x29_1) = true := decide_eq_true c18
     clear c18
     by_cases c19 : x29_1 < (l2_3.length : Int)
     ·rw [if_pos c19] at H
      have c19b0 : decide (x29_1 < (l2_3.length : Int)) = true := decide_eq_true c19
      clear c19
      replace H := Option.bind_eq_some_iff.mp H
      obtain ⟨⟨t117, t118⟩, A200, H⟩ := H
      replace H : (if (t118.length : Int) = 0 then (if x10_1.length < 17592186044416 then (eval_Place.l0 k1 l1 (x10_1 ++ [t117]) l2_3 (l2_3.length : Int) (wrap64 (x29_1 + 1)) l0_0 a0_1 t107 t108 t111 t112) else (none)) else (some (0, t118))) = some (r1, r2) := H
      have A20 := mk0 A200
      clear A200
      by_cases c21 : (t118.length : Int) = 0
      ·rw [if_pos c21] at H
       have c21b0 : ((t118.length : Int) == 0) = true := beq_iff_eq.mpr c21
       have c21b1 : ((t118.length : Int) != 0) = false := bne_eq_false_iff_eq.mpr c21
       clear c21
       by_cases c22 : x10_1.length < 17592186044416
       ·rw [if_pos c22] at H
        have LMc22 := mk0 c22
        clear c22
        obtain ⟨y121, hy121⟩ : ∃ y_ : List Int, y_ = (x10_1 ++ [t117]) := ⟨_, rfl⟩
        replace H : (eval_Place.l0 k1 l1 y121 l2_3 (l2_3.length : Int) (wrap64 (x29_1 + 1)) l0_0 a0_1 t107 t108 t111 t112) = some (r1, r2) := by first | (rw [hy121]; with_reducible exact H) | (have H2_ := (Option.bind_some _ _).symm.trans H; rw [hy121]; with_reducible exact H2_) | (have H2_ := (Option.bind_some _ _).symm.trans H; with_reducible exact H2_) | with_reducible exact H | (rw [hy121]; exact H) | exact H
        have Ny121 := mk0 hy121
        clear hy121
        have H' := mk0 H
        clear H
        have p115 : 0 ≤ (x29_1 : Int) := of_decide_eq_true (by first | (with_reducible assumption) | assumption)
        have q115 : x29_1 < (l2_3.length : Int) := of_decide_eq_true (by first | (with_reducible assumption) | assumption)
        obtain ⟨ad115, A115_3, c115_3, e115, hx115_0, hx115_1, hx115_2, hx115_3, hl115_3, hi115_3⟩ := at_T24 HR2_3.out x29_1 p115 q115
        cases e115
        replace hx115_0 := (HB.out.cell (World.block_lt_of_cell? w _ hx115_0)).trans hx115_0
        replace hx115_1 := (HB.out.cell (World.block_lt_of_cell? w _ hx115_1)).trans hx115_1
        replace hx115_2 := (HB.out.cell (World.block_lt_of_cell? w _ hx115_2)).trans hx115_2
        replace hx115_3 := (HB.out.cell (World.block_lt_of_cell? w _ hx115_3)).trans hx115_3
        have HR115_3 := mk0 hi115_3
        have HC115_3 := mk0 hl115_3
        clear hi115_3 hl115_3
        replace p115 := eq_true p115
        replace q115 := eq_true q115
        go_wp2_with (first | ((with_reducible refine gate_dst (N := 12) rfl ?_); refine box_event ?hg (N := 12) ?hd (cs := #[.int .i64 0, .int .i64 0, .string (⟨#[]⟩ : ByteArray), .slice none 0 0]) (t := 24) ?hr ?_; (case hd => rfl); (case hg => rfl); (case hr => first | (go_simp; done) | (go_simp; rfl)); intro gb116 hg w23 hbox hb; have n0_ := mk0 (Kd.R_below (uR HO_10.out) hb); have n1_ := mk0 (Kd.V_below (Kd.V_elderB (uV HO_115001.out) gb116 (Nat.le_of_eq hg.symm)) hb); have n2_ := mk0 (blk_below (g := gb105) (o := .cells #[.slice A0_0 l0_0.length c0_0, .int .i64 a0_1] 46 (0, 0)) (uB BK105.out) hb); have n3_ := mk0 (blk_below (g := gb106) (o := .cells #[.int .i64 a2_0, .int .i64 a2_1, .string a2_2, .slice (some ad115) l2_3.length c2_3] 24 (0, 0)) (uB BK106.out) hb); have n4_ := mk0 (blk_below (g := gb114) (o := .cells #[.string t107, .slice Ao15 t108.length co15, .int .i64 t111, .int .i64 t112] 64 (0, 0)) (uB BK114.out) hb); have n5_ := mk0 (below_step (by repeat (first | (with_reducible first | exact HB.out | apply bA | apply bN | apply bD | refine bS ?_ (by assumption)) | exact HB.out)) hb); have n6_ := mk0 (hbox); have n7_ := mk0 ((by rw [hg]; exact (below_size (by repeat (first | (with_reducible first | exact HB.out | apply bA | apply bN | apply bD | refine bS ?_ (by assumption)) | exact HB.out))) : w.heap.size ≤ gb116)); have n8_ := mk0 ((by rw [hg]; exact (below_size (by repeat (first | (with_reducible first | exact HB.out | apply bA | apply bN | apply bD | refine bS ?_ (by assumption)) | exact HB.out))) : w.heap.size ≤ gb116)); have n9_ := mk0 ((by rw [hg]; exact Nat.ne_of_lt (blk_lt (g := gb105) (o := .cells #[.slice A0_0 l0_0.length c0_0, .int .i64 a0_1] 46 (0, 0)) (uB BK105.out)) : gb105 ≠ gb116)); have n10_ := mk0 ((by rw [hg]; exact Nat.ne_of_gt (blk_lt (g := gb105) (o := .cells #[.slice A0_0 l0_0.length c0_0, .int .i64 a0_1] 46 (0, 0)) (uB BK105.out)) : gb116 ≠ gb105)); have n11_ := mk0 ((by rw [hg]; exact Nat.ne_of_lt (blk_lt (g := gb106) (o := .cells #[.int .i64 a2_0, .int .i64 a2_1, .string a2_2, .slice (some ad115) l2_3.length c2_3] 24 (0, 0)) (uB BK106.out)) : gb106 ≠ gb116)); have n12_ := mk0 ((by rw [hg]; exact Nat.ne_of_gt (blk_lt (g := gb106) (o := .cells #[.int .i64 a2_0, .int .i64 a2_1, .string a2_2, .slice (some ad115) l2_3.length c2_3] 24 (0, 0)) (uB BK106.out)) : gb116 ≠ gb106)); have n13_ := mk0 ((by rw [hg]; exact Nat.ne_of_lt (blk_lt (g := gb114) (o := .cells #[.string t107, .slice Ao15 t108.length co15, .int .i64 t111, .int .i64 t112] 64 (0, 0)) (uB BK114.out)) : gb114 ≠ gb116)); have n14_ := mk0 ((by rw [hg]; exact Nat.ne_of_gt (blk_lt (g := gb114) (o := .cells #[.string t107, .slice Ao15 t108.length co15, .int .i64 t111, .int .i64 t112] 64 (0, 0)) (uB BK114.out)) : gb116 ≠ gb114)); clear HO_10; clear HO_115001; clear BK105; clear BK106; clear BK114; clear HB; have HO_10 := n0_; have HO_115001 := n1_; have BK105 := n2_; have BK106 := n3_; have BK114 := n4_; have HB := n5_; have BK116 := n6_; have GW116 := n7_; have GE116 := n8_; have NB105_116 := n9_; have NB116_105 := n10_; have NB106_116 := n11_; have NB116_106 := n12_; have NB114_116 := n13_; have NB116_114 := n14_; clear n0_ n1_ n2_ n3_ n4_ n5_ n6_ n7_ n8_ n9_ n10_ n11_ n12_ n13_ n14_; clear hb hbox hg; have hnb24 := NB116_105.out; have hnc24 := NB105_116.out; have hnb25 := NB116_106.out; have hnc25 := NB106_116.out; have hnb26 := NB116_114.out; have hnc26 := NB114_116.out; have hcz27_0 : w23.cell? ⟨gb116, 0, none⟩ = some (.int .i64 0) := (blk_cell BK116.out 0).trans rfl; have hcz27_1 : w23.cell? ⟨gb116, 1, none⟩ = some (.int .i64 0) := (blk_cell BK116.out 1).trans rfl; have hcz27_2 : w23.cell? ⟨gb116, 2, none⟩ = some (.string (⟨#[]⟩ : ByteArray)) := (blk_cell BK116.out 2).trans rfl; have hcz27_3 : w23.cell? ⟨gb116, 3, none⟩ = some (.slice none 0 0) := (blk_cell BK116.out 3).trans rfl; have hfz27_0 := blk_frozen BK116.out 0; have hfz27_1 := blk_frozen BK116.out 1; have hfz27_2 := blk_frozen BK116.out 2; have hfz27_3 := blk_frozen BK116.out 3; have hnb28 := NB105_106.out; have hnc28 := NB106_105.out; have hnb29 := NB105_114.out; have hnc29 := NB114_105.out; have hcz30_0 : w23.cell? ⟨gb105, 0, none⟩ = some (.slice A0_0 l0_0.length c0_0) := (blk_cell BK105.out 0).trans rfl; have hcz30_1 : w23.cell? ⟨gb105, 1, none⟩ = some (.int .i64 a0_1) := (blk_cell BK105.out 1).trans rfl; have hfz30_0 := blk_frozen BK105.out 0; have hfz30_1 := blk_frozen BK105.out 1) | ((with_reducible refine gate_callee (f := 14) rfl ?_); refine goesL_ (some 37) rfl rfl Tryd.func14 (by kernel_rfl) rfl #[.agg #[.slice A0_0 l0_0.length c0_0, .int .i64 a0_1], .slice A1 l1.length c1, .agg #[.int .i64 ((rd_T24 l2_3 x29_1).f0), .int .i64 ((rd_T24 l2_3 x29_1).f1), .string ((rd_T24 l2_3 x29_1).f2), .slice A115_3 ((rd_T24 l2_3 x29_1).f3).length c115_3]] rfl (by (try simp only [List.map_toArray, List.map_cons, List.map_nil]); first | done | rfl | (simp only [List.length_drop, List.length_take]; rfl)) ?_; (with_reducible refine (IHE k1 (by have := HK1.out; omega) _ _ l0_0 a0_1 _ _ l1 ((rd_T24 l2_3 x29_1).f0) ((rd_T24 l2_3 x29_1).f1) ((rd_T24 l2_3 x29_1).f2) _ _ ((rd_T24 l2_3 x29_1).f3) t117 t118 _ ?side1 ?side2 ?side3 ?side4 ?side5 ?side6 A20.out).mono ?_); (case side1 => exact Kd.C_below HR0_0.out (by repeat (first | (with_reducible first | exact HB.out | apply bA | apply bN | apply bD | refine bS ?_ (by assumption)) | exact HB.out))); (case side2 => exact HC0_0.out); (case side3 => exact Kd.C_below HR1.out (by repeat (first | (with_reducible first | exact HB.out | apply bA | apply bN | apply bD | refine bS ?_ (by assumption)) | exact HB.out))); (case side4 => exact HC1.out); (case side5 => exact Kd.C_below HR115_3.out (by repeat (first | (with_reducible first | exact HB.out | apply bA | apply bN | apply bD | refine bS ?_ (by assumption)) | exact HB.out))); (case side6 => exact HC115_3.out); rintro e w31 ⟨v119, rfl, ho0, hb⟩; refine ⟨_, rfl, ?_⟩; have n0_ := mk0 (Kd.R_below (uR (Kd.R_mono (Kd.R_far (p := ⟨gb116, 3, none⟩) (Kd.R_far (p := ⟨gb116, 2, none⟩) (Kd.R_far (p := ⟨gb116, 1, none⟩) (Kd.R_far (p := ⟨gb116, 0, none⟩) (Kd.R_types HO_10.out BK116.out (by decide)) (fun _ hk => hk.2) (.int .i64 ((rd_T24 l2_3 x29_1).f0))) (fun _ hk => hk.2) (.int .i64 ((rd_T24 l2_3 x29_1).f1))) (fun _ hk => hk.2) (.string ((rd_T24 l2_3 x29_1).f2))) (fun _ hk => hk.2) (.slice A115_3 ((rd_T24 l2_3 x29_1).f3).length c115_3)) (fun _ h_ => h_.1))) hb); have n1_ := mk0 (Kd.V_elder' (uV (Kd.V_mono (Kd.V_far (p := ⟨gb116, 3, none⟩) (Kd.V_far (p := ⟨gb116, 2, none⟩) (Kd.V_far (p := ⟨gb116, 1, none⟩) (Kd.V_far (p := ⟨gb116, 0, none⟩) (Kd.V_mono HO_115001.out (fun k_ hk => (⟨hk, hk.2⟩ : _ ∧ k_ ≠ gb116))) (fun _ hk => hk.2) (.int .i64 ((rd_T24 l2_3 x29_1).f0))) (fun _ hk => hk.2) (.int .i64 ((rd_T24 l2_3 x29_1).f1))) (fun _ hk => hk.2) (.string ((rd_T24 l2_3 x29_1).f2))) (fun _ hk => hk.2) (.slice A115_3 ((rd_T24 l2_3 x29_1).f3).length c115_3)) (fun _ h_ => h_.1))) (Kd.R_base ho0) hb); have n2_ := mk0 (Kd.R_lower ho0 (below_size (by repeat (first | (with_reducible first | exact HB.out | apply bA | apply bN | apply bD | refine bS ?_ (by assumption)) | exact HB.out)))); have n3_ := mk0 (blk_below (g := gb105) (o := .cells #[.slice A0_0 l0_0.length c0_0, .int .i64 a0_1] 46 (0, 0)) (by (with_reducible repeat (first | refine blk_drewN ?_ _ | refine blk_drew ?_ | refine blk_alloc ?_ _)); refine blk_far ?_ NB105_116.out _; (with_reducible repeat (first | refine blk_drewN ?_ _ | refine blk_drew ?_ | refine blk_alloc ?_ _)); refine blk_far ?_ NB105_116.out _; (with_reducible repeat (first | refine blk_drewN ?_ _ | refine blk_drew ?_ | refine blk_alloc ?_ _)); refine blk_far ?_ NB105_116.out _; (with_reducible repeat (first | refine blk_drewN ?_ _ | refine blk_drew ?_ | refine blk_alloc ?_ _)); refine blk_far ?_ NB105_116.out _; (with_reducible repeat (first | refine blk_drewN ?_ _ | refine blk_drew ?_ | refine blk_alloc ?_ _)); exact BK105.out) hb); have n4_ := mk0 (blk_below (g := gb106) (o := .cells #[.int .i64 a2_0, .int .i64 a2_1, .string a2_2, .slice (some ad115) l2_3.length c2_3] 24 (0, 0)) (by (with_reducible repeat (first | refine blk_drewN ?_ _ | refine blk_drew ?_ | refine blk_alloc ?_ _)); refine blk_far ?_ NB106_116.out _; (with_reducible repeat (first | refine blk_drewN ?_ _ | refine blk_drew ?_ | refine blk_alloc ?_ _)); refine blk_far ?_ NB106_116.out _; (with_reducible repeat (first | refine blk_drewN ?_ _ | refine blk_drew ?_ | refine blk_alloc ?_ _)); refine blk_far ?_ NB106_116.out _; (with_reducible repeat (first | refine blk_drewN ?_ _ | refine blk_drew ?_ | refine blk_alloc ?_ _)); refine blk_far ?_ NB106_116.out _; (with_reducible repeat (first | refine blk_drewN ?_ _ | refine blk_drew ?_ | refine blk_alloc ?_ _)); exact BK106.out) hb); have n5_ := mk0 (blk_below (g := gb114) (o := .cells #[.string t107, .slice Ao15 t108.length co15, .int .i64 t111, .int .i64 t112] 64 (0, 0)) (by (with_reducible repeat (first | refine blk_drewN ?_ _ | refine blk_drew ?_ | refine blk_alloc ?_ _)); refine blk_far ?_ NB114_116.out _; (with_reducible repeat (first | refine blk_drewN ?_ _ | refine blk_drew ?_ | refine blk_alloc ?_ _)); refine blk_far ?_ NB114_116.out _; (with_reducible repeat (first | refine blk_drewN ?_ _ | refine blk_drew ?_ | refine blk_alloc ?_ _)); refine blk_far ?_ NB114_116.out _; (with_reducible repeat (first | refine blk_drewN ?_ _ | refine blk_drew ?_ | refine blk_alloc ?_ _)); refine blk_far ?_ NB114_116.out _; (with_reducible repeat (first | refine blk_drewN ?_ _ | refine blk_drew ?_ | refine blk_alloc ?_ _)); exact BK114.out) hb); have n6_ := mk0 (blk_below (g := gb116) (o := .cells #[.int .i64 ((rd_T24 l2_3 x29_1).f0), .int .i64 ((rd_T24 l2_3 x29_1).f1), .string ((rd_T24 l2_3 x29_1).f2), .slice A115_3 ((rd_T24 l2_3 x29_1).f3).length c115_3] 24 (0, 0)) (by (with_reducible repeat (first | refine blk_drewN ?_ _ | refine blk_drew ?_ | refine blk_alloc ?_ _)); refine blk_put (cs := #[.int .i64 ((rd_T24 l2_3 x29_1).f0), .int .i64 ((rd_T24 l2_3 x29_1).f1), .string ((rd_T24 l2_3 x29_1).f2), .slice none 0 0]) ?_ 3 _ rfl; (with_reducible repeat (first | refine blk_drewN ?_ _ | refine blk_drew ?_ | refine blk_alloc ?_ _)); refine blk_put (cs := #[.int .i64 ((rd_T24 l2_3 x29_1).f0), .int .i64 ((rd_T24 l2_3 x29_1).f1), .string (⟨#[]⟩ : ByteArray), .slice none 0 0]) ?_ 2 _ rfl; (with_reducible repeat (first | refine blk_drewN ?_ _ | refine blk_drew ?_ | refine blk_alloc ?_ _)); refine blk_put (cs := #[.int .i64 ((rd_T24 l2_3 x29_1).f0), .int .i64 0, .string (⟨#[]⟩ : ByteArray), .slice none 0 0]) ?_ 1 _ rfl; (with_reducible repeat (first | refine blk_drewN ?_ _ | refine blk_drew ?_ | refine blk_alloc ?_ _)); refine blk_put (cs := #[.int .i64 0, .int .i64 0, .string (⟨#[]⟩ : ByteArray), .slice none 0 0]) ?_ 0 _ rfl; (with_reducible repeat (first | refine blk_drewN ?_ _ | refine blk_drew ?_ | refine blk_alloc ?_ _)); exact BK116.out) hb); have n7_ := mk0 (below_step (by repeat (first | (with_reducible first | exact HB.out | apply bA | apply bN | apply bD | refine bS ?_ (by assumption)) | exact HB.out)) hb); clear HO_10; clear HO_115001; clear BK105; clear BK106; clear BK114; clear BK116; clear HB; have HO_10 := n0_; have HO_115001 := n1_; have HO120 := n2_; have BK105 := n3_; have BK106 := n4_; have BK114 := n5_; have BK116 := n6_; have HB := n7_; clear n0_ n1_ n2_ n3_ n4_ n5_ n6_ n7_; (try clear hb); (try clear hb2); (try clear hk); (try clear hi); (try clear ho0); (first | (have EHO120 := cmpV_no HO120.out (by with_reducible assumption)) | (have EHO120 := cmpV_yes HO120.out (by with_reducible assumption)) | skip)) | ((with_reducible refine gate_builtin (b := .append) (xs := #[.tmp 43, .tmp 45]) rfl ?_); at_builtin; refine Kd.R_append (Kd.int .i64) (w0 := w) w.heap.size rfl (.tmp 43) (.tmp 45) 25 2 (.int .i64 0) 8 rfl Tryd.underlying25 info2 rfl (by decide) (by omega) u10 x10_1 t117 [.int .i64 t117] (fun _ => True) (fun _ => False) rfl rfl ?aP (fun _ hk => hk.elim) ?aF ?aO ?aB ?aS ?aL ?_; (case aP => exact rfl); (case aB => exact (by repeat (first | (with_reducible first | exact HB.out | apply bA | apply bN | apply bD | refine bS ?_ (by assumption)) | exact HB.out))); (case aF => exact (fun _ _ => trivial)); (case aO => exact (uR HO_10.out)); (case aS => exact (below_size (by repeat (first | (with_reducible first | exact HB.out | apply bA | apply bN | apply bD | refine bS ?_ (by assumption)) | exact HB.out)))); (case aL => have := LMc22.out; omega); intro v122 w32 ho hb hg hat; rw [← Ny121.out] at ho; have n0_ := mk0 (Kd.V_afterv (ok := (fun k_ => some k_ ≠ (v119 : Value).ownBlock ∧ k_ ≠ gb105 ∧ k_ ≠ gb106 ∧ k_ ≠ gb114 ∧ k_ ≠ gb116)) (uV (Kd.V_mono HO_115001.out (fun _ hk => ⟨⟨hk.2, ⟨hk.1.1.2.1, ⟨hk.1.1.2.2.1, ⟨hk.1.1.2.2.2, hk.1.2⟩⟩⟩⟩, hk.1.1.1⟩))) hg hat); have n1_ := mk0 (blk_grown (g := gb105) (o := .cells #[.slice A0_0 l0_0.length c0_0, .int .i64 a0_1] 46 (0, 0)) (uB BK105.out) hg (Kd.R_ne HO_10.out BK105.out (by decide))); have n2_ := mk0 (blk_grown (g := gb106) (o := .cells #[.int .i64 a2_0, .int .i64 a2_1, .string a2_2, .slice (some ad115) l2_3.length c2_3] 24 (0, 0)) (uB BK106.out) hg (Kd.R_ne HO_10.out BK106.out (by decide))); have n3_ := mk0 (blk_grown (g := gb114) (o := .cells #[.string t107, .slice Ao15 t108.length co15, .int .i64 t111, .int .i64 t112] 64 (0, 0)) (uB BK114.out) hg (Kd.R_ne HO_10.out BK114.out (by decide))); have n4_ := mk0 (blk_grown (g := gb116) (o := .cells #[.int .i64 ((rd_T24 l2_3 x29_1).f0), .int .i64 ((rd_T24 l2_3 x29_1).f1), .string ((rd_T24 l2_3 x29_1).f2), .slice A115_3 ((rd_T24 l2_3 x29_1).f3).length c115_3] 24 (0, 0)) (uB BK116.out) hg (Kd.R_ne HO_10.out BK116.out (by decide))); have n5_ := mk0 (Kd.R_over' (uR HO120.out) (Kd.R_typed (uR HO_10.out)) (by decide) hg); have n6_ := mk0 (hb); have n7_ := mk0 (ho); clear HO_115001; clear BK105; clear BK106; clear BK114; clear BK116; clear HO120; clear HB; clear HO_10; have HO_115001 := n0_; have BK105 := n1_; have BK106 := n2_; have BK114 := n3_; have BK116 := n4_; have HO120 := n5_; have HB := n6_; have HO123 := n7_; clear n0_ n1_ n2_ n3_ n4_ n5_ n6_ n7_; clear ho hb hg hat))
        go_roundg k1
        case measure => have := HK1.out; omega
        case rel => exact ⟨(y121), (wrap64 (x29_1 + 1)), (by first | rfl | (simp; done) | (simp [*]; done) | (simp [bne_nil_, beq_nil_]; done)), H', ⟨by have := HK1.out; omega⟩, ⟨uR HO123.out⟩, ⟨uV (Kd.V_mono HO_115001.out (fun _ hk => ⟨hk.2, ⟨hk.1.2.1, ⟨hk.1.2.2.1, hk.1.2.2.2.1⟩⟩⟩))⟩, ⟨uB BK105.out⟩, ⟨uB BK106.out⟩, ⟨uB BK114.out⟩, ⟨by repeat (first | (with_reducible first | exact HB.out | apply bA | apply bN | apply bD | refine bS ?_ (by assumption)) | exact HB.out)⟩⟩
       ·rw [if_neg c22] at H
        exact absurd H (by simp)
      ·rw [if_neg c21] at H
       have c21b0 : ((t118.length : Int) == 0) = false := beq_eq_false_iff_ne.mpr c21
       have c21b1 : ((t118.length : Int) != 0) = true := bne_iff_ne.mpr c21
       have c21b2 : ¬ (t118 = []) := fun h_ => c21 (by rw [h_]; rfl)
       simp only [Option.some.injEq, Prod.mk.injEq] at H
       obtain ⟨rfl, rfl⟩ := H
       have p115 : 0 ≤ (x29_1 : Int) := of_decide_eq_true (by first | (with_reducible assumption) | assumption)
       have q115 : x29_1 < (l2_3.length : Int) := of_decide_eq_true (by first | (with_reducible assumption) | assumption)
       obtain ⟨ad115, A115_3, c115_3, e115, hx115_0, hx115_1, hx115_2, hx115_3, hl115_3, hi115_3⟩ := at_T24 HR2_3.out x29_1 p115 q115
       cases e115
       replace hx115_0 := (HB.out.cell (World.block_lt_of_cell? w _ hx115_0)).trans hx115_0
       replace hx115_1 := (HB.out.cell (World.block_lt_of_cell? w _ hx115_1)).trans hx115_1
       replace hx115_2 := (HB.out.cell (World.block_lt_of_cell? w _ hx115_2)).trans hx115_2
       replace hx115_3 := (HB.out.cell (World.block_lt_of_cell? w _ hx115_3)).trans hx115_3
       have HR115_3 := mk0 hi115_3
       have HC115_3 := mk0 hl115_3
       clear hi115_3 hl115_3
       replace p115 := eq_true p115
       replace q115 := eq_true q115
       go_wp2_with (first | ((with_reducible refine gate_dst (N := 12) rfl ?_); refine box_event ?hg (N := 12) ?hd (cs := #[.int .i64 0, .int .i64 0, .string (⟨#[]⟩ : ByteArray), .slice none 0 0]) (t := 24) ?hr ?_; (case hd => rfl); (case hg => rfl); (case hr => first | (go_simp; done) | (go_simp; rfl)); intro gb116 hg w33 hbox hb; have n0_ := mk0 (Kd.R_below (uR HO_10.out) hb); have n1_ := mk0 (Kd.V_below (Kd.V_elderB (uV HO_115001.out) gb116 (Nat.le_of_eq hg.symm)) hb); have n2_ := mk0 (blk_below (g := gb105) (o := .cells #[.slice A0_0 l0_0.length c0_0, .int .i64 a0_1] 46 (0, 0)) (uB BK105.out) hb); have n3_ := mk0 (blk_below (g := gb106) (o := .cells #[.int .i64 a2_0, .int .i64 a2_1, .string a2_2, .slice (some ad115) l2_3.length c2_3] 24 (0, 0)) (uB BK106.out) hb); have n4_ := mk0 (blk_below (g := gb114) (o := .cells #[.string t107, .slice Ao15 t108.length co15, .int .i64 t111, .int .i64 t112] 64 (0, 0)) (uB BK114.out) hb); have n5_ := mk0 (below_step (by repeat (first | (with_reducible first | exact HB.out | apply bA | apply bN | apply bD | refine bS ?_ (by assumption)) | exact HB.out)) hb); have n6_ := mk0 (hbox); have n7_ := mk0 ((by rw [hg]; exact (below_size (by repeat (first | (with_reducible first | exact HB.out | apply bA | apply bN | apply bD | refine bS ?_ (by assumption)) | exact HB.out))) : w.heap.size ≤ gb116)); have n8_ := mk0 ((by rw [hg]; exact (below_size (by repeat (first | (with_reducible first | exact HB.out | apply bA | apply bN | apply bD | refine bS ?_ (by assumption)) | exact HB.out))) : w.heap.size ≤ gb116)); have n9_ := mk0 ((by rw [hg]; exact Nat.ne_of_lt (blk_lt (g := gb105) (o := .cells #[.slice A0_0 l0_0.length c0_0, .int .i64 a0_1] 46 (0, 0)) (uB BK105.out)) : gb105 ≠ gb116)); have n10_ := mk0 ((by rw [hg]; exact Nat.ne_of_gt (blk_lt (g := gb105) (o := .cells #[.slice A0_0 l0_0.length c0_0, .int .i64 a0_1] 46 (0, 0)) (uB BK105.out)) : gb116 ≠ gb105)); have n11_ := mk0 ((by rw [hg]; exact Nat.ne_of_lt (blk_lt (g := gb106) (o := .cells #[.int .i64 a2_0, .int .i64 a2_1, .string a2_2, .slice (some ad115) l2_3.length c2_3] 24 (0, 0)) (uB BK106.out)) : gb106 ≠ gb116)); have n12_ := mk0 ((by rw [hg]; exact Nat.ne_of_gt (blk_lt (g := gb106) (o := .cells #[.int .i64 a2_0, .int .i64 a2_1, .string a2_2, .slice (some ad115) l2_3.length c2_3] 24 (0, 0)) (uB BK106.out)) : gb116 ≠ gb106)); have n13_ := mk0 ((by rw [hg]; exact Nat.ne_of_lt (blk_lt (g := gb114) (o := .cells #[.string t107, .slice Ao15 t108.length co15, .int .i64 t111, .int .i64 t112] 64 (0, 0)) (uB BK114.out)) : gb114 ≠ gb116)); have n14_ := mk0 ((by rw [hg]; exact Nat.ne_of_gt (blk_lt (g := gb114) (o := .cells #[.string t107, .slice Ao15 t108.length co15, .int .i64 t111, .int .i64 t112] 64 (0, 0)) (uB BK114.out)) : gb116 ≠ gb114)); clear HO_10; clear HO_115001; clear BK105; clear BK106; clear BK114; clear HB; have HO_10 := n0_; have HO_115001 := n1_; have BK105 := n2_; have BK106 := n3_; have BK114 := n4_; have HB := n5_; have BK116 := n6_; have GW116 := n7_; have GE116 := n8_; have NB105_116 := n9_; have NB116_105 := n10_; have NB106_116 := n11_; have NB116_106 := n12_; have NB114_116 := n13_; have NB116_114 := n14_; clear n0_ n1_ n2_ n3_ n4_ n5_ n6_ n7_ n8_ n9_ n10_ n11_ n12_ n13_ n14_; clear hb hbox hg; have hnb34 := NB116_105.out; have hnc34 := NB105_116.out; have hnb35 := NB116_106.out; have hnc35 := NB106_116.out; have hnb36 := NB116_114.out; have hnc36 := NB114_116.out; have hcz37_0 : w33.cell? ⟨gb116, 0, none⟩ = some (.int .i64 0) := (blk_cell BK116.out 0).trans rfl; have hcz37_1 : w33.cell? ⟨gb116, 1, none⟩ = some (.int .i64 0) := (blk_cell BK116.out 1).trans rfl; have hcz37_2 : w33.cell? ⟨gb116, 2, none⟩ = some (.string (⟨#[]⟩ : ByteArray)) := (blk_cell BK116.out 2).trans rfl; have hcz37_3 : w33.cell? ⟨gb116, 3, none⟩ = some (.slice none 0 0) := (blk_cell BK116.out 3).trans rfl; have hfz37_0 := blk_frozen BK116.out 0; have hfz37_1 := blk_frozen BK116.out 1; have hfz37_2 := blk_frozen BK116.out 2; have hfz37_3 := blk_frozen BK116.out 3; have hnb38 := NB105_106.out; have hnc38 := NB106_105.out; have hnb39 := NB105_114.out; have hnc39 := NB114_105.out; have hcz40_0 : w33.cell? ⟨gb105, 0, none⟩ = some (.slice A0_0 l0_0.length c0_0) := (blk_cell BK105.out 0).trans rfl; have hcz40_1 : w33.cell? ⟨gb105, 1, none⟩ = some (.int .i64 a0_1) := (blk_cell BK105.out 1).trans rfl; have hfz40_0 := blk_frozen BK105.out 0; have hfz40_1 := blk_frozen BK105.out 1) | ((with_reducible refine gate_callee (f := 14) rfl ?_); refine goesL_ (some 37) rfl rfl Tryd.func14 (by kernel_rfl) rfl #[.agg #[.slice A0_0 l0_0.length c0_0, .int .i64 a0_1], .slice A1 l1.length c1, .agg #[.int .i64 ((rd_T24 l2_3 x29_1).f0), .int .i64 ((rd_T24 l2_3 x29_1).f1), .string ((rd_T24 l2_3 x29_1).f2), .slice A115_3 ((rd_T24 l2_3 x29_1).f3).length c115_3]] rfl (by (try simp only [List.map_toArray, List.map_cons, List.map_nil]); first | done | rfl | (simp only [List.length_drop, List.length_take]; rfl)) ?_; (with_reducible refine (IHE k1 (by have := HK1.out; omega) _ _ l0_0 a0_1 _ _ l1 ((rd_T24 l2_3 x29_1).f0) ((rd_T24 l2_3 x29_1).f1) ((rd_T24 l2_3 x29_1).f2) _ _ ((rd_T24 l2_3 x29_1).f3) t117 t118 _ ?side1 ?side2 ?side3 ?side4 ?side5 ?side6 A20.out).mono ?_); (case side1 => exact Kd.C_below HR0_0.out (by repeat (first | (with_reducible first | exact HB.out | apply bA | apply bN | apply bD | refine bS ?_ (by assumption)) | exact HB.out))); (case side2 => exact HC0_0.out); (case side3 => exact Kd.C_below HR1.out (by repeat (first | (with_reducible first | exact HB.out | apply bA | apply bN | apply bD | refine bS ?_ (by assumption)) | exact HB.out))); (case side4 => exact HC1.out); (case side5 => exact Kd.C_below HR115_3.out (by repeat (first | (with_reducible first | exact HB.out | apply bA | apply bN | apply bD | refine bS ?_ (by assumption)) | exact HB.out))); (case side6 => exact HC115_3.out); rintro e w41 ⟨v119, rfl, ho0, hb⟩; refine ⟨_, rfl, ?_⟩; have n0_ := mk0 (Kd.R_below (uR (Kd.R_mono (Kd.R_far (p := ⟨gb116, 3, none⟩) (Kd.R_far (p := ⟨gb116, 2, none⟩) (Kd.R_far (p := ⟨gb116, 1, none⟩) (Kd.R_far (p := ⟨gb116, 0, none⟩) (Kd.R_types HO_10.out BK116.out (by decide)) (fun _ hk => hk.2) (.int .i64 ((rd_T24 l2_3 x29_1).f0))) (fun _ hk => hk.2) (.int .i64 ((rd_T24 l2_3 x29_1).f1))) (fun _ hk => hk.2) (.string ((rd_T24 l2_3 x29_1).f2))) (fun _ hk => hk.2) (.slice A115_3 ((rd_T24 l2_3 x29_1).f3).length c115_3)) (fun _ h_ => h_.1))) hb); have n1_ := mk0 (Kd.V_elder' (uV (Kd.V_mono (Kd.V_far (p := ⟨gb116, 3, none⟩) (Kd.V_far (p := ⟨gb116, 2, none⟩) (Kd.V_far (p := ⟨gb116, 1, none⟩) (Kd.V_far (p := ⟨gb116, 0, none⟩) (Kd.V_mono HO_115001.out (fun k_ hk => (⟨hk, hk.2⟩ : _ ∧ k_ ≠ gb116))) (fun _ hk => hk.2) (.int .i64 ((rd_T24 l2_3 x29_1).f0))) (fun _ hk => hk.2) (.int .i64 ((rd_T24 l2_3 x29_1).f1))) (fun _ hk => hk.2) (.string ((rd_T24 l2_3 x29_1).f2))) (fun _ hk => hk.2) (.slice A115_3 ((rd_T24 l2_3 x29_1).f3).length c115_3)) (fun _ h_ => h_.1))) (Kd.R_base ho0) hb); have n2_ := mk0 (Kd.R_lower ho0 (below_size (by repeat (first | (with_reducible first | exact HB.out | apply bA | apply bN | apply bD | refine bS ?_ (by assumption)) | exact HB.out)))); have n3_ := mk0 (blk_below (g := gb105) (o := .cells #[.slice A0_0 l0_0.length c0_0, .int .i64 a0_1] 46 (0, 0)) (by (with_reducible repeat (first | refine blk_drewN ?_ _ | refine blk_drew ?_ | refine blk_alloc ?_ _)); refine blk_far ?_ NB105_116.out _; (with_reducible repeat (first | refine blk_drewN ?_ _ | refine blk_drew ?_ | refine blk_alloc ?_ _)); refine blk_far ?_ NB105_116.out _; (with_reducible repeat (first | refine blk_drewN ?_ _ | refine blk_drew ?_ | refine blk_alloc ?_ _)); refine blk_far ?_ NB105_116.out _; (with_reducible repeat (first | refine blk_drewN ?_ _ | refine blk_drew ?_ | refine blk_alloc ?_ _)); refine blk_far ?_ NB105_116.out _; (with_reducible repeat (first | refine blk_drewN ?_ _ | refine blk_drew ?_ | refine blk_alloc ?_ _)); exact BK105.out) hb); have n4_ := mk0 (blk_below (g := gb106) (o := .cells #[.int .i64 a2_0, .int .i64 a2_1, .string a2_2, .slice (some ad115) l2_3.length c2_3] 24 (0, 0)) (by (with_reducible repeat (first | refine blk_drewN ?_ _ | refine blk_drew ?_ | refine blk_alloc ?_ _)); refine blk_far ?_ NB106_116.out _; (with_reducible repeat (first | refine blk_drewN ?_ _ | refine blk_drew ?_ | refine blk_alloc ?_ _)); refine blk_far ?_ NB106_116.out _; (with_reducible repeat (first | refine blk_drewN ?_ _ | refine blk_drew ?_ | refine blk_alloc ?_ _)); refine blk_far ?_ NB106_116.out _; (with_reducible repeat (first | refine blk_drewN ?_ _ | refine blk_drew ?_ | refine blk_alloc ?_ _)); refine blk_far ?_ NB106_116.out _; (with_reducible repeat (first | refine blk_drewN ?_ _ | refine blk_drew ?_ | refine blk_alloc ?_ _)); exact BK106.out) hb); have n5_ := mk0 (blk_below (g := gb114) (o := .cells #[.string t107, .slice Ao15 t108.length co15, .int .i64 t111, .int .i64 t112] 64 (0, 0)) (by (with_reducible repeat (first | refine blk_drewN ?_ _ | refine blk_drew ?_ | refine blk_alloc ?_ _)); refine blk_far ?_ NB114_116.out _; (with_reducible repeat (first | refine blk_drewN ?_ _ | refine blk_drew ?_ | refine blk_alloc ?_ _)); refine blk_far ?_ NB114_116.out _; (with_reducible repeat (first | refine blk_drewN ?_ _ | refine blk_drew ?_ | refine blk_alloc ?_ _)); refine blk_far ?_ NB114_116.out _; (with_reducible repeat (first | refine blk_drewN ?_ _ | refine blk_drew ?_ | refine blk_alloc ?_ _)); refine blk_far ?_ NB114_116.out _; (with_reducible repeat (first | refine blk_drewN ?_ _ | refine blk_drew ?_ | refine blk_alloc ?_ _)); exact BK114.out) hb); have n6_ := mk0 (blk_below (g := gb116) (o := .cells #[.int .i64 ((rd_T24 l2_3 x29_1).f0), .int .i64 ((rd_T24 l2_3 x29_1).f1), .string ((rd_T24 l2_3 x29_1).f2), .slice A115_3 ((rd_T24 l2_3 x29_1).f3).length c115_3] 24 (0, 0)) (by (with_reducible repeat (first | refine blk_drewN ?_ _ | refine blk_drew ?_ | refine blk_alloc ?_ _)); refine blk_put (cs := #[.int .i64 ((rd_T24 l2_3 x29_1).f0), .int .i64 ((rd_T24 l2_3 x29_1).f1), .string ((rd_T24 l2_3 x29_1).f2), .slice none 0 0]) ?_ 3 _ rfl; (with_reducible repeat (first | refine blk_drewN ?_ _ | refine blk_drew ?_ | refine blk_alloc ?_ _)); refine blk_put (cs := #[.int .i64 ((rd_T24 l2_3 x29_1).f0), .int .i64 ((rd_T24 l2_3 x29_1).f1), .string (⟨#[]⟩ : ByteArray), .slice none 0 0]) ?_ 2 _ rfl; (with_reducible repeat (first | refine blk_drewN ?_ _ | refine blk_drew ?_ | refine blk_alloc ?_ _)); refine blk_put (cs := #[.int .i64 ((rd_T24 l2_3 x29_1).f0), .int .i64 0, .string (⟨#[]⟩ : ByteArray), .slice none 0 0]) ?_ 1 _ rfl; (with_reducible repeat (first | refine blk_drewN ?_ _ | refine blk_drew ?_ | refine blk_alloc ?_ _)); refine blk_put (cs := #[.int .i64 0, .int .i64 0, .string (⟨#[]⟩ : ByteArray), .slice none 0 0]) ?_ 0 _ rfl; (with_reducible repeat (first | refine blk_drewN ?_ _ | refine blk_drew ?_ | refine blk_alloc ?_ _)); exact BK116.out) hb); have n7_ := mk0 (below_step (by repeat (first | (with_reducible first | exact HB.out | apply bA | apply bN | apply bD | refine bS ?_ (by assumption)) | exact HB.out)) hb); clear HO_10; clear HO_115001; clear BK105; clear BK106; clear BK114; clear BK116; clear HB; have HO_10 := n0_; have HO_115001 := n1_; have HO120 := n2_; have BK105 := n3_; have BK106 := n4_; have BK114 := n5_; have BK116 := n6_; have HB := n7_; clear n0_ n1_ n2_ n3_ n4_ n5_ n6_ n7_; (try clear hb); (try clear hb2); (try clear hk); (try clear hi); (try clear ho0); (first | (have EHO120 := cmpV_no HO120.out (by with_reducible assumption)) | (have EHO120 := cmpV_yes HO120.out (by with_reducible assumption)) | skip)))
       go_ret2
       exact ⟨(v119), by first | rfl | (simp [errW_none, errW_some] <;> rfl) | (simp [*, errW_none, errW_some] <;> rfl), uR HO120.out, by repeat (first | (with_reducible first | exact HB.out | apply bA | apply bN | apply bD | refine bS ?_ (by assumption)) | exact HB.out)⟩
     ·rw [if_neg c19] at H
      exact absurd H (by simp)
    ·rw [if_neg c18] at H
     exact absurd H (by simp)
   ·rw [if_neg c17] at H
    have c17b0 : decide (x29_1 < (l2_3.length : Int)) = false := decide_eq_false c17
    clear c17
    have H' := mk0 H
    clear H
    have hnb42 := NB114_105.out
    have hnc42 := NB105_114.out
    have hnb43 := NB114_106.out
    have hnc43 := NB106_114.out
    have hcz44_0 : wr.cell? ⟨gb114, 0, none⟩ = some (.string t107) := (blk_cell BK114.out 0).trans rfl
    have hcz44_1 : wr.cell? ⟨gb114, 1, none⟩ = some (.slice Ao15 t108.length co15) := (blk_cell BK114.out 1).trans rfl
    have hcz44_2 : wr.cell? ⟨gb114, 2, none⟩ = some (.int .i64 t111) := (blk_cell BK114.out 2).trans rfl
    have hcz44_3 : wr.cell? ⟨gb114, 3, none⟩ = some (.int .i64 t112) := (blk_cell BK114.out 3).trans rfl
    have hfz44_0 := blk_frozen BK114.out 0
    have hfz44_1 := blk_frozen BK114.out 1
    have hfz44_2 := blk_frozen BK114.out 2
    have hfz44_3 := blk_frozen BK114.out 3
    obtain ⟨Ao45, co45, eo45⟩ := Kd.R_slice HO_10.out
    subst eo45
    go_wp2
    go_loopg [15, 16, 52] k1 (fun kq v15 v16 v52 w' => ∃ (x15_2 : Int) (x16_2 : Int) (x52_2 : Int), v15 = .int .i64 x15_2 ∧ v16 = .int .i64 x16_2 ∧ v52 = .int .i64 x52_2 ∧ Aside0 (eval_Place.l1 kq x15_2 x16_2 x10_1 (x10_1.length : Int) x52_2 t107 t108 t111 t112 = some (r1, r2)) ∧ Aside0 (kq ≤ k1) ∧ Aside0 (Kd.R (Kd.int .i64) 2 w' w.heap.size (fun _ => True) (.slice Ao45 x10_1.length co45) x10_1) ∧ Aside0 (Kd.V (Kd.int .i64) 2 w' w.heap.size (fun k_ => some k_ ≠ ((.slice Ao45 x10_1.length co45) : Value).ownBlock ∧ k_ ≠ gb105 ∧ k_ ≠ gb106 ∧ k_ ≠ gb114) (.slice Ao15 t108.length co15) t108) ∧ Aside0 (w'.heap[gb105]? = some (.cells #[(.slice A0_0 l0_0.length c0_0), .int .i64 a0_1] 46 (0, 0))) ∧ Aside0 (w'.heap[gb106]? = some (.cells #[.int .i64 a2_0, .int .i64 a2_1, .string a2_2, (.slice A2_3 l2_3.length c2_3)] 24 (0, 0))) ∧ Aside0 (w'.heap[gb114]? = some (.cells #[.string t107, (.slice Ao15 t108.length co15), .int .i64 t111, .int .i64 t112] 64 (0, 0))) ∧ Aside0 (Below w.heap.size w w'))
    case atStart => exact ⟨(t111), (1), (0), (by first | rfl | (simp; done) | (simp [*]; done) | (simp [bne_nil_, beq_nil_]; done)), (by first | rfl | (simp; done) | (simp [*]; done) | (simp [bne_nil_, beq_nil_]; done)), (by first | rfl | (simp; done) | (simp [*]; done) | (simp [bne_nil_, beq_nil_]; done)), H', ⟨Nat.le_refl _⟩, ⟨uR HO_10.out⟩, ⟨uV HO_115001.out⟩, ⟨uB BK105.out⟩, ⟨uB BK106.out⟩, ⟨uB BK114.out⟩, ⟨by repeat (first | (with_reducible first | exact HB.out | apply bA | apply bN | apply bD | refine bS ?_ (by assumption)) | exact HB.out)⟩⟩
    case round =>
     clear H'
     try clear c1
     try clear p1
     try clear q1
     try clear hx1
     try clear c2
     try clear p2
     try clear c3
     try clear c4
     try clear p6
     try clear c7
     try clear c11
     try clear p11
     try clear q11
     try clear hx11
     try clear c12
     try clear c13
     try clear c14
     try clear c17
     try clear c17b0
     try clear c18
     try clear c18b0
     try clear c19
     try clear c19b0
     try clear c21
     try clear c21b0
     try clear c21b1
     try clear c21b2
     try clear c22
     try clear c24
     try clear c25
     try clear c26
     try clear c28
     try clear c29
     try clear c34
     try clear c35
     try clear c36
     try clear c38
     try clear c39
     try clear c42
     try clear c43
     try clear hcz14_0
     try clear hcz14_1
     try clear hcz14_2
     try clear hcz14_3
     try clear hcz16_0
     try clear hcz16_1
     try clear hcz16_2
     try clear hcz16_3
     try clear hcz27_0
     try clear hcz27_1
     try clear hcz27_2
     try clear hcz27_3
     try clear hcz30_0
     try clear hcz30_1
     try clear hcz37_0
     try clear hcz37_1
     try clear hcz37_2
     try clear hcz37_3
     try clear hcz40_0
     try clear hcz40_1
     try clear hcz44_0
     try clear hcz44_1
     try clear hcz44_2
     try clear hcz44_3
     try clear hcz8_0
     try clear hcz8_1
     try clear hcz9_0
     try clear hcz9_1
     try clear hcz9_2
     try clear hcz9_3
     try clear hfz14_0
     try clear hfz14_1
     try clear hfz14_2
     try clear hfz14_3
     try clear hfz16_0
     try clear hfz16_1
     try clear hfz16_2
     try clear hfz16_3
     try clear hfz27_0
     try clear hfz27_1
     try clear hfz27_2
     try clear hfz27_3
     try clear hfz30_0
     try clear hfz30_1
     try clear hfz37_0
     try clear hfz37_1
     try clear hfz37_2
     try clear hfz37_3
     try clear hfz40_0
     try clear hfz40_1
     try clear hfz44_0
     try clear hfz44_1
     try clear hfz44_2
     try clear hfz44_3
     try clear hfz8_0
     try clear hfz8_1
     try clear hfz9_0
     try clear hfz9_1
     try clear hfz9_2
     try clear hfz9_3
     try clear hx115_0
     try clear hx115_1
     try clear hx115_2
     try clear hx115_3
     try clear p115
     try clear p2
     try clear q115
     obtain ⟨x15_2, x16_2, x52_2, rfl, rfl, rfl, HA, HK2, HO_50, HO_115001, BK105, BK106, BK114, HB⟩ := hrel
     cases gk with
     | zero => exact absurd HA.out (by simp [eval_Place.l1])
     | succ k2 =>
      have H := HA.out
      clear HA
      simp only [eval_Place.l1] at H
      by_cases c46 : x52_2 < (x10_1.length : Int)
      ·rw [if_pos c46] at H
       have c46b0 : decide (x52_2 < (x10_1.length : Int)) = true := decide_eq_true c46
       clear c46
       by_cases c47 : 0 ≤ x52_2
       ·rw [if_pos c47] at H
        have c47b0 : decide (0 ≤ x52_2) = true := decide_eq_true c47
        clear c47
        by_cases c48 : x52_2 < (x10_1.length : Int)
        ·rw [if_pos c48] at H
         have c48b0 : decide (x52_2 < (x10_1.length : Int)) = true := decide_eq_true c48
         clear c48
         by_cases c49 : (rd x10_1 x52_2) < 1
         ·rw [if_pos c49] at H
          have c49b0 : decide ((rd x10_1 x52_2) < 1) = true := decide_eq_true c49
          clear c49
          simp only [Option.some.injEq, Prod.mk.injEq] at H
          obtain ⟨rfl, rfl⟩ := H
          have p124 : 0 ≤ (x52_2 : Int) := of_decide_eq_true (by first | (with_reducible assumption) | assumption)
          have q124 : x52_2 < (x10_1.length : Int) := of_decide_eq_true (by first | (with_reducible assumption) | assumption)
          obtain ⟨ad124, e124, hx124_0⟩ := Kd.at_int (Kd.R_reads' HO_50.out).2.2 x52_2 p124 q124
          cases e124
          replace p124 := eq_true p124
          replace q124 := eq_true q124
          go_wp2
          go_ret2
          exact ⟨.slice (some ⟨_, 0, none⟩) 1 1, rfl, Kd.R_lower (errR_new _ (⟨(⟨#[115, 117, 98, 115, 99, 114, 105, 112, 116]⟩ : ByteArray), x52_2, some 14⟩ : Flt) _) (below_size (by repeat (first | (with_reducible first | exact HB.out | apply bA | apply bN | apply bD | refine bS ?_ (by assumption)) | exact HB.out))), by repeat (first | (with_reducible first | exact HB.out | apply bA | apply bN | apply bD | refine bS ?_ (by assumption)) | exact HB.out)⟩
         ·rw [if_neg c49] at H
          have c49b0 : decide ((rd x10_1 x52_2) < 1) = false := decide_eq_false c49
          clear c49
          by_cases c50 : x52_2 < (t108.length : Int)
          ·rw [if_pos c50] at H
           have c50b0 : decide (x52_2 < (t108.length : Int)) = true := decide_eq_true c50
           clear c50
           by_cases c51 : (rd x10_1 x52_2) > (rd t108 x52_2)
           ·rw [if_pos c51] at H
            have c51b0 : decide ((rd t108 x52_2) < (rd x10_1 x52_2)) = true := decide_eq_true c51
            clear c51
            simp only [Option.some.injEq, Prod.mk.injEq] at H
            obtain ⟨rfl, rfl⟩ := H
            have p124 : 0 ≤ (x52_2 : Int) := of_decide_eq_true (by first | (with_reducible assumption) | assumption)
            have q124 : x52_2 < (x10_1.length : Int) := of_decide_eq_true (by first | (with_reducible assumption) | assumption)
            obtain ⟨ad124, e124, hx124_0⟩ := Kd.at_int (Kd.R_reads' HO_50.out).2.2 x52_2 p124 q124
            cases e124
            replace p124 := eq_true p124
            replace q124 := eq_true q124
            have hnb52 := NB114_105.out
            have hnc52 := NB105_114.out
            have hnb53 := NB114_106.out
            have hnc53 := NB106_114.out
            have hcz54_0 : wr.cell? ⟨gb114, 0, none⟩ = some (.string t107) := (blk_cell BK114.out 0).trans rfl
            have hcz54_1 : wr.cell? ⟨gb114, 1, none⟩ = some (.slice Ao15 t108.length co15) := (blk_cell BK114.out 1).trans rfl
            have hcz54_2 : wr.cell? ⟨gb114, 2, none⟩ = some (.int .i64 t111) := (blk_cell BK114.out 2).trans rfl
            have hcz54_3 : wr.cell? ⟨gb114, 3, none⟩ = some (.int .i64 t112) := (blk_cell BK114.out 3).trans rfl
            have hfz54_0 := blk_frozen BK114.out 0
            have hfz54_1 := blk_frozen BK114.out 1
            have hfz54_2 := blk_frozen BK114.out 2
            have hfz54_3 := blk_frozen BK114.out 3
            have p125 : 0 ≤ (x52_2 : Int) := of_decide_eq_true (by first | (with_reducible assumption) | assumption)
            have q125 : x52_2 < (t108.length : Int) := of_decide_eq_true (by first | (with_reducible assumption) | assumption)
            obtain ⟨ad125, e125, hx125_0⟩ := Kd.at_int (Kd.V_reads' HO_115001.out).2.2 x52_2 p125 q125
            cases e125
            replace p125 := eq_true p125
            replace q125 := eq_true q125
            go_wp2
            go_ret2
            exact ⟨.slice (some ⟨_, 0, none⟩) 1 1, rfl, Kd.R_lower (errR_new _ (⟨(⟨#[115, 117, 98, 115, 99, 114, 105, 112, 116]⟩ : ByteArray), x52_2, some 14⟩ : Flt) _) (below_size (by repeat (first | (with_reducible first | exact HB.out | apply bA | apply bN | apply bD | refine bS ?_ (by assumption)) | exact HB.out))), by repeat (first | (with_reducible first | exact HB.out | apply bA | apply bN | apply bD | refine bS ?_ (by assumption)) | exact HB.out)⟩
           ·rw [if_neg c51] at H
            have c51b0 : decide ((rd t108 x52_2) < (rd x10_1 x52_2)) = false := decide_eq_false c51
            clear c51
            have H' := mk0 H
            clear H
            have p124 : 0 ≤ (x52_2 : Int) := of_decide_eq_true (by first | (with_reducible assumption) | assumption)
            have q124 : x52_2 < (x10_1.length : Int) := of_decide_eq_true (by first | (with_reducible assumption) | assumption)
            obtain ⟨ad124, e124, hx124_0⟩ := Kd.at_int (Kd.R_reads' HO_50.out).2.2 x52_2 p124 q124
            cases e124
            replace p124 := eq_true p124
            replace q124 := eq_true q124
            have hnb55 := NB114_105.out
            have hnc55 := NB105_114.out
            have hnb56 := NB114_106.out
            have hnc56 := NB106_114.out
            have hcz57_0 : wr.cell? ⟨gb114, 0, none⟩ = some (.string t107) := (blk_cell BK114.out 0).trans rfl
            have hcz57_1 : wr.cell? ⟨gb114, 1, none⟩ = some (.slice Ao15 t108.length co15) := (blk_cell BK114.out 1).trans rfl
            have hcz57_2 : wr.cell? ⟨gb114, 2, none⟩ = some (.int .i64 t111) := (blk_cell BK114.out 2).trans rfl
            have hcz57_3 : wr.cell? ⟨gb114, 3, none⟩ = some (.int .i64 t112) := (blk_cell BK114.out 3).trans rfl
            have hfz57_0 := blk_frozen BK114.out 0
            have hfz57_1 := blk_frozen BK114.out 1
            have hfz57_2 := blk_frozen BK114.out 2
            have hfz57_3 := blk_frozen BK114.out 3
            have p125 : 0 ≤ (x52_2 : Int) := of_decide_eq_true (by first | (with_reducible assumption) | assumption)
            have q125 : x52_2 < (t108.length : Int) := of_decide_eq_true (by first | (with_reducible assumption) | assumption)
            obtain ⟨ad125, e125, hx125_0⟩ := Kd.at_int (Kd.V_reads' HO_115001.out).2.2 x52_2 p125 q125
            cases e125
            replace p125 := eq_true p125
            replace q125 := eq_true q125
            have p126 : 0 ≤ (x52_2 : Int) := of_decide_eq_true (by first | (with_reducible assumption) | assumption)
            have q126 : x52_2 < (t108.length : Int) := of_decide_eq_true (by first | (with_reducible assumption) | assumption)
            obtain ⟨ad126, e126, hx126_0⟩ := Kd.at_int (Kd.V_reads' HO_115001.out).2.2 x52_2 p126 q126
            obtain rfl : ad125 = ad126 := (by injection e126)
            replace p126 := eq_true p126
            replace q126 := eq_true q126
            go_wp2
            go_roundg k2
            case measure => have := HK1.out; have := HK2.out; omega
            case rel => exact ⟨(wrap64 (x15_2 + (wrap64 ((wrap64 ((rd x10_1 x52_2) - 1)) * x16_2)))), (wrap64 (x16_2 * (rd t108 x52_2))), (wrap64 (x52_2 + 1)), (by first | rfl | (simp; done) | (simp [*]; done) | (simp [bne_nil_, beq_nil_]; done)), (by first | rfl | (simp; done) | (simp [*]; done) | (simp [bne_nil_, beq_nil_]; done)), (by first | rfl | (simp; done) | (simp [*]; done) | (simp [bne_nil_, beq_nil_]; done)), H', ⟨by have := HK1.out; have := HK2.out; omega⟩, ⟨uR HO_50.out⟩, ⟨uV HO_115001.out⟩, ⟨uB BK105.out⟩, ⟨uB BK106.out⟩, ⟨uB BK114.out⟩, ⟨by repeat (first | (with_reducible first | exact HB.out | apply bA | apply bN | apply bD | refine bS ?_ (by assumption)) | exact HB.out)⟩⟩
          ·rw [if_neg c50] at H
           exact absurd H (by simp)
        ·rw [if_neg c48] at H
         exact absurd H (by simp)
       ·rw [if_neg c47] at H
        exact absurd H (by simp)
      ·rw [if_neg c46] at H
       have c46b0 : decide (x52_2 < (x10_1.length : Int)) = false := decide_eq_false c46
       clear c46
       simp only [Option.some.injEq, Prod.mk.injEq] at H
       obtain ⟨rfl, rfl⟩ := H
       go_wp2
       go_ret2
       exact ⟨(.slice none 0 0), by first | rfl | (simp [errW_none, errW_some] <;> rfl) | (simp [*, errW_none, errW_some] <;> rfl), by first | exact Kd.R_nil _ _ _ _ _ | exact Kd.N_nil _ _ _ _ _ | exact Kd.V_nil _ _ _ _ _ | exact Kd.Q_nil _ _ _ _ _ | exact Kd.S_nil _ _ _ _ _, by repeat (first | (with_reducible first | exact HB.out | apply bA | apply bN | apply bD | refine bS ?_ (by assumption)) | exact HB.out)⟩
set_option maxHeartbeats 8000000 in
set_option maxRecDepth 100000 in
theorem eval_Eval.calls (k : Nat) : ∀ (A0_0 : Option Addr) (c0_0 : Nat) (l0_0 : List (S64)) (a0_1 : Int) (A1 : Option Addr) (c1 : Nat) (l1 : List Int) (a2_0 : Int) (a2_1 : Int) (a2_2 : ByteArray) (A2_3 : Option Addr) (c2_3 : Nat) (l2_3 : List (S24)) (r1 : Int) (r2 : List (Flt)) (w : World) (hr0_0 : Kd.C k64 w A0_0 l0_0.length l0_0) (hc0_0 : l0_0.length ≤ c0_0) (hr1 : Kd.C (Kd.int .i64) w A1 l1.length l1) (hc1 : l1.length ≤ c1) (hr2_3 : Kd.C k24 w A2_3 l2_3.length l2_3) (hc2_3 : l2_3.length ≤ c2_3) (h : eval_Eval.f k l0_0 a0_1 l1 a2_0 a2_1 a2_2 l2_3 = some (r1, r2)),
  Calls Tryd.prog 14 #[.agg #[.slice A0_0 l0_0.length c0_0, .int .i64 a0_1], .slice A1 l1.length c1, .agg #[.int .i64 a2_0, .int .i64 a2_1, .string a2_2, .slice A2_3 l2_3.length c2_3]] w fun e w' => ∃ v1_ : Value, e = .returned (.tuple #[.int .i64 r1, errV v1_]) ∧ Kd.R fltK 78 w' w.heap.size (fun _ => True) v1_ r2 ∧ Below w.heap.size w w' := by
 induction k using Nat.strongRecOn with
 | _ k ih =>
 intro A0_0 c0_0 l0_0 a0_1 A1 c1 l1 a2_0 a2_1 a2_2 A2_3 c2_3 l2_3 r1 r2 w hr0_0 hc0_0 hr1 hc1 hr2_3 hc2_3 h
 cases k with
 | zero => exact absurd h (by simp [eval_Eval.f])
 | succ k =>
 simp only [eval_Eval.f] at h
 have hu46 := Tryd.underlying46
 have hu24 := Tryd.underlying24
 have hu74 := Tryd.underlying74
 have HR0_0 := mk0 hr0_0
 have HC0_0 := mk0 hc0_0
 clear hr0_0 hc0_0
 have HR1 := mk0 hr1
 have HC1 := mk0 hc1
 clear hr1 hc1
 have HR2_3 := mk0 hr2_3
 have HC2_3 := mk0 hc2_3
 clear hr2_3 hc2_3
 have HB := mk0 (Below.refl w.heap.size w)
 have H : (if a2_0 = 1 then (some (a2_1, ([] : List (Flt)))) else (if a2_0 = 2 then (eval_Eval.j0 k l1 (a2_0 == 2) l0_0 a0_1 a2_0 a2_1 a2_2 l2_3) else (eval_Eval.j0 k l1 (a2_0 == 3) l0_0 a0_1 a2_0 a2_1 a2_2 l2_3))) = some (r1, r2) := h
 clear h
 by_cases c4 : a2_0 = 1
 ·rw [if_pos c4] at H
  have c4b0 : (a2_0 == 1) = true := beq_iff_eq.mpr c4
  have c4b1 : (a2_0 != 1) = false := bne_eq_false_iff_eq.mpr c4
  clear c4
  simp only [Option.some.injEq, Prod.mk.injEq] at H
  obtain ⟨rfl, rfl⟩ := H
  go_enter Tryd.func14, Tryd.ntmps14
  go_wp2_with (first | ((with_reducible refine gate_dst (N := 3) rfl ?_); refine box_event ?hg (N := 3) ?hd (cs := #[.slice A0_0 l0_0.length c0_0, .int .i64 a0_1]) (t := 46) ?hr ?_; (case hd => rfl); (case hg => rfl); (case hr => first | (go_simp; done) | (go_simp; rfl)); intro gb105 hg w5 hbox hb; have n0_ := mk0 (below_step (uL HB.out) hb); have n1_ := mk0 (hbox); have n2_ := mk0 ((by rw [hg]; exact (below_size (uL HB.out)) : w.heap.size ≤ gb105)); have n3_ := mk0 ((by rw [hg]; exact (below_size (uL HB.out)) : w.heap.size ≤ gb105)); clear HB; have HB := n0_; have BK105 := n1_; have GW105 := n2_; have GE105 := n3_; clear n0_ n1_ n2_ n3_; clear hb hbox hg) | ((with_reducible refine gate_dst (N := 5) rfl ?_); refine box_event ?hg (N := 5) ?hd (cs := #[.int .i64 a2_0, .int .i64 a2_1, .string a2_2, .slice A2_3 l2_3.length c2_3]) (t := 24) ?hr ?_; (case hd => rfl); (case hg => rfl); (case hr => first | (go_simp; done) | (go_simp; rfl)); intro gb106 hg w6 hbox hb; have n0_ := mk0 (blk_below (g := gb105) (o := .cells #[.slice A0_0 l0_0.length c0_0, .int .i64 a0_1] 46 (0, 0)) (uB BK105.out) hb); have n1_ := mk0 (below_step (by repeat (first | (with_reducible first | exact HB.out | apply bA | apply bN | apply bD | refine bS ?_ (by assumption)) | exact HB.out)) hb); have n2_ := mk0 (hbox); have n3_ := mk0 ((by rw [hg]; exact (below_size (by repeat (first | (with_reducible first | exact HB.out | apply bA | apply bN | apply bD | refine bS ?_ (by assumption)) | exact HB.out))) : w.heap.size ≤ gb106)); have n4_ := mk0 ((by rw [hg]; exact (below_size (by repeat (first | (with_reducible first | exact HB.out | apply bA | apply bN | apply bD | refine bS ?_ (by assumption)) | exact HB.out))) : w.heap.size ≤ gb106)); have n5_ := mk0 ((by rw [hg]; exact Nat.ne_of_lt (blk_lt (g := gb105) (o := .cells #[.slice A0_0 l0_0.length c0_0, .int .i64 a0_1] 46 (0, 0)) (uB BK105.out)) : gb105 ≠ gb106)); have n6_ := mk0 ((by rw [hg]; exact Nat.ne_of_gt (blk_lt (g := gb105) (o := .cells #[.slice A0_0 l0_0.length c0_0, .int .i64 a0_1] 46 (0, 0)) (uB BK105.out)) : gb106 ≠ gb105)); clear BK105; clear HB; have BK105 := n0_; have HB := n1_; have BK106 := n2_; have GW106 := n3_; have GE106 := n4_; have NB105_106 := n5_; have NB106_105 := n6_; clear n0_ n1_ n2_ n3_ n4_ n5_ n6_; clear hb hbox hg; have hnb7 := NB106_105.out; have hnc7 := NB105_106.out; have hcz8_0 : w6.cell? ⟨gb106, 0, none⟩ = some (.int .i64 a2_0) := (blk_cell BK106.out 0).trans rfl; have hcz8_1 : w6.cell? ⟨gb106, 1, none⟩ = some (.int .i64 a2_1) := (blk_cell BK106.out 1).trans rfl; have hcz8_2 : w6.cell? ⟨gb106, 2, none⟩ = some (.string a2_2) := (blk_cell BK106.out 2).trans rfl; have hcz8_3 : w6.cell? ⟨gb106, 3, none⟩ = some (.slice A2_3 l2_3.length c2_3) := (blk_cell BK106.out 3).trans rfl; have hfz8_0 := blk_frozen BK106.out 0; have hfz8_1 := blk_frozen BK106.out 1; have hfz8_2 := blk_frozen BK106.out 2; have hfz8_3 := blk_frozen BK106.out 3))
  go_ret2
  exact ⟨(.slice none 0 0), by first | rfl | (simp [errW_none, errW_some] <;> rfl) | (simp [*, errW_none, errW_some] <;> rfl), by first | exact Kd.R_nil _ _ _ _ _ | exact Kd.N_nil _ _ _ _ _ | exact Kd.V_nil _ _ _ _ _ | exact Kd.Q_nil _ _ _ _ _ | exact Kd.S_nil _ _ _ _ _, by repeat (first | (with_reducible first | exact HB.out | apply bA | apply bN | apply bD | refine bS ?_ (by assumption)) | exact HB.out)⟩
 ·rw [if_neg c4] at H
  have c4b0 : (a2_0 == 1) = false := beq_eq_false_iff_ne.mpr c4
  have c4b1 : (a2_0 != 1) = true := bne_iff_ne.mpr c4
  have HC9 := mk0 H
  clear H
  go_enter Tryd.func14, Tryd.ntmps14
  go_upto_if 23 with (first | ((with_reducible refine gate_dst (N := 3) rfl ?_); refine box_event ?hg (N := 3) ?hd (cs := #[.slice A0_0 l0_0.length c0_0, .int .i64 a0_1]) (t := 46) ?hr ?_; (case hd => rfl); (case hg => rfl); (case hr => first | (go_simp; done) | (go_simp; rfl)); intro gb105 hg w10 hbox hb; have n0_ := mk0 (below_step (uL HB.out) hb); have n1_ := mk0 (hbox); have n2_ := mk0 ((by rw [hg]; exact (below_size (uL HB.out)) : w.heap.size ≤ gb105)); have n3_ := mk0 ((by rw [hg]; exact (below_size (uL HB.out)) : w.heap.size ≤ gb105)); clear HB; have HB := n0_; have BK105 := n1_; have GW105 := n2_; have GE105 := n3_; clear n0_ n1_ n2_ n3_; clear hb hbox hg) | ((with_reducible refine gate_dst (N := 5) rfl ?_); refine box_event ?hg (N := 5) ?hd (cs := #[.int .i64 a2_0, .int .i64 a2_1, .string a2_2, .slice A2_3 l2_3.length c2_3]) (t := 24) ?hr ?_; (case hd => rfl); (case hg => rfl); (case hr => first | (go_simp; done) | (go_simp; rfl)); intro gb106 hg w11 hbox hb; have n0_ := mk0 (blk_below (g := gb105) (o := .cells #[.slice A0_0 l0_0.length c0_0, .int .i64 a0_1] 46 (0, 0)) (uB BK105.out) hb); have n1_ := mk0 (below_step (by repeat (first | (with_reducible first | exact HB.out | apply bA | apply bN | apply bD | refine bS ?_ (by assumption)) | exact HB.out)) hb); have n2_ := mk0 (hbox); have n3_ := mk0 ((by rw [hg]; exact (below_size (by repeat (first | (with_reducible first | exact HB.out | apply bA | apply bN | apply bD | refine bS ?_ (by assumption)) | exact HB.out))) : w.heap.size ≤ gb106)); have n4_ := mk0 ((by rw [hg]; exact (below_size (by repeat (first | (with_reducible first | exact HB.out | apply bA | apply bN | apply bD | refine bS ?_ (by assumption)) | exact HB.out))) : w.heap.size ≤ gb106)); have n5_ := mk0 ((by rw [hg]; exact Nat.ne_of_lt (blk_lt (g := gb105) (o := .cells #[.slice A0_0 l0_0.length c0_0, .int .i64 a0_1] 46 (0, 0)) (uB BK105.out)) : gb105 ≠ gb106)); have n6_ := mk0 ((by rw [hg]; exact Nat.ne_of_gt (blk_lt (g := gb105) (o := .cells #[.slice A0_0 l0_0.length c0_0, .int .i64 a0_1] 46 (0, 0)) (uB BK105.out)) : gb106 ≠ gb105)); clear BK105; clear HB; have BK105 := n0_; have HB := n1_; have BK106 := n2_; have GW106 := n3_; have GE106 := n4_; have NB105_106 := n5_; have NB106_105 := n6_; clear n0_ n1_ n2_ n3_ n4_ n5_ n6_; clear hb hbox hg; have hnb12 := NB106_105.out; have hnc12 := NB105_106.out; have hcz13_0 : w11.cell? ⟨gb106, 0, none⟩ = some (.int .i64 a2_0) := (blk_cell BK106.out 0).trans rfl; have hcz13_1 : w11.cell? ⟨gb106, 1, none⟩ = some (.int .i64 a2_1) := (blk_cell BK106.out 1).trans rfl; have hcz13_2 : w11.cell? ⟨gb106, 2, none⟩ = some (.string a2_2) := (blk_cell BK106.out 2).trans rfl; have hcz13_3 : w11.cell? ⟨gb106, 3, none⟩ = some (.slice A2_3 l2_3.length c2_3) := (blk_cell BK106.out 3).trans rfl; have hfz13_0 := blk_frozen BK106.out 0; have hfz13_1 := blk_frozen BK106.out 1; have hfz13_2 := blk_frozen BK106.out 2; have hfz13_3 := blk_frozen BK106.out 3))
  (try simp only [Act.put, List.setIfInBounds_toArray, List.set_cons_zero, List.set_cons_succ])
  go_cut [23] (fun v23 wc => ∃ (kq : Nat) (x23_8 : Bool), v23 = .bool x23_8 ∧ Aside0 (eval_Eval.j0 kq l1 x23_8 l0_0 a0_1 a2_0 a2_1 a2_2 l2_3 = some (r1, r2)) ∧ Aside0 (kq ≤ k) ∧ Aside0 (wc.heap[gb105]? = some (.cells #[(.slice A0_0 l0_0.length c0_0), .int .i64 a0_1] 46 (0, 0))) ∧ Aside0 (wc.heap[gb106]? = some (.cells #[.int .i64 a2_0, .int .i64 a2_1, .string a2_2, (.slice A2_3 l2_3.length c2_3)] 24 (0, 0))) ∧ Aside0 (Below w.heap.size w wc))
  case first =>
   have H := HC9.out
   clear HC9
   by_cases c14 : a2_0 = 2
   ·rw [if_pos c14] at H
    have c14b0 : (a2_0 == 2) = true := beq_iff_eq.mpr c14
    have c14b1 : (a2_0 != 2) = false := bne_eq_false_iff_eq.mpr c14
    clear c14
    (first | rw [c14b0] | (simp only [i64_w, i32_w]; rw [c14b0]) | skip)
    have H' := mk0 H
    clear H
    go_wp2
    go_meet
    case rel => exact ⟨_, ((a2_0 == 2)), (by first | rfl | (simp; done) | (simp [*]; done) | (simp [bne_nil_, beq_nil_]; done)), H', ⟨by first | omega | exact Nat.le_refl _⟩, ⟨uB BK105.out⟩, ⟨uB BK106.out⟩, ⟨by repeat (first | (with_reducible first | exact HB.out | apply bA | apply bN | apply bD | refine bS ?_ (by assumption)) | exact HB.out)⟩⟩
   ·rw [if_neg c14] at H
    have c14b0 : (a2_0 == 2) = false := beq_eq_false_iff_ne.mpr c14
    have c14b1 : (a2_0 != 2) = true := bne_iff_ne.mpr c14
    (first | rw [c14b0] | (simp only [i64_w, i32_w]; rw [c14b0]) | skip)
    have H' := mk0 H
    clear H
    go_wp2
    go_meet
    case rel => exact ⟨_, ((a2_0 == 3)), (by first | rfl | (simp; done) | (simp [*]; done) | (simp [bne_nil_, beq_nil_]; done)), H', ⟨by first | omega | exact Nat.le_refl _⟩, ⟨uB BK105.out⟩, ⟨uB BK106.out⟩, ⟨by repeat (first | (with_reducible first | exact HB.out | apply bA | apply bN | apply bD | refine bS ?_ (by assumption)) | exact HB.out)⟩⟩
  case rest =>
   clear HC9
   try clear c1
   try clear c2
   try clear p2
   try clear c4
   try clear c4b0
   try clear c4b1
   try clear c7
   try clear c12
   try clear c14
   try clear c14b0
   try clear c14b1
   try clear hcz13_0
   try clear hcz13_1
   try clear hcz13_2
   try clear hcz13_3
   try clear hcz8_0
   try clear hcz8_1
   try clear hcz8_2
   try clear hcz8_3
   try clear hfz13_0
   try clear hfz13_1
   try clear hfz13_2
   try clear hfz13_3
   try clear hfz8_0
   try clear hfz8_1
   try clear hfz8_2
   try clear hfz8_3
   obtain ⟨kq, x23_8, rfl, HA, HJ8, BK105, BK106, HB⟩ := hcut
   cases kq with
   | zero => exact absurd HA.out (by simp [eval_Eval.j0])
   | succ kj8 =>
    have H := HA.out
    clear HA
    simp only [eval_Eval.j0] at H
    by_cases c15 : x23_8 = true
    ·subst c15
     have H1 : ((eval_Place.f kj8 l0_0 a0_1 l1 a2_0 a2_1 a2_2 l2_3).bind fun bt107 => (if (bt107.2.length : Int) = 0 then (if 0 ≤ bt107.1 then (if bt107.1 < (l1.length : Int) then (some (rd l1 bt107.1, ([] : List (Flt)))) else (none)) else (none)) else (some (0, bt107.2)))) = some (r1, r2) := by rw [if_pos rfl] at H; exact H
     clear H
     have H := H1
     clear H1
     replace H := Option.bind_eq_some_iff.mp H
     obtain ⟨⟨t107, t108⟩, A160, H⟩ := H
     replace H : (if (t108.length : Int) = 0 then (if 0 ≤ t107 then (if t107 < (l1.length : Int) then (some (rd l1 t107, ([] : List (Flt)))) else (none)) else (none)) else (some (0, t108))) = some (r1, r2) := H
     have A16 := mk0 A160
     clear A160
     by_cases c17 : (t108.length : Int) = 0
     ·rw [if_pos c17] at H
      have c17b0 : ((t108.length : Int) == 0) = true := beq_iff_eq.mpr c17
      have c17b1 : ((t108.length : Int) != 0) = false := bne_eq_false_iff_eq.mpr c17
      clear c17
      by_cases c18 : 0 ≤ t107
      ·rw [if_pos c18] at H
       have c18b0 : decide (0 ≤ t107) = true := decide_eq_true c18
       clear c18
       by_cases c19 : t107 < (l1.length : Int)
       ·rw [if_pos c19] at H
        have c19b0 : decide (t107 < (l1.length : Int)) = true := decide_eq_true c19
        clear c19
        simp only [Option.some.injEq, Prod.mk.injEq] at H
        obtain ⟨rfl, rfl⟩ := H
        have hnb20 := NB105_106.out
        have hnc20 := NB106_105.out
        have hcz21_0 : wc.cell? ⟨gb105, 0, none⟩ = some (.slice A0_0 l0_0.length c0_0) := (blk_cell BK105.out 0).trans rfl
        have hcz21_1 : wc.cell? ⟨gb105, 1, none⟩ = some (.int .i64 a0_1) := (blk_cell BK105.out 1).trans rfl
        have hfz21_0 := blk_frozen BK105.out 0
        have hfz21_1 := blk_frozen BK105.out 1
        have hcz22_0 : wc.cell? ⟨gb106, 0, none⟩ = some (.int .i64 a2_0) := (blk_cell BK106.out 0).trans rfl
        have hcz22_1 : wc.cell? ⟨gb106, 1, none⟩ = some (.int .i64 a2_1) := (blk_cell BK106.out 1).trans rfl
        have hcz22_2 : wc.cell? ⟨gb106, 2, none⟩ = some (.string a2_2) := (blk_cell BK106.out 2).trans rfl
        have hcz22_3 : wc.cell? ⟨gb106, 3, none⟩ = some (.slice A2_3 l2_3.length c2_3) := (blk_cell BK106.out 3).trans rfl
        have hfz22_0 := blk_frozen BK106.out 0
        have hfz22_1 := blk_frozen BK106.out 1
        have hfz22_2 := blk_frozen BK106.out 2
        have hfz22_3 := blk_frozen BK106.out 3
        go_wp2_with (first | (go_at_call 18; (with_reducible refine (eval_Place.calls_of kj8 (fun k' hk' => ih k' (by have := HJ8.out; omega)) _ _ l0_0 a0_1 _ _ l1 a2_0 a2_1 a2_2 _ _ l2_3 t107 t108 _ ?side1 ?side2 ?side3 ?side4 ?side5 ?side6 A16.out).mono ?_); (case side1 => repeat (first | exact (Kd.C_below HR0_0.out HB.out) | (with_reducible refine Kd.C_alloc ?_ _) | (with_reducible refine Kd.C_drewN ?_ _) | (with_reducible refine Kd.C_drew ?_))); (case side2 => exact HC0_0.out); (case side3 => repeat (first | exact (Kd.C_below HR1.out HB.out) | (with_reducible refine Kd.C_alloc ?_ _) | (with_reducible refine Kd.C_drewN ?_ _) | (with_reducible refine Kd.C_drew ?_))); (case side4 => exact HC1.out); (case side5 => repeat (first | exact (Kd.C_below HR2_3.out HB.out) | (with_reducible refine Kd.C_alloc ?_ _) | (with_reducible refine Kd.C_drewN ?_ _) | (with_reducible refine Kd.C_drew ?_))); (case side6 => exact HC2_3.out); rintro e w23 ⟨v109, rfl, ho0, hb⟩; have n0_ := mk0 (Kd.R_lower ho0 (below_size (by repeat (first | (with_reducible first | exact HB.out | apply bA | apply bN | apply bD | refine bS ?_ (by assumption)) | exact HB.out)))); have n1_ := mk0 (blk_below (g := gb105) (o := .cells #[.slice A0_0 l0_0.length c0_0, .int .i64 a0_1] 46 (0, 0)) (uB BK105.out) hb); have n2_ := mk0 (blk_below (g := gb106) (o := .cells #[.int .i64 a2_0, .int .i64 a2_1, .string a2_2, .slice A2_3 l2_3.length c2_3] 24 (0, 0)) (uB BK106.out) hb); have n3_ := mk0 (below_step (by repeat (first | (with_reducible first | exact HB.out | apply bA | apply bN | apply bD | refine bS ?_ (by assumption)) | exact HB.out)) hb); clear BK105; clear BK106; clear HB; have HO110 := n0_; have BK105 := n1_; have BK106 := n2_; have HB := n3_; clear n0_ n1_ n2_ n3_; (try clear hb); (try clear hb2); (try clear hk); (try clear hi); (try clear ho0); (first | (have EHO110 := cmpV_no HO110.out (by with_reducible assumption)) | (have EHO110 := cmpV_yes HO110.out (by with_reducible assumption)) | skip); have p111 : 0 ≤ (t107 : Int) := of_decide_eq_true (by first | (with_reducible assumption) | assumption); have q111 : t107 < (l1.length : Int) := of_decide_eq_true (by first | (with_reducible assumption) | assumption); obtain ⟨ad111, e111, hx111_0⟩ := Kd.at_int HR1.out t107 p111 q111; cases e111; replace hx111_0 := (HB.out.cell (World.block_lt_of_cell? w _ hx111_0)).trans hx111_0; replace p111 := eq_true p111; replace q111 := eq_true q111))
        go_ret2
        exact ⟨(.slice none 0 0), by first | rfl | (simp [errW_none, errW_some] <;> rfl) | (simp [*, errW_none, errW_some] <;> rfl), by first | exact Kd.R_nil _ _ _ _ _ | exact Kd.N_nil _ _ _ _ _ | exact Kd.V_nil _ _ _ _ _ | exact Kd.Q_nil _ _ _ _ _ | exact Kd.S_nil _ _ _ _ _, by repeat (first | (with_reducible first | exact HB.out | apply bA | apply bN | apply bD | refine bS ?_ (by assumption)) | exact HB.out)⟩
       ·rw [if_neg c19] at H
        exact absurd H (by simp)
      ·rw [if_neg c18] at H
       exact absurd H (by simp)
     ·rw [if_neg c17] at H
      have c17b0 : ((t108.length : Int) == 0) = false := beq_eq_false_iff_ne.mpr c17
      have c17b1 : ((t108.length : Int) != 0) = true := bne_iff_ne.mpr c17
      have c17b2 : ¬ (t108 = []) := fun h_ => c17 (by rw [h_]; rfl)
      simp only [Option.some.injEq, Prod.mk.injEq] at H
      obtain ⟨rfl, rfl⟩ := H
      have hnb24 := NB105_106.out
      have hnc24 := NB106_105.out
      have hcz25_0 : wc.cell? ⟨gb105, 0, none⟩ = some (.slice A0_0 l0_0.length c0_0) := (blk_cell BK105.out 0).trans rfl
      have hcz25_1 : wc.cell? ⟨gb105, 1, none⟩ = some (.int .i64 a0_1) := (blk_cell BK105.out 1).trans rfl
      have hfz25_0 := blk_frozen BK105.out 0
      have hfz25_1 := blk_frozen BK105.out 1
      have hcz26_0 : wc.cell? ⟨gb106, 0, none⟩ = some (.int .i64 a2_0) := (blk_cell BK106.out 0).trans rfl
      have hcz26_1 : wc.cell? ⟨gb106, 1, none⟩ = some (.int .i64 a2_1) := (blk_cell BK106.out 1).trans rfl
      have hcz26_2 : wc.cell? ⟨gb106, 2, none⟩ = some (.string a2_2) := (blk_cell BK106.out 2).trans rfl
      have hcz26_3 : wc.cell? ⟨gb106, 3, none⟩ = some (.slice A2_3 l2_3.length c2_3) := (blk_cell BK106.out 3).trans rfl
      have hfz26_0 := blk_frozen BK106.out 0
      have hfz26_1 := blk_frozen BK106.out 1
      have hfz26_2 := blk_frozen BK106.out 2
      have hfz26_3 := blk_frozen BK106.out 3
      go_wp2_with (first | (go_at_call 18; (with_reducible refine (eval_Place.calls_of kj8 (fun k' hk' => ih k' (by have := HJ8.out; omega)) _ _ l0_0 a0_1 _ _ l1 a2_0 a2_1 a2_2 _ _ l2_3 t107 t108 _ ?side1 ?side2 ?side3 ?side4 ?side5 ?side6 A16.out).mono ?_); (case side1 => repeat (first | exact (Kd.C_below HR0_0.out HB.out) | (with_reducible refine Kd.C_alloc ?_ _) | (with_reducible refine Kd.C_drewN ?_ _) | (with_reducible refine Kd.C_drew ?_))); (case side2 => exact HC0_0.out); (case side3 => repeat (first | exact (Kd.C_below HR1.out HB.out) | (with_reducible refine Kd.C_alloc ?_ _) | (with_reducible refine Kd.C_drewN ?_ _) | (with_reducible refine Kd.C_drew ?_))); (case side4 => exact HC1.out); (case side5 => repeat (first | exact (Kd.C_below HR2_3.out HB.out) | (with_reducible refine Kd.C_alloc ?_ _) | (with_reducible refine Kd.C_drewN ?_ _) | (with_reducible refine Kd.C_drew ?_))); (case side6 => exact HC2_3.out); rintro e w27 ⟨v109, rfl, ho0, hb⟩; have n0_ := mk0 (Kd.R_lower ho0 (below_size (by repeat (first | (with_reducible first | exact HB.out | apply bA | apply bN | apply bD | refine bS ?_ (by assumption)) | exact HB.out)))); have n1_ := mk0 (blk_below (g := gb105) (o := .cells #[.slice A0_0 l0_0.length c0_0, .int .i64 a0_1] 46 (0, 0)) (uB BK105.out) hb); have n2_ := mk0 (blk_below (g := gb106) (o := .cells #[.int .i64 a2_0, .int .i64 a2_1, .string a2_2, .slice A2_3 l2_3.length c2_3] 24 (0, 0)) (uB BK106.out) hb); have n3_ := mk0 (below_step (by repeat (first | (with_reducible first | exact HB.out | apply bA | apply bN | apply bD | refine bS ?_ (by assumption)) | exact HB.out)) hb); clear BK105; clear BK106; clear HB; have HO110 := n0_; have BK105 := n1_; have BK106 := n2_; have HB := n3_; clear n0_ n1_ n2_ n3_; (try clear hb); (try clear hb2); (try clear hk); (try clear hi); (try clear ho0); (first | (have EHO110 := cmpV_no HO110.out (by with_reducible assumption)) | (have EHO110 := cmpV_yes HO110.out (by with_reducible assumption)) | skip)))
      go_ret2
      exact ⟨(v109), by first | rfl | (simp [errW_none, errW_some] <;> rfl) | (simp [*, errW_none, errW_some] <;> rfl), uR HO110.out, by repeat (first | (with_reducible first | exact HB.out | apply bA | apply bN | apply bD | refine bS ?_ (by assumption)) | exact HB.out)⟩
    ·replace c15 := Bool.eq_false_iff.mpr c15
     subst c15
     have H1 : (eval_Eval.l0 kj8 l1 l2_3 (l2_3.length : Int) 0 l0_0 a0_1 a2_0 a2_1 a2_2 l2_3 0 0) = some (r1, r2) := by rw [if_neg (show ¬ (false = true) by decide)] at H; exact H
     clear H
     have H := H1
     clear H1
     have H' := mk0 H
     clear H
     go_wp2_with (first | ((with_reducible refine gate_dst (N := 10) rfl ?_); refine box_event ?hg (N := 10) ?hd (cs := #[.int .i64 0, .int .i64 0]) (t := 74) ?hr ?_; (case hd => rfl); (case hg => rfl); (case hr => first | (go_simp; done) | (go_simp; rfl)); intro gb112 hg w28 hbox hb; have n0_ := mk0 (blk_below (g := gb105) (o := .cells #[.slice A0_0 l0_0.length c0_0, .int .i64 a0_1] 46 (0, 0)) (uB BK105.out) hb); have n1_ := mk0 (blk_below (g := gb106) (o := .cells #[.int .i64 a2_0, .int .i64 a2_1, .string a2_2, .slice A2_3 l2_3.length c2_3] 24 (0, 0)) (uB BK106.out) hb); have n2_ := mk0 (below_step (by repeat (first | (with_reducible first | exact HB.out | apply bA | apply bN | apply bD | refine bS ?_ (by assumption)) | exact HB.out)) hb); have n3_ := mk0 (hbox); have n4_ := mk0 ((by rw [hg]; exact (below_size (by repeat (first | (with_reducible first | exact HB.out | apply bA | apply bN | apply bD | refine bS ?_ (by assumption)) | exact HB.out))) : w.heap.size ≤ gb112)); have n5_ := mk0 ((by rw [hg]; exact (below_size (by repeat (first | (with_reducible first | exact HB.out | apply bA | apply bN | apply bD | refine bS ?_ (by assumption)) | exact HB.out))) : w.heap.size ≤ gb112)); have n6_ := mk0 ((by rw [hg]; exact Nat.ne_of_lt (blk_lt (g := gb105) (o := .cells #[.slice A0_0 l0_0.length c0_0, .int .i64 a0_1] 46 (0, 0)) (uB BK105.out)) : gb105 ≠ gb112)); have n7_ := mk0 ((by rw [hg]; exact Nat.ne_of_gt (blk_lt (g := gb105) (o := .cells #[.slice A0_0 l0_0.length c0_0, .int .i64 a0_1] 46 (0, 0)) (uB BK105.out)) : gb112 ≠ gb105)); have n8_ := mk0 ((by rw [hg]; exact Nat.ne_of_lt (blk_lt (g := gb106) (o := .cells #[.int .i64 a2_0, .int .i64 a2_1, .string a2_2, .slice A2_3 l2_3.length c2_3] 24 (0, 0)) (uB BK106.out)) : gb106 ≠ gb112)); have n9_ := mk0 ((by rw [hg]; exact Nat.ne_of_gt (blk_lt (g := gb106) (o := .cells #[.int .i64 a2_0, .int .i64 a2_1, .string a2_2, .slice A2_3 l2_3.length c2_3] 24 (0, 0)) (uB BK106.out)) : gb112 ≠ gb106)); clear BK105; clear BK106; clear HB; have BK105 := n0_; have BK106 := n1_; have HB := n2_; have BK112 := n3_; have GW112 := n4_; have GE112 := n5_; have NB105_112 := n6_; have NB112_105 := n7_; have NB106_112 := n8_; have NB112_106 := n9_; clear n0_ n1_ n2_ n3_ n4_ n5_ n6_ n7_ n8_ n9_; clear hb hbox hg; have hnb29 := NB106_105.out; have hnc29 := NB105_106.out; have hnb30 := NB106_112.out; have hnc30 := NB112_106.out; have hcz31_0 : w28.cell? ⟨gb106, 0, none⟩ = some (.int .i64 a2_0) := (blk_cell BK106.out 0).trans rfl; have hcz31_1 : w28.cell? ⟨gb106, 1, none⟩ = some (.int .i64 a2_1) := (blk_cell BK106.out 1).trans rfl; have hcz31_2 : w28.cell? ⟨gb106, 2, none⟩ = some (.string a2_2) := (blk_cell BK106.out 2).trans rfl; have hcz31_3 : w28.cell? ⟨gb106, 3, none⟩ = some (.slice A2_3 l2_3.length c2_3) := (blk_cell BK106.out 3).trans rfl; have hfz31_0 := blk_frozen BK106.out 0; have hfz31_1 := blk_frozen BK106.out 1; have hfz31_2 := blk_frozen BK106.out 2; have hfz31_3 := blk_frozen BK106.out 3))
     go_loopg [43] kj8 (fun kq v43 w' => ∃ (x43_2 : Int) (x113000_2 : Int) (x113001_2 : Int), v43 = .int .i64 x43_2 ∧ Aside0 (eval_Eval.l0 kq l1 l2_3 (l2_3.length : Int) x43_2 l0_0 a0_1 a2_0 a2_1 a2_2 l2_3 x113000_2 x113001_2 = some (r1, r2)) ∧ Aside0 (kq ≤ kj8) ∧ Aside0 (w'.heap[gb105]? = some (.cells #[(.slice A0_0 l0_0.length c0_0), .int .i64 a0_1] 46 (0, 0))) ∧ Aside0 (w'.heap[gb106]? = some (.cells #[.int .i64 a2_0, .int .i64 a2_1, .string a2_2, (.slice A2_3 l2_3.length c2_3)] 24 (0, 0))) ∧ Aside0 (w'.heap[gb112]? = some (.cells #[.int .i64 x113000_2, .int .i64 x113001_2] 74 (0, 0))) ∧ Aside0 (Below w.heap.size w w'))
     case atStart => exact ⟨(0), (0), (0), (by first | rfl | (simp; done) | (simp [*]; done) | (simp [bne_nil_, beq_nil_]; done)), H', ⟨Nat.le_refl _⟩, ⟨uB BK105.out⟩, ⟨uB BK106.out⟩, ⟨uB BK112.out⟩, ⟨by repeat (first | (with_reducible first | exact HB.out | apply bA | apply bN | apply bD | refine bS ?_ (by assumption)) | exact HB.out)⟩⟩
     case round =>
      clear H'
      try clear c1
      try clear p1
      try clear q1
      try clear hx1
      try clear c2
      try clear p2
      try clear c3
      try clear c4
      try clear c4b0
      try clear c4b1
      try clear c7
      try clear p11
      try clear q11
      try clear hx11
      try clear c12
      try clear c14
      try clear c14b0
      try clear c14b1
      try clear c15
      try clear c17
      try clear c17b0
      try clear c17b1
      try clear c17b2
      try clear c18
      try clear c18b0
      try clear c19
      try clear c19b0
      try clear c20
      try clear c24
      try clear c29
      try clear c30
      try clear hcz13_0
      try clear hcz13_1
      try clear hcz13_2
      try clear hcz13_3
      try clear hcz21_0
      try clear hcz21_1
      try clear hcz22_0
      try clear hcz22_1
      try clear hcz22_2
      try clear hcz22_3
      try clear hcz25_0
      try clear hcz25_1
      try clear hcz26_0
      try clear hcz26_1
      try clear hcz26_2
      try clear hcz26_3
      try clear hcz31_0
      try clear hcz31_1
      try clear hcz31_2
      try clear hcz31_3
      try clear hcz8_0
      try clear hcz8_1
      try clear hcz8_2
      try clear hcz8_3
      try clear hfz13_0
      try clear hfz13_1
      try clear hfz13_2
      try clear hfz13_3
      try clear hfz21_0
      try clear hfz21_1
      try clear hfz22_0
      try clear hfz22_1
      try clear hfz22_2
      try clear hfz22_3
      try clear hfz25_0
      try clear hfz25_1
      try clear hfz26_0
      try clear hfz26_1
      try clear hfz26_2
      try clear hfz26_3
      try clear hfz31_0
      try clear hfz31_1
      try clear hfz31_2
      try clear hfz31_3
      try clear hfz8_0
      try clear hfz8_1
      try clear hfz8_2
      try clear hfz8_3
      try clear hx111_0
      try clear p111
      try clear p2
      try clear q111
      obtain ⟨x43_2, x113000_2, x113001_2, rfl, HA, HK2, BK105, BK106, BK112, HB⟩ := hrel
      cases gk with
      | zero => exact absurd HA.out (by simp [eval_Eval.l0])
      | succ k2 =>
       have H := HA.out
       clear HA
       simp only [eval_Eval.l0] at H
       by_cases c32 : x43_2 < (l2_3.length : Int)
       ·rw [if_pos c32] at H
        have c32b0 : decide (x43_2 < (l2_3.length : Int)) = true := decide_eq_true c32
        clear c32
        by_cases c33 : 0 ≤ x43_2
        ·rw [if_pos c33] at H
         have c33b0 : decide (0 ≤ x43_2) = true := decide_eq_true c33
         clear c33
         by_cases c34 : x43_2 < (l2_3.length : Int)
         ·rw [if_pos c34] at H
          have c34b0 : decide (x43_2 < (l2_3.length : Int)) = true := decide_eq_true c34
          clear c34
          replace H := Option.bind_eq_some_iff.mp H
          obtain ⟨⟨t115, t116⟩, A350, H⟩ := H
          replace H : (if (t116.length : Int) = 0 then (if x43_2 = 0 then (eval_Eval.l0 k2 l1 l2_3 (l2_3.length : Int) (wrap64 (x43_2 + 1)) l0_0 a0_1 a2_0 a2_1 a2_2 l2_3 t115 x113001_2) else (if x43_2 = 1 then (eval_Eval.l0 k2 l1 l2_3 (l2_3.length : Int) (wrap64 (x43_2 + 1)) l0_0 a0_1 a2_0 a2_1 a2_2 l2_3 x113000_2 t115) else (none))) else (some (0, t116))) = some (r1, r2) := H
          have A35 := mk0 A350
          clear A350
          by_cases c36 : (t116.length : Int) = 0
          ·rw [if_pos c36] at H
           have c36b0 : ((t116.length : Int) == 0) = true := beq_iff_eq.mpr c36
           have c36b1 : ((t116.length : Int) != 0) = false := bne_eq_false_iff_eq.mpr c36
           clear c36
           by_cases c37 : x43_2 = 0
           ·rw [if_pos c37] at H
            have c37b0 : (x43_2 == 0) = true := beq_iff_eq.mpr c37
            have c37b1 : (x43_2 != 0) = false := bne_eq_false_iff_eq.mpr c37
            have hx_i := c37
            clear c37
            have HXI := mk0 hx_i
            clear hx_i
            have H' := mk0 H
            clear H
            have p113 : 0 ≤ (x43_2 : Int) := of_decide_eq_true (by first | (with_reducible assumption) | assumption)
            have q113 : x43_2 < (l2_3.length : Int) := of_decide_eq_true (by first | (with_reducible assumption) | assumption)
            obtain ⟨ad113, A113_3, c113_3, e113, hx113_0, hx113_1, hx113_2, hx113_3, hl113_3, hi113_3⟩ := at_T24 HR2_3.out x43_2 p113 q113
            cases e113
            replace hx113_0 := (HB.out.cell (World.block_lt_of_cell? w _ hx113_0)).trans hx113_0
            replace hx113_1 := (HB.out.cell (World.block_lt_of_cell? w _ hx113_1)).trans hx113_1
            replace hx113_2 := (HB.out.cell (World.block_lt_of_cell? w _ hx113_2)).trans hx113_2
            replace hx113_3 := (HB.out.cell (World.block_lt_of_cell? w _ hx113_3)).trans hx113_3
            have HR113_3 := mk0 hi113_3
            have HC113_3 := mk0 hl113_3
            clear hi113_3 hl113_3
            replace p113 := eq_true p113
            replace q113 := eq_true q113
            go_wp2_with (first | ((with_reducible refine gate_dst (N := 12) rfl ?_); refine box_event ?hg (N := 12) ?hd (cs := #[.int .i64 0, .int .i64 0, .string (⟨#[]⟩ : ByteArray), .slice none 0 0]) (t := 24) ?hr ?_; (case hd => rfl); (case hg => rfl); (case hr => first | (go_simp; done) | (go_simp; rfl)); intro gb114 hg w38 hbox hb; have n0_ := mk0 (blk_below (g := gb105) (o := .cells #[.slice A0_0 l0_0.length c0_0, .int .i64 a0_1] 46 (0, 0)) (uB BK105.out) hb); have n1_ := mk0 (blk_below (g := gb106) (o := .cells #[.int .i64 a2_0, .int .i64 a2_1, .string a2_2, .slice (some ad113) l2_3.length c2_3] 24 (0, 0)) (uB BK106.out) hb); have n2_ := mk0 (blk_below (g := gb112) (o := .cells #[.int .i64 x113000_2, .int .i64 x113001_2] 74 (0, 0)) (uB BK112.out) hb); have n3_ := mk0 (below_step (by repeat (first | (with_reducible first | exact HB.out | apply bA | apply bN | apply bD | refine bS ?_ (by assumption)) | exact HB.out)) hb); have n4_ := mk0 (hbox); have n5_ := mk0 ((by rw [hg]; exact (below_size (by repeat (first | (with_reducible first | exact HB.out | apply bA | apply bN | apply bD | refine bS ?_ (by assumption)) | exact HB.out))) : w.heap.size ≤ gb114)); have n6_ := mk0 ((by rw [hg]; exact (below_size (by repeat (first | (with_reducible first | exact HB.out | apply bA | apply bN | apply bD | refine bS ?_ (by assumption)) | exact HB.out))) : w.heap.size ≤ gb114)); have n7_ := mk0 ((by rw [hg]; exact Nat.ne_of_lt (blk_lt (g := gb105) (o := .cells #[.slice A0_0 l0_0.length c0_0, .int .i64 a0_1] 46 (0, 0)) (uB BK105.out)) : gb105 ≠ gb114)); have n8_ := mk0 ((by rw [hg]; exact Nat.ne_of_gt (blk_lt (g := gb105) (o := .cells #[.slice A0_0 l0_0.length c0_0, .int .i64 a0_1] 46 (0, 0)) (uB BK105.out)) : gb114 ≠ gb105)); have n9_ := mk0 ((by rw [hg]; exact Nat.ne_of_lt (blk_lt (g := gb106) (o := .cells #[.int .i64 a2_0, .int .i64 a2_1, .string a2_2, .slice (some ad113) l2_3.length c2_3] 24 (0, 0)) (uB BK106.out)) : gb106 ≠ gb114)); have n10_ := mk0 ((by rw [hg]; exact Nat.ne_of_gt (blk_lt (g := gb106) (o := .cells #[.int .i64 a2_0, .int .i64 a2_1, .string a2_2, .slice (some ad113) l2_3.length c2_3] 24 (0, 0)) (uB BK106.out)) : gb114 ≠ gb106)); have n11_ := mk0 ((by rw [hg]; exact Nat.ne_of_lt (blk_lt (g := gb112) (o := .cells #[.int .i64 x113000_2, .int .i64 x113001_2] 74 (0, 0)) (uB BK112.out)) : gb112 ≠ gb114)); have n12_ := mk0 ((by rw [hg]; exact Nat.ne_of_gt (blk_lt (g := gb112) (o := .cells #[.int .i64 x113000_2, .int .i64 x113001_2] 74 (0, 0)) (uB BK112.out)) : gb114 ≠ gb112)); clear BK105; clear BK106; clear BK112; clear HB; have BK105 := n0_; have BK106 := n1_; have BK112 := n2_; have HB := n3_; have BK114 := n4_; have GW114 := n5_; have GE114 := n6_; have NB105_114 := n7_; have NB114_105 := n8_; have NB106_114 := n9_; have NB114_106 := n10_; have NB112_114 := n11_; have NB114_112 := n12_; clear n0_ n1_ n2_ n3_ n4_ n5_ n6_ n7_ n8_ n9_ n10_ n11_ n12_; clear hb hbox hg; have hnb39 := NB114_105.out; have hnc39 := NB105_114.out; have hnb40 := NB114_106.out; have hnc40 := NB106_114.out; have hnb41 := NB114_112.out; have hnc41 := NB112_114.out; have hcz42_0 : w38.cell? ⟨gb114, 0, none⟩ = some (.int .i64 0) := (blk_cell BK114.out 0).trans rfl; have hcz42_1 : w38.cell? ⟨gb114, 1, none⟩ = some (.int .i64 0) := (blk_cell BK114.out 1).trans rfl; have hcz42_2 : w38.cell? ⟨gb114, 2, none⟩ = some (.string (⟨#[]⟩ : ByteArray)) := (blk_cell BK114.out 2).trans rfl; have hcz42_3 : w38.cell? ⟨gb114, 3, none⟩ = some (.slice none 0 0) := (blk_cell BK114.out 3).trans rfl; have hfz42_0 := blk_frozen BK114.out 0; have hfz42_1 := blk_frozen BK114.out 1; have hfz42_2 := blk_frozen BK114.out 2; have hfz42_3 := blk_frozen BK114.out 3; have hnb43 := NB105_106.out; have hnc43 := NB106_105.out; have hnb44 := NB105_112.out; have hnc44 := NB112_105.out; have hcz45_0 : w38.cell? ⟨gb105, 0, none⟩ = some (.slice A0_0 l0_0.length c0_0) := (blk_cell BK105.out 0).trans rfl; have hcz45_1 : w38.cell? ⟨gb105, 1, none⟩ = some (.int .i64 a0_1) := (blk_cell BK105.out 1).trans rfl; have hfz45_0 := blk_frozen BK105.out 0; have hfz45_1 := blk_frozen BK105.out 1) | (go_at_call 14; (with_reducible refine (ih k2 (by have := HJ8.out; have := HK2.out; omega) _ _ l0_0 a0_1 _ _ l1 ((rd_T24 l2_3 x43_2).f0) ((rd_T24 l2_3 x43_2).f1) ((rd_T24 l2_3 x43_2).f2) _ _ ((rd_T24 l2_3 x43_2).f3) t115 t116 _ ?side1 ?side2 ?side3 ?side4 ?side5 ?side6 A35.out).mono ?_); (case side1 => exact Kd.C_below HR0_0.out (by repeat (first | (with_reducible first | exact HB.out | apply bA | apply bN | apply bD | refine bS ?_ (by assumption)) | exact HB.out))); (case side2 => exact HC0_0.out); (case side3 => exact Kd.C_below HR1.out (by repeat (first | (with_reducible first | exact HB.out | apply bA | apply bN | apply bD | refine bS ?_ (by assumption)) | exact HB.out))); (case side4 => exact HC1.out); (case side5 => exact Kd.C_below HR113_3.out (by repeat (first | (with_reducible first | exact HB.out | apply bA | apply bN | apply bD | refine bS ?_ (by assumption)) | exact HB.out))); (case side6 => exact HC113_3.out); rintro e w46 ⟨v117, rfl, ho0, hb⟩; have n0_ := mk0 (Kd.R_lower ho0 (below_size (by repeat (first | (with_reducible first | exact HB.out | apply bA | apply bN | apply bD | refine bS ?_ (by assumption)) | exact HB.out)))); have n1_ := mk0 (blk_below (g := gb105) (o := .cells #[.slice A0_0 l0_0.length c0_0, .int .i64 a0_1] 46 (0, 0)) (by (with_reducible repeat (first | refine blk_drewN ?_ _ | refine blk_drew ?_ | refine blk_alloc ?_ _)); refine blk_far ?_ NB105_114.out _; (with_reducible repeat (first | refine blk_drewN ?_ _ | refine blk_drew ?_ | refine blk_alloc ?_ _)); refine blk_far ?_ NB105_114.out _; (with_reducible repeat (first | refine blk_drewN ?_ _ | refine blk_drew ?_ | refine blk_alloc ?_ _)); refine blk_far ?_ NB105_114.out _; (with_reducible repeat (first | refine blk_drewN ?_ _ | refine blk_drew ?_ | refine blk_alloc ?_ _)); refine blk_far ?_ NB105_114.out _; (with_reducible repeat (first | refine blk_drewN ?_ _ | refine blk_drew ?_ | refine blk_alloc ?_ _)); exact BK105.out) hb); have n2_ := mk0 (blk_below (g := gb106) (o := .cells #[.int .i64 a2_0, .int .i64 a2_1, .string a2_2, .slice (some ad113) l2_3.length c2_3] 24 (0, 0)) (by (with_reducible repeat (first | refine blk_drewN ?_ _ | refine blk_drew ?_ | refine blk_alloc ?_ _)); refine blk_far ?_ NB106_114.out _; (with_reducible repeat (first | refine blk_drewN ?_ _ | refine blk_drew ?_ | refine blk_alloc ?_ _)); refine blk_far ?_ NB106_114.out _; (with_reducible repeat (first | refine blk_drewN ?_ _ | refine blk_drew ?_ | refine blk_alloc ?_ _)); refine blk_far ?_ NB106_114.out _; (with_reducible repeat (first | refine blk_drewN ?_ _ | refine blk_drew ?_ | refine blk_alloc ?_ _)); refine blk_far ?_ NB106_114.out _; (with_reducible repeat (first | refine blk_drewN ?_ _ | refine blk_drew ?_ | refine blk_alloc ?_ _)); exact BK106.out) hb); have n3_ := mk0 (blk_below (g := gb112) (o := .cells #[.int .i64 x113000_2, .int .i64 x113001_2] 74 (0, 0)) (by (with_reducible repeat (first | refine blk_drewN ?_ _ | refine blk_drew ?_ | refine blk_alloc ?_ _)); refine blk_far ?_ NB112_114.out _; (with_reducible repeat (first | refine blk_drewN ?_ _ | refine blk_drew ?_ | refine blk_alloc ?_ _)); refine blk_far ?_ NB112_114.out _; (with_reducible repeat (first | refine blk_drewN ?_ _ | refine blk_drew ?_ | refine blk_alloc ?_ _)); refine blk_far ?_ NB112_114.out _; (with_reducible repeat (first | refine blk_drewN ?_ _ | refine blk_drew ?_ | refine blk_alloc ?_ _)); refine blk_far ?_ NB112_114.out _; (with_reducible repeat (first | refine blk_drewN ?_ _ | refine blk_drew ?_ | refine blk_alloc ?_ _)); exact BK112.out) hb); have n4_ := mk0 (blk_below (g := gb114) (o := .cells #[.int .i64 ((rd_T24 l2_3 x43_2).f0), .int .i64 ((rd_T24 l2_3 x43_2).f1), .string ((rd_T24 l2_3 x43_2).f2), .slice A113_3 ((rd_T24 l2_3 x43_2).f3).length c113_3] 24 (0, 0)) (by (with_reducible repeat (first | refine blk_drewN ?_ _ | refine blk_drew ?_ | refine blk_alloc ?_ _)); refine blk_put (cs := #[.int .i64 ((rd_T24 l2_3 x43_2).f0), .int .i64 ((rd_T24 l2_3 x43_2).f1), .string ((rd_T24 l2_3 x43_2).f2), .slice none 0 0]) ?_ 3 _ rfl; (with_reducible repeat (first | refine blk_drewN ?_ _ | refine blk_drew ?_ | refine blk_alloc ?_ _)); refine blk_put (cs := #[.int .i64 ((rd_T24 l2_3 x43_2).f0), .int .i64 ((rd_T24 l2_3 x43_2).f1), .string (⟨#[]⟩ : ByteArray), .slice none 0 0]) ?_ 2 _ rfl; (with_reducible repeat (first | refine blk_drewN ?_ _ | refine blk_drew ?_ | refine blk_alloc ?_ _)); refine blk_put (cs := #[.int .i64 ((rd_T24 l2_3 x43_2).f0), .int .i64 0, .string (⟨#[]⟩ : ByteArray), .slice none 0 0]) ?_ 1 _ rfl; (with_reducible repeat (first | refine blk_drewN ?_ _ | refine blk_drew ?_ | refine blk_alloc ?_ _)); refine blk_put (cs := #[.int .i64 0, .int .i64 0, .string (⟨#[]⟩ : ByteArray), .slice none 0 0]) ?_ 0 _ rfl; (with_reducible repeat (first | refine blk_drewN ?_ _ | refine blk_drew ?_ | refine blk_alloc ?_ _)); exact BK114.out) hb); have n5_ := mk0 (below_step (by repeat (first | (with_reducible first | exact HB.out | apply bA | apply bN | apply bD | refine bS ?_ (by assumption)) | exact HB.out)) hb); clear BK105; clear BK106; clear BK112; clear BK114; clear HB; have HO118 := n0_; have BK105 := n1_; have BK106 := n2_; have BK112 := n3_; have BK114 := n4_; have HB := n5_; clear n0_ n1_ n2_ n3_ n4_ n5_; (try clear hb); (try clear hb2); (try clear hk); (try clear hi); (try clear ho0); (first | (have EHO118 := cmpV_no HO118.out (by with_reducible assumption)) | (have EHO118 := cmpV_yes HO118.out (by with_reducible assumption)) | skip); have hx_n : (x43_2 : Int).toNat = 0 := (by rw [HXI.out] <;> rfl); have hx_0 : (0 ≤ x43_2) = True := (by rw [HXI.out] <;> simp); have hx_2 : (x43_2 < 2) = True := (by rw [HXI.out] <;> simp); have hnb47 := NB112_106.out; have hnc47 := NB106_112.out; have hcz48_0 : w46.cell? ⟨gb112, 0, none⟩ = some (.int .i64 x113000_2) := (blk_cell BK112.out 0).trans rfl; have hcz48_1 : w46.cell? ⟨gb112, 1, none⟩ = some (.int .i64 x113001_2) := (blk_cell BK112.out 1).trans rfl; have hfz48_0 := blk_frozen BK112.out 0; have hfz48_1 := blk_frozen BK112.out 1))
            go_roundg k2
            case measure => have := HJ8.out; have := HK2.out; omega
            case rel => exact ⟨(wrap64 (x43_2 + 1)), (t115), (x113001_2), (by first | rfl | (have h_ := HXI.out; unfold wrap64; simp only [Value.int.injEq, true_and]; omega) | (have h_ := HXI.out; simp only [wrap64, Value.int.injEq, true_and]; omega) | (simp; done) | (simp [*]; done) | (simp [bne_nil_, beq_nil_]; done)), H', ⟨by have := HJ8.out; have := HK2.out; omega⟩, ⟨by (with_reducible repeat (first | refine blk_drewN ?_ _ | refine blk_drew ?_ | refine blk_alloc ?_ _)); refine blk_far ?_ NB105_112.out _; (with_reducible repeat (first | refine blk_drewN ?_ _ | refine blk_drew ?_ | refine blk_alloc ?_ _)); exact BK105.out⟩, ⟨by (with_reducible repeat (first | refine blk_drewN ?_ _ | refine blk_drew ?_ | refine blk_alloc ?_ _)); refine blk_far ?_ NB106_112.out _; (with_reducible repeat (first | refine blk_drewN ?_ _ | refine blk_drew ?_ | refine blk_alloc ?_ _)); exact BK106.out⟩, ⟨by (with_reducible repeat (first | refine blk_drewN ?_ _ | refine blk_drew ?_ | refine blk_alloc ?_ _)); refine blk_put (cs := #[.int .i64 x113000_2, .int .i64 x113001_2]) ?_ 0 _ rfl; (with_reducible repeat (first | refine blk_drewN ?_ _ | refine blk_drew ?_ | refine blk_alloc ?_ _)); exact BK112.out⟩, ⟨by repeat (first | (with_reducible first | exact HB.out | apply bA | apply bN | apply bD | refine bS ?_ (by assumption)) | exact HB.out)⟩⟩
           ·rw [if_neg c37] at H
            have c37b0 : (x43_2 == 0) = false := beq_eq_false_iff_ne.mpr c37
            have c37b1 : (x43_2 != 0) = true := bne_iff_ne.mpr c37
            by_cases hx_i : x43_2 = 1
            ·rw [if_pos hx_i] at H
             have HXI := mk0 hx_i
             clear hx_i
             have H' := mk0 H
             clear H
             have p113 : 0 ≤ (x43_2 : Int) := of_decide_eq_true (by first | (with_reducible assumption) | assumption)
             have q113 : x43_2 < (l2_3.length : Int) := of_decide_eq_true (by first | (with_reducible assumption) | assumption)
             obtain ⟨ad113, A113_3, c113_3, e113, hx113_0, hx113_1, hx113_2, hx113_3, hl113_3, hi113_3⟩ := at_T24 HR2_3.out x43_2 p113 q113
             cases e113
             replace hx113_0 := (HB.out.cell (World.block_lt_of_cell? w _ hx113_0)).trans hx113_0
             replace hx113_1 := (HB.out.cell (World.block_lt_of_cell? w _ hx113_1)).trans hx113_1
             replace hx113_2 := (HB.out.cell (World.block_lt_of_cell? w _ hx113_2)).trans hx113_2
             replace hx113_3 := (HB.out.cell (World.block_lt_of_cell? w _ hx113_3)).trans hx113_3
             have HR113_3 := mk0 hi113_3
             have HC113_3 := mk0 hl113_3
             clear hi113_3 hl113_3
             replace p113 := eq_true p113
             replace q113 := eq_true q113
             go_wp2_with (first | ((with_reducible refine gate_dst (N := 12) rfl ?_); refine box_event ?hg (N := 12) ?hd (cs := #[.int .i64 0, .int .i64 0, .string (⟨#[]⟩ : ByteArray), .slice none 0 0]) (t := 24) ?hr ?_; (case hd => rfl); (case hg => rfl); (case hr => first | (go_simp; done) | (go_simp; rfl)); intro gb114 hg w49 hbox hb; have n0_ := mk0 (blk_below (g := gb105) (o := .cells #[.slice A0_0 l0_0.length c0_0, .int .i64 a0_1] 46 (0, 0)) (uB BK105.out) hb); have n1_ := mk0 (blk_below (g := gb106) (o := .cells #[.int .i64 a2_0, .int .i64 a2_1, .string a2_2, .slice (some ad113) l2_3.length c2_3] 24 (0, 0)) (uB BK106.out) hb); have n2_ := mk0 (blk_below (g := gb112) (o := .cells #[.int .i64 x113000_2, .int .i64 x113001_2] 74 (0, 0)) (uB BK112.out) hb); have n3_ := mk0 (below_step (by repeat (first | (with_reducible first | exact HB.out | apply bA | apply bN | apply bD | refine bS ?_ (by assumption)) | exact HB.out)) hb); have n4_ := mk0 (hbox); have n5_ := mk0 ((by rw [hg]; exact (below_size (by repeat (first | (with_reducible first | exact HB.out | apply bA | apply bN | apply bD | refine bS ?_ (by assumption)) | exact HB.out))) : w.heap.size ≤ gb114)); have n6_ := mk0 ((by rw [hg]; exact (below_size (by repeat (first | (with_reducible first | exact HB.out | apply bA | apply bN | apply bD | refine bS ?_ (by assumption)) | exact HB.out))) : w.heap.size ≤ gb114)); have n7_ := mk0 ((by rw [hg]; exact Nat.ne_of_lt (blk_lt (g := gb105) (o := .cells #[.slice A0_0 l0_0.length c0_0, .int .i64 a0_1] 46 (0, 0)) (uB BK105.out)) : gb105 ≠ gb114)); have n8_ := mk0 ((by rw [hg]; exact Nat.ne_of_gt (blk_lt (g := gb105) (o := .cells #[.slice A0_0 l0_0.length c0_0, .int .i64 a0_1] 46 (0, 0)) (uB BK105.out)) : gb114 ≠ gb105)); have n9_ := mk0 ((by rw [hg]; exact Nat.ne_of_lt (blk_lt (g := gb106) (o := .cells #[.int .i64 a2_0, .int .i64 a2_1, .string a2_2, .slice (some ad113) l2_3.length c2_3] 24 (0, 0)) (uB BK106.out)) : gb106 ≠ gb114)); have n10_ := mk0 ((by rw [hg]; exact Nat.ne_of_gt (blk_lt (g := gb106) (o := .cells #[.int .i64 a2_0, .int .i64 a2_1, .string a2_2, .slice (some ad113) l2_3.length c2_3] 24 (0, 0)) (uB BK106.out)) : gb114 ≠ gb106)); have n11_ := mk0 ((by rw [hg]; exact Nat.ne_of_lt (blk_lt (g := gb112) (o := .cells #[.int .i64 x113000_2, .int .i64 x113001_2] 74 (0, 0)) (uB BK112.out)) : gb112 ≠ gb114)); have n12_ := mk0 ((by rw [hg]; exact Nat.ne_of_gt (blk_lt (g := gb112) (o := .cells #[.int .i64 x113000_2, .int .i64 x113001_2] 74 (0, 0)) (uB BK112.out)) : gb114 ≠ gb112)); clear BK105; clear BK106; clear BK112; clear HB; have BK105 := n0_; have BK106 := n1_; have BK112 := n2_; have HB := n3_; have BK114 := n4_; have GW114 := n5_; have GE114 := n6_; have NB105_114 := n7_; have NB114_105 := n8_; have NB106_114 := n9_; have NB114_106 := n10_; have NB112_114 := n11_; have NB114_112 := n12_; clear n0_ n1_ n2_ n3_ n4_ n5_ n6_ n7_ n8_ n9_ n10_ n11_ n12_; clear hb hbox hg; have hnb50 := NB114_105.out; have hnc50 := NB105_114.out; have hnb51 := NB114_106.out; have hnc51 := NB106_114.out; have hnb52 := NB114_112.out; have hnc52 := NB112_114.out; have hcz53_0 : w49.cell? ⟨gb114, 0, none⟩ = some (.int .i64 0) := (blk_cell BK114.out 0).trans rfl; have hcz53_1 : w49.cell? ⟨gb114, 1, none⟩ = some (.int .i64 0) := (blk_cell BK114.out 1).trans rfl; have hcz53_2 : w49.cell? ⟨gb114, 2, none⟩ = some (.string (⟨#[]⟩ : ByteArray)) := (blk_cell BK114.out 2).trans rfl; have hcz53_3 : w49.cell? ⟨gb114, 3, none⟩ = some (.slice none 0 0) := (blk_cell BK114.out 3).trans rfl; have hfz53_0 := blk_frozen BK114.out 0; have hfz53_1 := blk_frozen BK114.out 1; have hfz53_2 := blk_frozen BK114.out 2; have hfz53_3 := blk_frozen BK114.out 3; have hnb54 := NB105_106.out; have hnc54 := NB106_105.out; have hnb55 := NB105_112.out; have hnc55 := NB112_105.out; have hcz56_0 : w49.cell? ⟨gb105, 0, none⟩ = some (.slice A0_0 l0_0.length c0_0) := (blk_cell BK105.out 0).trans rfl; have hcz56_1 : w49.cell? ⟨gb105, 1, none⟩ = some (.int .i64 a0_1) := (blk_cell BK105.out 1).trans rfl; have hfz56_0 := blk_frozen BK105.out 0; have hfz56_1 := blk_frozen BK105.out 1) | (go_at_call 14; (with_reducible refine (ih k2 (by have := HJ8.out; have := HK2.out; omega) _ _ l0_0 a0_1 _ _ l1 ((rd_T24 l2_3 x43_2).f0) ((rd_T24 l2_3 x43_2).f1) ((rd_T24 l2_3 x43_2).f2) _ _ ((rd_T24 l2_3 x43_2).f3) t115 t116 _ ?side1 ?side2 ?side3 ?side4 ?side5 ?side6 A35.out).mono ?_); (case side1 => exact Kd.C_below HR0_0.out (by repeat (first | (with_reducible first | exact HB.out | apply bA | apply bN | apply bD | refine bS ?_ (by assumption)) | exact HB.out))); (case side2 => exact HC0_0.out); (case side3 => exact Kd.C_below HR1.out (by repeat (first | (with_reducible first | exact HB.out | apply bA | apply bN | apply bD | refine bS ?_ (by assumption)) | exact HB.out))); (case side4 => exact HC1.out); (case side5 => exact Kd.C_below HR113_3.out (by repeat (first | (with_reducible first | exact HB.out | apply bA | apply bN | apply bD | refine bS ?_ (by assumption)) | exact HB.out))); (case side6 => exact HC113_3.out); rintro e w57 ⟨v117, rfl, ho0, hb⟩; have n0_ := mk0 (Kd.R_lower ho0 (below_size (by repeat (first | (with_reducible first | exact HB.out | apply bA | apply bN | apply bD | refine bS ?_ (by assumption)) | exact HB.out)))); have n1_ := mk0 (blk_below (g := gb105) (o := .cells #[.slice A0_0 l0_0.length c0_0, .int .i64 a0_1] 46 (0, 0)) (by (with_reducible repeat (first | refine blk_drewN ?_ _ | refine blk_drew ?_ | refine blk_alloc ?_ _)); refine blk_far ?_ NB105_114.out _; (with_reducible repeat (first | refine blk_drewN ?_ _ | refine blk_drew ?_ | refine blk_alloc ?_ _)); refine blk_far ?_ NB105_114.out _; (with_reducible repeat (first | refine blk_drewN ?_ _ | refine blk_drew ?_ | refine blk_alloc ?_ _)); refine blk_far ?_ NB105_114.out _; (with_reducible repeat (first | refine blk_drewN ?_ _ | refine blk_drew ?_ | refine blk_alloc ?_ _)); refine blk_far ?_ NB105_114.out _; (with_reducible repeat (first | refine blk_drewN ?_ _ | refine blk_drew ?_ | refine blk_alloc ?_ _)); exact BK105.out) hb); have n2_ := mk0 (blk_below (g := gb106) (o := .cells #[.int .i64 a2_0, .int .i64 a2_1, .string a2_2, .slice (some ad113) l2_3.length c2_3] 24 (0, 0)) (by (with_reducible repeat (first | refine blk_drewN ?_ _ | refine blk_drew ?_ | refine blk_alloc ?_ _)); refine blk_far ?_ NB106_114.out _; (with_reducible repeat (first | refine blk_drewN ?_ _ | refine blk_drew ?_ | refine blk_alloc ?_ _)); refine blk_far ?_ NB106_114.out _; (with_reducible repeat (first | refine blk_drewN ?_ _ | refine blk_drew ?_ | refine blk_alloc ?_ _)); refine blk_far ?_ NB106_114.out _; (with_reducible repeat (first | refine blk_drewN ?_ _ | refine blk_drew ?_ | refine blk_alloc ?_ _)); refine blk_far ?_ NB106_114.out _; (with_reducible repeat (first | refine blk_drewN ?_ _ | refine blk_drew ?_ | refine blk_alloc ?_ _)); exact BK106.out) hb); have n3_ := mk0 (blk_below (g := gb112) (o := .cells #[.int .i64 x113000_2, .int .i64 x113001_2] 74 (0, 0)) (by (with_reducible repeat (first | refine blk_drewN ?_ _ | refine blk_drew ?_ | refine blk_alloc ?_ _)); refine blk_far ?_ NB112_114.out _; (with_reducible repeat (first | refine blk_drewN ?_ _ | refine blk_drew ?_ | refine blk_alloc ?_ _)); refine blk_far ?_ NB112_114.out _; (with_reducible repeat (first | refine blk_drewN ?_ _ | refine blk_drew ?_ | refine blk_alloc ?_ _)); refine blk_far ?_ NB112_114.out _; (with_reducible repeat (first | refine blk_drewN ?_ _ | refine blk_drew ?_ | refine blk_alloc ?_ _)); refine blk_far ?_ NB112_114.out _; (with_reducible repeat (first | refine blk_drewN ?_ _ | refine blk_drew ?_ | refine blk_alloc ?_ _)); exact BK112.out) hb); have n4_ := mk0 (blk_below (g := gb114) (o := .cells #[.int .i64 ((rd_T24 l2_3 x43_2).f0), .int .i64 ((rd_T24 l2_3 x43_2).f1), .string ((rd_T24 l2_3 x43_2).f2), .slice A113_3 ((rd_T24 l2_3 x43_2).f3).length c113_3] 24 (0, 0)) (by (with_reducible repeat (first | refine blk_drewN ?_ _ | refine blk_drew ?_ | refine blk_alloc ?_ _)); refine blk_put (cs := #[.int .i64 ((rd_T24 l2_3 x43_2).f0), .int .i64 ((rd_T24 l2_3 x43_2).f1), .string ((rd_T24 l2_3 x43_2).f2), .slice none 0 0]) ?_ 3 _ rfl; (with_reducible repeat (first | refine blk_drewN ?_ _ | refine blk_drew ?_ | refine blk_alloc ?_ _)); refine blk_put (cs := #[.int .i64 ((rd_T24 l2_3 x43_2).f0), .int .i64 ((rd_T24 l2_3 x43_2).f1), .string (⟨#[]⟩ : ByteArray), .slice none 0 0]) ?_ 2 _ rfl; (with_reducible repeat (first | refine blk_drewN ?_ _ | refine blk_drew ?_ | refine blk_alloc ?_ _)); refine blk_put (cs := #[.int .i64 ((rd_T24 l2_3 x43_2).f0), .int .i64 0, .string (⟨#[]⟩ : ByteArray), .slice none 0 0]) ?_ 1 _ rfl; (with_reducible repeat (first | refine blk_drewN ?_ _ | refine blk_drew ?_ | refine blk_alloc ?_ _)); refine blk_put (cs := #[.int .i64 0, .int .i64 0, .string (⟨#[]⟩ : ByteArray), .slice none 0 0]) ?_ 0 _ rfl; (with_reducible repeat (first | refine blk_drewN ?_ _ | refine blk_drew ?_ | refine blk_alloc ?_ _)); exact BK114.out) hb); have n5_ := mk0 (below_step (by repeat (first | (with_reducible first | exact HB.out | apply bA | apply bN | apply bD | refine bS ?_ (by assumption)) | exact HB.out)) hb); clear BK105; clear BK106; clear BK112; clear BK114; clear HB; have HO118 := n0_; have BK105 := n1_; have BK106 := n2_; have BK112 := n3_; have BK114 := n4_; have HB := n5_; clear n0_ n1_ n2_ n3_ n4_ n5_; (try clear hb); (try clear hb2); (try clear hk); (try clear hi); (try clear ho0); (first | (have EHO118 := cmpV_no HO118.out (by with_reducible assumption)) | (have EHO118 := cmpV_yes HO118.out (by with_reducible assumption)) | skip); have hx_n : (x43_2 : Int).toNat = 1 := (by rw [HXI.out] <;> rfl); have hx_0 : (0 ≤ x43_2) = True := (by rw [HXI.out] <;> simp); have hx_2 : (x43_2 < 2) = True := (by rw [HXI.out] <;> simp); have hnb58 := NB112_106.out; have hnc58 := NB106_112.out; have hcz59_0 : w57.cell? ⟨gb112, 0, none⟩ = some (.int .i64 x113000_2) := (blk_cell BK112.out 0).trans rfl; have hcz59_1 : w57.cell? ⟨gb112, 1, none⟩ = some (.int .i64 x113001_2) := (blk_cell BK112.out 1).trans rfl; have hfz59_0 := blk_frozen BK112.out 0; have hfz59_1 := blk_frozen BK112.out 1))
             go_roundg k2
             case measure => have := HJ8.out; have := HK2.out; omega
             case rel => exact ⟨(wrap64 (x43_2 + 1)), (x113000_2), (t115), (by first | rfl | (have h_ := HXI.out; unfold wrap64; simp only [Value.int.injEq, true_and]; omega) | (have h_ := HXI.out; simp only [wrap64, Value.int.injEq, true_and]; omega) | (simp; done) | (simp [*]; done) | (simp [bne_nil_, beq_nil_]; done)), H', ⟨by have := HJ8.out; have := HK2.out; omega⟩, ⟨by (with_reducible repeat (first | refine blk_drewN ?_ _ | refine blk_drew ?_ | refine blk_alloc ?_ _)); refine blk_far ?_ NB105_112.out _; (with_reducible repeat (first | refine blk_drewN ?_ _ | refine blk_drew ?_ | refine blk_alloc ?_ _)); exact BK105.out⟩, ⟨by (with_reducible repeat (first | refine blk_drewN ?_ _ | refine blk_drew ?_ | refine blk_alloc ?_ _)); refine blk_far ?_ NB106_112.out _; (with_reducible repeat (first | refine blk_drewN ?_ _ | refine blk_drew ?_ | refine blk_alloc ?_ _)); exact BK106.out⟩, ⟨by (with_reducible repeat (first | refine blk_drewN ?_ _ | refine blk_drew ?_ | refine blk_alloc ?_ _)); refine blk_put (cs := #[.int .i64 x113000_2, .int .i64 x113001_2]) ?_ 1 _ rfl; (with_reducible repeat (first | refine blk_drewN ?_ _ | refine blk_drew ?_ | refine blk_alloc ?_ _)); exact BK112.out⟩, ⟨by repeat (first | (with_reducible first | exact HB.out | apply bA | apply bN | apply bD | refine bS ?_ (by assumption)) | exact HB.out)⟩⟩
            ·rw [if_neg hx_i] at H
             exact absurd H (by simp)
          ·rw [if_neg c36] at H
           have c36b0 : ((t116.length : Int) == 0) = false := beq_eq_false_iff_ne.mpr c36
           have c36b1 : ((t116.length : Int) != 0) = true := bne_iff_ne.mpr c36
           have c36b2 : ¬ (t116 = []) := fun h_ => c36 (by rw [h_]; rfl)
           simp only [Option.some.injEq, Prod.mk.injEq] at H
           obtain ⟨rfl, rfl⟩ := H
           have p113 : 0 ≤ (x43_2 : Int) := of_decide_eq_true (by first | (with_reducible assumption) | assumption)
           have q113 : x43_2 < (l2_3.length : Int) := of_decide_eq_true (by first | (with_reducible assumption) | assumption)
           obtain ⟨ad113, A113_3, c113_3, e113, hx113_0, hx113_1, hx113_2, hx113_3, hl113_3, hi113_3⟩ := at_T24 HR2_3.out x43_2 p113 q113
           cases e113
           replace hx113_0 := (HB.out.cell (World.block_lt_of_cell? w _ hx113_0)).trans hx113_0
           replace hx113_1 := (HB.out.cell (World.block_lt_of_cell? w _ hx113_1)).trans hx113_1
           replace hx113_2 := (HB.out.cell (World.block_lt_of_cell? w _ hx113_2)).trans hx113_2
           replace hx113_3 := (HB.out.cell (World.block_lt_of_cell? w _ hx113_3)).trans hx113_3
           have HR113_3 := mk0 hi113_3
           have HC113_3 := mk0 hl113_3
           clear hi113_3 hl113_3
           replace p113 := eq_true p113
           replace q113 := eq_true q113
           go_wp2_with (first | ((with_reducible refine gate_dst (N := 12) rfl ?_); refine box_event ?hg (N := 12) ?hd (cs := #[.int .i64 0, .int .i64 0, .string (⟨#[]⟩ : ByteArray), .slice none 0 0]) (t := 24) ?hr ?_; (case hd => rfl); (case hg => rfl); (case hr => first | (go_simp; done) | (go_simp; rfl)); intro gb114 hg w60 hbox hb; have n0_ := mk0 (blk_below (g := gb105) (o := .cells #[.slice A0_0 l0_0.length c0_0, .int .i64 a0_1] 46 (0, 0)) (uB BK105.out) hb); have n1_ := mk0 (blk_below (g := gb106) (o := .cells #[.int .i64 a2_0, .int .i64 a2_1, .string a2_2, .slice (some ad113) l2_3.length c2_3] 24 (0, 0)) (uB BK106.out) hb); have n2_ := mk0 (blk_below (g := gb112) (o := .cells #[.int .i64 x113000_2, .int .i64 x113001_2] 74 (0, 0)) (uB BK112.out) hb); have n3_ := mk0 (below_step (by repeat (first | (with_reducible first | exact HB.out | apply bA | apply bN | apply bD | refine bS ?_ (by assumption)) | exact HB.out)) hb); have n4_ := mk0 (hbox); have n5_ := mk0 ((by rw [hg]; exact (below_size (by repeat (first | (with_reducible first | exact HB.out | apply bA | apply bN | apply bD | refine bS ?_ (by assumption)) | exact HB.out))) : w.heap.size ≤ gb114)); have n6_ := mk0 ((by rw [hg]; exact (below_size (by repeat (first | (with_reducible first | exact HB.out | apply bA | apply bN | apply bD | refine bS ?_ (by assumption)) | exact HB.out))) : w.heap.size ≤ gb114)); have n7_ := mk0 ((by rw [hg]; exact Nat.ne_of_lt (blk_lt (g := gb105) (o := .cells #[.slice A0_0 l0_0.length c0_0, .int .i64 a0_1] 46 (0, 0)) (uB BK105.out)) : gb105 ≠ gb114)); have n8_ := mk0 ((by rw [hg]; exact Nat.ne_of_gt (blk_lt (g := gb105) (o := .cells #[.slice A0_0 l0_0.length c0_0, .int .i64 a0_1] 46 (0, 0)) (uB BK105.out)) : gb114 ≠ gb105)); have n9_ := mk0 ((by rw [hg]; exact Nat.ne_of_lt (blk_lt (g := gb106) (o := .cells #[.int .i64 a2_0, .int .i64 a2_1, .string a2_2, .slice (some ad113) l2_3.length c2_3] 24 (0, 0)) (uB BK106.out)) : gb106 ≠ gb114)); have n10_ := mk0 ((by rw [hg]; exact Nat.ne_of_gt (blk_lt (g := gb106) (o := .cells #[.int .i64 a2_0, .int .i64 a2_1, .string a2_2, .slice (some ad113) l2_3.length c2_3] 24 (0, 0)) (uB BK106.out)) : gb114 ≠ gb106)); have n11_ := mk0 ((by rw [hg]; exact Nat.ne_of_lt (blk_lt (g := gb112) (o := .cells #[.int .i64 x113000_2, .int .i64 x113001_2] 74 (0, 0)) (uB BK112.out)) : gb112 ≠ gb114)); have n12_ := mk0 ((by rw [hg]; exact Nat.ne_of_gt (blk_lt (g := gb112) (o := .cells #[.int .i64 x113000_2, .int .i64 x113001_2] 74 (0, 0)) (uB BK112.out)) : gb114 ≠ gb112)); clear BK105; clear BK106; clear BK112; clear HB; have BK105 := n0_; have BK106 := n1_; have BK112 := n2_; have HB := n3_; have BK114 := n4_; have GW114 := n5_; have GE114 := n6_; have NB105_114 := n7_; have NB114_105 := n8_; have NB106_114 := n9_; have NB114_106 := n10_; have NB112_114 := n11_; have NB114_112 := n12_; clear n0_ n1_ n2_ n3_ n4_ n5_ n6_ n7_ n8_ n9_ n10_ n11_ n12_; clear hb hbox hg; have hnb61 := NB114_105.out; have hnc61 := NB105_114.out; have hnb62 := NB114_106.out; have hnc62 := NB106_114.out; have hnb63 := NB114_112.out; have hnc63 := NB112_114.out; have hcz64_0 : w60.cell? ⟨gb114, 0, none⟩ = some (.int .i64 0) := (blk_cell BK114.out 0).trans rfl; have hcz64_1 : w60.cell? ⟨gb114, 1, none⟩ = some (.int .i64 0) := (blk_cell BK114.out 1).trans rfl; have hcz64_2 : w60.cell? ⟨gb114, 2, none⟩ = some (.string (⟨#[]⟩ : ByteArray)) := (blk_cell BK114.out 2).trans rfl; have hcz64_3 : w60.cell? ⟨gb114, 3, none⟩ = some (.slice none 0 0) := (blk_cell BK114.out 3).trans rfl; have hfz64_0 := blk_frozen BK114.out 0; have hfz64_1 := blk_frozen BK114.out 1; have hfz64_2 := blk_frozen BK114.out 2; have hfz64_3 := blk_frozen BK114.out 3; have hnb65 := NB105_106.out; have hnc65 := NB106_105.out; have hnb66 := NB105_112.out; have hnc66 := NB112_105.out; have hcz67_0 : w60.cell? ⟨gb105, 0, none⟩ = some (.slice A0_0 l0_0.length c0_0) := (blk_cell BK105.out 0).trans rfl; have hcz67_1 : w60.cell? ⟨gb105, 1, none⟩ = some (.int .i64 a0_1) := (blk_cell BK105.out 1).trans rfl; have hfz67_0 := blk_frozen BK105.out 0; have hfz67_1 := blk_frozen BK105.out 1) | (go_at_call 14; (with_reducible refine (ih k2 (by have := HJ8.out; have := HK2.out; omega) _ _ l0_0 a0_1 _ _ l1 ((rd_T24 l2_3 x43_2).f0) ((rd_T24 l2_3 x43_2).f1) ((rd_T24 l2_3 x43_2).f2) _ _ ((rd_T24 l2_3 x43_2).f3) t115 t116 _ ?side1 ?side2 ?side3 ?side4 ?side5 ?side6 A35.out).mono ?_); (case side1 => exact Kd.C_below HR0_0.out (by repeat (first | (with_reducible first | exact HB.out | apply bA | apply bN | apply bD | refine bS ?_ (by assumption)) | exact HB.out))); (case side2 => exact HC0_0.out); (case side3 => exact Kd.C_below HR1.out (by repeat (first | (with_reducible first | exact HB.out | apply bA | apply bN | apply bD | refine bS ?_ (by assumption)) | exact HB.out))); (case side4 => exact HC1.out); (case side5 => exact Kd.C_below HR113_3.out (by repeat (first | (with_reducible first | exact HB.out | apply bA | apply bN | apply bD | refine bS ?_ (by assumption)) | exact HB.out))); (case side6 => exact HC113_3.out); rintro e w68 ⟨v117, rfl, ho0, hb⟩; have n0_ := mk0 (Kd.R_lower ho0 (below_size (by repeat (first | (with_reducible first | exact HB.out | apply bA | apply bN | apply bD | refine bS ?_ (by assumption)) | exact HB.out)))); have n1_ := mk0 (blk_below (g := gb105) (o := .cells #[.slice A0_0 l0_0.length c0_0, .int .i64 a0_1] 46 (0, 0)) (by (with_reducible repeat (first | refine blk_drewN ?_ _ | refine blk_drew ?_ | refine blk_alloc ?_ _)); refine blk_far ?_ NB105_114.out _; (with_reducible repeat (first | refine blk_drewN ?_ _ | refine blk_drew ?_ | refine blk_alloc ?_ _)); refine blk_far ?_ NB105_114.out _; (with_reducible repeat (first | refine blk_drewN ?_ _ | refine blk_drew ?_ | refine blk_alloc ?_ _)); refine blk_far ?_ NB105_114.out _; (with_reducible repeat (first | refine blk_drewN ?_ _ | refine blk_drew ?_ | refine blk_alloc ?_ _)); refine blk_far ?_ NB105_114.out _; (with_reducible repeat (first | refine blk_drewN ?_ _ | refine blk_drew ?_ | refine blk_alloc ?_ _)); exact BK105.out) hb); have n2_ := mk0 (blk_below (g := gb106) (o := .cells #[.int .i64 a2_0, .int .i64 a2_1, .string a2_2, .slice (some ad113) l2_3.length c2_3] 24 (0, 0)) (by (with_reducible repeat (first | refine blk_drewN ?_ _ | refine blk_drew ?_ | refine blk_alloc ?_ _)); refine blk_far ?_ NB106_114.out _; (with_reducible repeat (first | refine blk_drewN ?_ _ | refine blk_drew ?_ | refine blk_alloc ?_ _)); refine blk_far ?_ NB106_114.out _; (with_reducible repeat (first | refine blk_drewN ?_ _ | refine blk_drew ?_ | refine blk_alloc ?_ _)); refine blk_far ?_ NB106_114.out _; (with_reducible repeat (first | refine blk_drewN ?_ _ | refine blk_drew ?_ | refine blk_alloc ?_ _)); refine blk_far ?_ NB106_114.out _; (with_reducible repeat (first | refine blk_drewN ?_ _ | refine blk_drew ?_ | refine blk_alloc ?_ _)); exact BK106.out) hb); have n3_ := mk0 (blk_below (g := gb112) (o := .cells #[.int .i64 x113000_2, .int .i64 x113001_2] 74 (0, 0)) (by (with_reducible repeat (first | refine blk_drewN ?_ _ | refine blk_drew ?_ | refine blk_alloc ?_ _)); refine blk_far ?_ NB112_114.out _; (with_reducible repeat (first | refine blk_drewN ?_ _ | refine blk_drew ?_ | refine blk_alloc ?_ _)); refine blk_far ?_ NB112_114.out _; (with_reducible repeat (first | refine blk_drewN ?_ _ | refine blk_drew ?_ | refine blk_alloc ?_ _)); refine blk_far ?_ NB112_114.out _; (with_reducible repeat (first | refine blk_drewN ?_ _ | refine blk_drew ?_ | refine blk_alloc ?_ _)); refine blk_far ?_ NB112_114.out _; (with_reducible repeat (first | refine blk_drewN ?_ _ | refine blk_drew ?_ | refine blk_alloc ?_ _)); exact BK112.out) hb); have n4_ := mk0 (blk_below (g := gb114) (o := .cells #[.int .i64 ((rd_T24 l2_3 x43_2).f0), .int .i64 ((rd_T24 l2_3 x43_2).f1), .string ((rd_T24 l2_3 x43_2).f2), .slice A113_3 ((rd_T24 l2_3 x43_2).f3).length c113_3] 24 (0, 0)) (by (with_reducible repeat (first | refine blk_drewN ?_ _ | refine blk_drew ?_ | refine blk_alloc ?_ _)); refine blk_put (cs := #[.int .i64 ((rd_T24 l2_3 x43_2).f0), .int .i64 ((rd_T24 l2_3 x43_2).f1), .string ((rd_T24 l2_3 x43_2).f2), .slice none 0 0]) ?_ 3 _ rfl; (with_reducible repeat (first | refine blk_drewN ?_ _ | refine blk_drew ?_ | refine blk_alloc ?_ _)); refine blk_put (cs := #[.int .i64 ((rd_T24 l2_3 x43_2).f0), .int .i64 ((rd_T24 l2_3 x43_2).f1), .string (⟨#[]⟩ : ByteArray), .slice none 0 0]) ?_ 2 _ rfl; (with_reducible repeat (first | refine blk_drewN ?_ _ | refine blk_drew ?_ | refine blk_alloc ?_ _)); refine blk_put (cs := #[.int .i64 ((rd_T24 l2_3 x43_2).f0), .int .i64 0, .string (⟨#[]⟩ : ByteArray), .slice none 0 0]) ?_ 1 _ rfl; (with_reducible repeat (first | refine blk_drewN ?_ _ | refine blk_drew ?_ | refine blk_alloc ?_ _)); refine blk_put (cs := #[.int .i64 0, .int .i64 0, .string (⟨#[]⟩ : ByteArray), .slice none 0 0]) ?_ 0 _ rfl; (with_reducible repeat (first | refine blk_drewN ?_ _ | refine blk_drew ?_ | refine blk_alloc ?_ _)); exact BK114.out) hb); have n5_ := mk0 (below_step (by repeat (first | (with_reducible first | exact HB.out | apply bA | apply bN | apply bD | refine bS ?_ (by assumption)) | exact HB.out)) hb); clear BK105; clear BK106; clear BK112; clear BK114; clear HB; have HO118 := n0_; have BK105 := n1_; have BK106 := n2_; have BK112 := n3_; have BK114 := n4_; have HB := n5_; clear n0_ n1_ n2_ n3_ n4_ n5_; (try clear hb); (try clear hb2); (try clear hk); (try clear hi); (try clear ho0); (first | (have EHO118 := cmpV_no HO118.out (by with_reducible assumption)) | (have EHO118 := cmpV_yes HO118.out (by with_reducible assumption)) | skip)))
           go_ret2
           exact ⟨(v117), by first | rfl | (simp [errW_none, errW_some] <;> rfl) | (simp [*, errW_none, errW_some] <;> rfl), uR HO118.out, by repeat (first | (with_reducible first | exact HB.out | apply bA | apply bN | apply bD | refine bS ?_ (by assumption)) | exact HB.out)⟩
         ·rw [if_neg c34] at H
          exact absurd H (by simp)
        ·rw [if_neg c33] at H
         exact absurd H (by simp)
       ·rw [if_neg c32] at H
        have c32b0 : decide (x43_2 < (l2_3.length : Int)) = false := decide_eq_false c32
        clear c32
        by_cases c69 : a2_0 = 4
        ·rw [if_pos c69] at H
         have c69b0 : (a2_0 == 4) = true := beq_iff_eq.mpr c69
         have c69b1 : (a2_0 != 4) = false := bne_eq_false_iff_eq.mpr c69
         clear c69
         simp only [Option.some.injEq, Prod.mk.injEq] at H
         obtain ⟨rfl, rfl⟩ := H
         have hnb70 := NB112_105.out
         have hnc70 := NB105_112.out
         have hnb71 := NB112_106.out
         have hnc71 := NB106_112.out
         have hcz72_0 : wr.cell? ⟨gb112, 0, none⟩ = some (.int .i64 x113000_2) := (blk_cell BK112.out 0).trans rfl
         have hcz72_1 : wr.cell? ⟨gb112, 1, none⟩ = some (.int .i64 x113001_2) := (blk_cell BK112.out 1).trans rfl
         have hfz72_0 := blk_frozen BK112.out 0
         have hfz72_1 := blk_frozen BK112.out 1
         have hnb73 := NB106_105.out
         have hnc73 := NB105_106.out
         have hcz74_0 : wr.cell? ⟨gb106, 0, none⟩ = some (.int .i64 a2_0) := (blk_cell BK106.out 0).trans rfl
         have hcz74_1 : wr.cell? ⟨gb106, 1, none⟩ = some (.int .i64 a2_1) := (blk_cell BK106.out 1).trans rfl
         have hcz74_2 : wr.cell? ⟨gb106, 2, none⟩ = some (.string a2_2) := (blk_cell BK106.out 2).trans rfl
         have hcz74_3 : wr.cell? ⟨gb106, 3, none⟩ = some (.slice A2_3 l2_3.length c2_3) := (blk_cell BK106.out 3).trans rfl
         have hfz74_0 := blk_frozen BK106.out 0
         have hfz74_1 := blk_frozen BK106.out 1
         have hfz74_2 := blk_frozen BK106.out 2
         have hfz74_3 := blk_frozen BK106.out 3
         go_wp2
         repeat (go_quiet (fail); try go_wp2)
         go_ret2
         exact ⟨(.slice none 0 0), by first | rfl | (simp [errW_none, errW_some] <;> rfl) | (simp [*, errW_none, errW_some] <;> rfl), by first | exact Kd.R_nil _ _ _ _ _ | exact Kd.N_nil _ _ _ _ _ | exact Kd.V_nil _ _ _ _ _ | exact Kd.Q_nil _ _ _ _ _ | exact Kd.S_nil _ _ _ _ _, by repeat (first | (with_reducible first | exact HB.out | apply bA | apply bN | apply bD | refine bS ?_ (by assumption)) | exact HB.out)⟩
        ·rw [if_neg c69] at H
         have c69b0 : (a2_0 == 4) = false := beq_eq_false_iff_ne.mpr c69
         have c69b1 : (a2_0 != 4) = true := bne_iff_ne.mpr c69
         by_cases c75 : a2_0 = 6
         ·rw [if_pos c75] at H
          have c75b0 : (a2_0 == 6) = true := beq_iff_eq.mpr c75
          have c75b1 : (a2_0 != 6) = false := bne_eq_false_iff_eq.mpr c75
          clear c75
          simp only [Option.some.injEq, Prod.mk.injEq] at H
          obtain ⟨rfl, rfl⟩ := H
          have hnb76 := NB112_105.out
          have hnc76 := NB105_112.out
          have hnb77 := NB112_106.out
          have hnc77 := NB106_112.out
          have hcz78_0 : wr.cell? ⟨gb112, 0, none⟩ = some (.int .i64 x113000_2) := (blk_cell BK112.out 0).trans rfl
          have hcz78_1 : wr.cell? ⟨gb112, 1, none⟩ = some (.int .i64 x113001_2) := (blk_cell BK112.out 1).trans rfl
          have hfz78_0 := blk_frozen BK112.out 0
          have hfz78_1 := blk_frozen BK112.out 1
          have hnb79 := NB106_105.out
          have hnc79 := NB105_106.out
          have hcz80_0 : wr.cell? ⟨gb106, 0, none⟩ = some (.int .i64 a2_0) := (blk_cell BK106.out 0).trans rfl
          have hcz80_1 : wr.cell? ⟨gb106, 1, none⟩ = some (.int .i64 a2_1) := (blk_cell BK106.out 1).trans rfl
          have hcz80_2 : wr.cell? ⟨gb106, 2, none⟩ = some (.string a2_2) := (blk_cell BK106.out 2).trans rfl
          have hcz80_3 : wr.cell? ⟨gb106, 3, none⟩ = some (.slice A2_3 l2_3.length c2_3) := (blk_cell BK106.out 3).trans rfl
          have hfz80_0 := blk_frozen BK106.out 0
          have hfz80_1 := blk_frozen BK106.out 1
          have hfz80_2 := blk_frozen BK106.out 2
          have hfz80_3 := blk_frozen BK106.out 3
          go_wp2
          repeat (go_quiet (fail); try go_wp2)
          go_ret2
          exact ⟨(.slice none 0 0), by first | rfl | (simp [errW_none, errW_some] <;> rfl) | (simp [*, errW_none, errW_some] <;> rfl), by first | exact Kd.R_nil _ _ _ _ _ | exact Kd.N_nil _ _ _ _ _ | exact Kd.V_nil _ _ _ _ _ | exact Kd.Q_nil _ _ _ _ _ | exact Kd.S_nil _ _ _ _ _, by repeat (first | (with_reducible first | exact HB.out | apply bA | apply bN | apply bD | refine bS ?_ (by assumption)) | exact HB.out)⟩
         ·rw [if_neg c75] at H
          have c75b0 : (a2_0 == 6) = false := beq_eq_false_iff_ne.mpr c75
          have c75b1 : (a2_0 != 6) = true := bne_iff_ne.mpr c75
          by_cases c81 : a2_0 = 5
          ·rw [if_pos c81] at H
           have c81b0 : (a2_0 == 5) = true := beq_iff_eq.mpr c81
           have c81b1 : (a2_0 != 5) = false := bne_eq_false_iff_eq.mpr c81
           clear c81
           simp only [Option.some.injEq, Prod.mk.injEq] at H
           obtain ⟨rfl, rfl⟩ := H
           have hnb82 := NB112_105.out
           have hnc82 := NB105_112.out
           have hnb83 := NB112_106.out
           have hnc83 := NB106_112.out
           have hcz84_0 : wr.cell? ⟨gb112, 0, none⟩ = some (.int .i64 x113000_2) := (blk_cell BK112.out 0).trans rfl
           have hcz84_1 : wr.cell? ⟨gb112, 1, none⟩ = some (.int .i64 x113001_2) := (blk_cell BK112.out 1).trans rfl
           have hfz84_0 := blk_frozen BK112.out 0
           have hfz84_1 := blk_frozen BK112.out 1
           have hnb85 := NB106_105.out
           have hnc85 := NB105_106.out
           have hcz86_0 : wr.cell? ⟨gb106, 0, none⟩ = some (.int .i64 a2_0) := (blk_cell BK106.out 0).trans rfl
           have hcz86_1 : wr.cell? ⟨gb106, 1, none⟩ = some (.int .i64 a2_1) := (blk_cell BK106.out 1).trans rfl
           have hcz86_2 : wr.cell? ⟨gb106, 2, none⟩ = some (.string a2_2) := (blk_cell BK106.out 2).trans rfl
           have hcz86_3 : wr.cell? ⟨gb106, 3, none⟩ = some (.slice A2_3 l2_3.length c2_3) := (blk_cell BK106.out 3).trans rfl
           have hfz86_0 := blk_frozen BK106.out 0
           have hfz86_1 := blk_frozen BK106.out 1
           have hfz86_2 := blk_frozen BK106.out 2
           have hfz86_3 := blk_frozen BK106.out 3
           go_wp2
           repeat (go_quiet (fail); try go_wp2)
           go_ret2
           exact ⟨(.slice none 0 0), by first | rfl | (simp [errW_none, errW_some] <;> rfl) | (simp [*, errW_none, errW_some] <;> rfl), by first | exact Kd.R_nil _ _ _ _ _ | exact Kd.N_nil _ _ _ _ _ | exact Kd.V_nil _ _ _ _ _ | exact Kd.Q_nil _ _ _ _ _ | exact Kd.S_nil _ _ _ _ _, by repeat (first | (with_reducible first | exact HB.out | apply bA | apply bN | apply bD | refine bS ?_ (by assumption)) | exact HB.out)⟩
          ·rw [if_neg c81] at H
           have c81b0 : (a2_0 == 5) = false := beq_eq_false_iff_ne.mpr c81
           have c81b1 : (a2_0 != 5) = true := bne_iff_ne.mpr c81
           by_cases c87 : a2_0 = 7
           ·rw [if_pos c87] at H
            have c87b0 : (a2_0 == 7) = true := beq_iff_eq.mpr c87
            have c87b1 : (a2_0 != 7) = false := bne_eq_false_iff_eq.mpr c87
            clear c87
            simp only [Option.some.injEq, Prod.mk.injEq] at H
            obtain ⟨rfl, rfl⟩ := H
            have hnb88 := NB112_105.out
            have hnc88 := NB105_112.out
            have hnb89 := NB112_106.out
            have hnc89 := NB106_112.out
            have hcz90_0 : wr.cell? ⟨gb112, 0, none⟩ = some (.int .i64 x113000_2) := (blk_cell BK112.out 0).trans rfl
            have hcz90_1 : wr.cell? ⟨gb112, 1, none⟩ = some (.int .i64 x113001_2) := (blk_cell BK112.out 1).trans rfl
            have hfz90_0 := blk_frozen BK112.out 0
            have hfz90_1 := blk_frozen BK112.out 1
            have hnb91 := NB106_105.out
            have hnc91 := NB105_106.out
            have hcz92_0 : wr.cell? ⟨gb106, 0, none⟩ = some (.int .i64 a2_0) := (blk_cell BK106.out 0).trans rfl
            have hcz92_1 : wr.cell? ⟨gb106, 1, none⟩ = some (.int .i64 a2_1) := (blk_cell BK106.out 1).trans rfl
            have hcz92_2 : wr.cell? ⟨gb106, 2, none⟩ = some (.string a2_2) := (blk_cell BK106.out 2).trans rfl
            have hcz92_3 : wr.cell? ⟨gb106, 3, none⟩ = some (.slice A2_3 l2_3.length c2_3) := (blk_cell BK106.out 3).trans rfl
            have hfz92_0 := blk_frozen BK106.out 0
            have hfz92_1 := blk_frozen BK106.out 1
            have hfz92_2 := blk_frozen BK106.out 2
            have hfz92_3 := blk_frozen BK106.out 3
            go_wp2
            repeat (go_quiet (fail); try go_wp2)
            go_ret2
            exact ⟨(.slice none 0 0), by first | rfl | (simp [errW_none, errW_some] <;> rfl) | (simp [*, errW_none, errW_some] <;> rfl), by first | exact Kd.R_nil _ _ _ _ _ | exact Kd.N_nil _ _ _ _ _ | exact Kd.V_nil _ _ _ _ _ | exact Kd.Q_nil _ _ _ _ _ | exact Kd.S_nil _ _ _ _ _, by repeat (first | (with_reducible first | exact HB.out | apply bA | apply bN | apply bD | refine bS ?_ (by assumption)) | exact HB.out)⟩
           ·rw [if_neg c87] at H
            have c87b0 : (a2_0 == 7) = false := beq_eq_false_iff_ne.mpr c87
            have c87b1 : (a2_0 != 7) = true := bne_iff_ne.mpr c87
            by_cases c93 : x113001_2 = 0
            ·rw [if_pos c93] at H
             have c93b0 : (x113001_2 == 0) = true := beq_iff_eq.mpr c93
             have c93b1 : (x113001_2 != 0) = false := bne_eq_false_iff_eq.mpr c93
             clear c93
             simp only [Option.some.injEq, Prod.mk.injEq] at H
             obtain ⟨rfl, rfl⟩ := H
             have hnb94 := NB112_105.out
             have hnc94 := NB105_112.out
             have hnb95 := NB112_106.out
             have hnc95 := NB106_112.out
             have hcz96_0 : wr.cell? ⟨gb112, 0, none⟩ = some (.int .i64 x113000_2) := (blk_cell BK112.out 0).trans rfl
             have hcz96_1 : wr.cell? ⟨gb112, 1, none⟩ = some (.int .i64 x113001_2) := (blk_cell BK112.out 1).trans rfl
             have hfz96_0 := blk_frozen BK112.out 0
             have hfz96_1 := blk_frozen BK112.out 1
             have hnb97 := NB106_105.out
             have hnc97 := NB105_106.out
             have hcz98_0 : wr.cell? ⟨gb106, 0, none⟩ = some (.int .i64 a2_0) := (blk_cell BK106.out 0).trans rfl
             have hcz98_1 : wr.cell? ⟨gb106, 1, none⟩ = some (.int .i64 a2_1) := (blk_cell BK106.out 1).trans rfl
             have hcz98_2 : wr.cell? ⟨gb106, 2, none⟩ = some (.string a2_2) := (blk_cell BK106.out 2).trans rfl
             have hcz98_3 : wr.cell? ⟨gb106, 3, none⟩ = some (.slice A2_3 l2_3.length c2_3) := (blk_cell BK106.out 3).trans rfl
             have hfz98_0 := blk_frozen BK106.out 0
             have hfz98_1 := blk_frozen BK106.out 1
             have hfz98_2 := blk_frozen BK106.out 2
             have hfz98_3 := blk_frozen BK106.out 3
             go_wp2
             repeat (go_quiet (fail); try go_wp2)
             go_ret2
             exact ⟨.slice (some ⟨_, 0, none⟩) 1 1, rfl, Kd.R_lower (errR_new _ (⟨(⟨#[100, 105, 118]⟩ : ByteArray), 0, some 13⟩ : Flt) _) (below_size (by repeat (first | (with_reducible first | exact HB.out | apply bA | apply bN | apply bD | refine bS ?_ (by assumption)) | exact HB.out))), by repeat (first | (with_reducible first | exact HB.out | apply bA | apply bN | apply bD | refine bS ?_ (by assumption)) | exact HB.out)⟩
            ·rw [if_neg c93] at H
             have c93b0 : (x113001_2 == 0) = false := beq_eq_false_iff_ne.mpr c93
             have c93b1 : (x113001_2 != 0) = true := bne_iff_ne.mpr c93
             simp only [Option.some.injEq, Prod.mk.injEq] at H
             obtain ⟨rfl, rfl⟩ := H
             have hnb99 := NB112_105.out
             have hnc99 := NB105_112.out
             have hnb100 := NB112_106.out
             have hnc100 := NB106_112.out
             have hcz101_0 : wr.cell? ⟨gb112, 0, none⟩ = some (.int .i64 x113000_2) := (blk_cell BK112.out 0).trans rfl
             have hcz101_1 : wr.cell? ⟨gb112, 1, none⟩ = some (.int .i64 x113001_2) := (blk_cell BK112.out 1).trans rfl
             have hfz101_0 := blk_frozen BK112.out 0
             have hfz101_1 := blk_frozen BK112.out 1
             have hnb102 := NB106_105.out
             have hnc102 := NB105_106.out
             have hcz103_0 : wr.cell? ⟨gb106, 0, none⟩ = some (.int .i64 a2_0) := (blk_cell BK106.out 0).trans rfl
             have hcz103_1 : wr.cell? ⟨gb106, 1, none⟩ = some (.int .i64 a2_1) := (blk_cell BK106.out 1).trans rfl
             have hcz103_2 : wr.cell? ⟨gb106, 2, none⟩ = some (.string a2_2) := (blk_cell BK106.out 2).trans rfl
             have hcz103_3 : wr.cell? ⟨gb106, 3, none⟩ = some (.slice A2_3 l2_3.length c2_3) := (blk_cell BK106.out 3).trans rfl
             have hfz103_0 := blk_frozen BK106.out 0
             have hfz103_1 := blk_frozen BK106.out 1
             have hfz103_2 := blk_frozen BK106.out 2
             have hfz103_3 := blk_frozen BK106.out 3
             go_wp2
             repeat (go_quiet (fail); try go_wp2)
             go_ret2
             exact ⟨(.slice none 0 0), by first | rfl | (simp [errW_none, errW_some] <;> rfl) | (simp [*, errW_none, errW_some] <;> rfl), by first | exact Kd.R_nil _ _ _ _ _ | exact Kd.N_nil _ _ _ _ _ | exact Kd.V_nil _ _ _ _ _ | exact Kd.Q_nil _ _ _ _ _ | exact Kd.S_nil _ _ _ _ _, by repeat (first | (with_reducible first | exact HB.out | apply bA | apply bN | apply bD | refine bS ?_ (by assumption)) | exact HB.out)⟩
theorem eval_Place.calls (k : Nat) : ∀ (A0_0 : Option Addr) (c0_0 : Nat) (l0_0 : List (S64)) (a0_1 : Int) (A1 : Option Addr) (c1 : Nat) (l1 : List Int) (a2_0 : Int) (a2_1 : Int) (a2_2 : ByteArray) (A2_3 : Option Addr) (c2_3 : Nat) (l2_3 : List (S24)) (r1 : Int) (r2 : List (Flt)) (w : World) (hr0_0 : Kd.C k64 w A0_0 l0_0.length l0_0) (hc0_0 : l0_0.length ≤ c0_0) (hr1 : Kd.C (Kd.int .i64) w A1 l1.length l1) (hc1 : l1.length ≤ c1) (hr2_3 : Kd.C k24 w A2_3 l2_3.length l2_3) (hc2_3 : l2_3.length ≤ c2_3) (h : eval_Place.f k l0_0 a0_1 l1 a2_0 a2_1 a2_2 l2_3 = some (r1, r2)),
  Calls Tryd.prog 18 #[.agg #[.slice A0_0 l0_0.length c0_0, .int .i64 a0_1], .slice A1 l1.length c1, .agg #[.int .i64 a2_0, .int .i64 a2_1, .string a2_2, .slice A2_3 l2_3.length c2_3]] w fun e w' => ∃ v1_ : Value, e = .returned (.tuple #[.int .i64 r1, errV v1_]) ∧ Kd.R fltK 78 w' w.heap.size (fun _ => True) v1_ r2 ∧ Below w.heap.size w w' :=
 eval_Place.calls_of k (fun k' _ => eval_Eval.calls k')
end Go.Proofs.YtmhkijidnpihmaaDoor.X
