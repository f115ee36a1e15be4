-- PRINTED by print.py (a twelfth state) out of the translation. Not trusted: Lean checks it.
import Derived.Test.YtkkpgjkjkcmcbaaDoorXx0
import Derived.Test.YtkkpgjkjkcmcbaaDoorXx10
import Derived.Test.YtkkpgjkjkcmcbaaDoorXx11
import Derived.Test.YtkkpgjkjkcmcbaaDoorXx20
import Derived.Test.YtkkpgjkjkcmcbaaDoorXx5
import Derived.Test.YtkkpgjkjkcmcbaaDoorXx9
import Derived.Test.YtkkpgjkjkcmcbaaDoorHandB
import Derived.Test.YtkkpgjkjkcmcbaaDoorHandH
namespace Go.Proofs.YtkkpgjkjkcmcbaaDoor.X
open Go.Proofs.YtkkpgjkjkcmcbaaDoor.Flt Go.Proofs.YtkkpgjkjkcmcbaaDoor.H Go.RowKit Go.Proofs.YtkkpgjkjkcmcbaaDoorW.PrintWords Go.Proofs.YtkkpgjkjkcmcbaaDoorW.PrintLast Go.Proofs.YtkkpgjkjkcmcbaaDoorW.PrintMore
attribute [local go_sem] max2_int min2_int max_two min_two max_three min_three max_four min_four   -- for this text's walks alone
set_option linter.unusedVariables false
set_option linter.unusedSimpArgs false

/-! ### furrowlaw15_SysTight: function 4 -/
def furrowlaw15_SysTight.j0 : Nat → Int → Int → Bool → Int → List (S59) → List (S59) → Option (Bool)
 | 0, _, _, _, _, _, _ => none
 | k + 1, x1, x2, x22, x442000, x442001, x442002 => if x22 = true then (some true) else ((some (([wrap64 (x1), wrap64 (x2)] : List Int) : List Int)).bind fun y444 => ((sys_Tight.f k x442000 x442001 x442002).bind fun bt447 => (if bt447.2.2.2 = true then ((sys_Holds.f k x442000 x442001 x442002 y444).bind fun t457 => ((furrowlaw15_Of.f k bt447.1 bt447.2.1 bt447.2.2.1).bind fun bt458 => ((furrowref20_Holds.f k bt458.1 bt458.2.1 bt458.2.2 y444).bind fun t465 => (if (t457 != t465) = true then (some false) else ((sys_Bounds.f k x442000 x442001 x442002).bind fun bt466 => (if bt466.2.2 = true then ((furrowlaw15_Of.f k x442000 x442001 x442002).bind fun bt473 => ((furrowref20_Holds.f k bt473.1 bt473.2.1 bt473.2.2 y444).bind fun t480 => (if t480 = true then (if (bt466.1.length : Int) = 2 then (if (bt466.2.1.length : Int) = 2 then (if 0 < (y444.length : Int) then (if 0 < (bt466.1.length : Int) then (if (rd y444 0) ≥ (rd bt466.1 0) then (if 0 < (bt466.2.1.length : Int) then (if (rd y444 0) ≤ (rd bt466.2.1 0) then (if 1 < (y444.length : Int) then (if 1 < (bt466.1.length : Int) then (if (rd y444 1) ≥ (rd bt466.1 1) then (if 1 < (bt466.2.1.length : Int) then (some (decide ((rd y444 1) ≤ (rd bt466.2.1 1)))) else (none)) else (some false)) else (none)) else (none)) else (some false)) else (none)) else (some false)) else (none)) else (none)) else (some false)) else (some false)) else (some true)))) else (some true))))))) else ((sys_Holds.f k x442000 x442001 x442002 y444).bind fun t456 => (some (!t456))))))
def furrowlaw15_SysTight.f (k : Nat) (a0_0 : Int) (l0_1 : List (S59)) (l0_2 : List (S59)) (a1 : Int) (a2 : Int) : Option (Bool) := (furrowlaw15_known.f k).bind fun t442 => (if t442 = true then ((furrowlaw15_Good.f k a0_0 l0_1 l0_2).bind fun t443 => (if t443 = true then (furrowlaw15_SysTight.j0 k a1 a2 (a0_0 != 2) a0_0 l0_1 l0_2) else (furrowlaw15_SysTight.j0 k a1 a2 true a0_0 l0_1 l0_2))) else (some false))
theorem furrowlaw15_SysTight.mono_l : ∀ k, (∀ y0 y1 y2 y3 y4 y5, LeO (furrowlaw15_SysTight.j0 k y0 y1 y2 y3 y4 y5) (furrowlaw15_SysTight.j0 (k + 1) y0 y1 y2 y3 y4 y5))
 | 0 => fun _ _ _ _ _ _ r h => by simp [furrowlaw15_SysTight.j0] at h
 | k + 1 => by
  have ih0 := furrowlaw15_SysTight.mono_l k
  ·intro y0 y1 y2 y3 y4 y5
   unfold furrowlaw15_SysTight.j0
   repeat' first
   | (with_reducible exact ih0 _ _ _ _ _ _)
   | (with_reducible exact furrowlaw15_Good.mono _ _ _ _)
   | (with_reducible exact furrowlaw15_Of.mono _ _ _ _)
   | (with_reducible exact furrowlaw15_known.mono _)
   | (with_reducible exact furrowref20_Holds.mono _ _ _ _ _)
   | (with_reducible exact sys_Bounds.mono _ _ _ _)
   | (with_reducible exact sys_Holds.mono _ _ _ _ _)
   | (with_reducible exact sys_Tight.mono _ _ _ _)
   | (with_reducible exact LeO.refl _)
   | (with_reducible exact LeO.none _)
   | (with_reducible refine LeO.ite ?_ ?_)
   | (with_reducible refine LeO.bind ?_ (fun _ => ?_))
   | exact ih0 _ _ _ _ _ _
   | exact furrowlaw15_Good.mono _ _ _ _
   | exact furrowlaw15_Of.mono _ _ _ _
   | exact furrowlaw15_known.mono _
   | exact furrowref20_Holds.mono _ _ _ _ _
   | exact sys_Bounds.mono _ _ _ _
   | exact sys_Holds.mono _ _ _ _ _
   | exact sys_Tight.mono _ _ _ _
   | exact LeO.none _
   | refine LeO.ite ?_ ?_
   | refine LeO.bind ?_ (fun _ => ?_)
theorem furrowlaw15_SysTight.mono : ∀ a0 a1 a2 a3 a4 k, LeO (furrowlaw15_SysTight.f k a0 a1 a2 a3 a4) (furrowlaw15_SysTight.f (k + 1) a0 a1 a2 a3 a4) := by
 intro a0 a1 a2 a3 a4 k
 have ih0 := furrowlaw15_SysTight.mono_l k
 unfold furrowlaw15_SysTight.f
 repeat' first
   | (with_reducible exact ih0 _ _ _ _ _ _)
   | (with_reducible exact furrowlaw15_Good.mono _ _ _ _)
   | (with_reducible exact furrowlaw15_Of.mono _ _ _ _)
   | (with_reducible exact furrowlaw15_known.mono _)
   | (with_reducible exact furrowref20_Holds.mono _ _ _ _ _)
   | (with_reducible exact sys_Bounds.mono _ _ _ _)
   | (with_reducible exact sys_Holds.mono _ _ _ _ _)
   | (with_reducible exact sys_Tight.mono _ _ _ _)
   | (with_reducible exact LeO.refl _)
   | (with_reducible exact LeO.none _)
   | (with_reducible refine LeO.ite ?_ ?_)
   | (with_reducible refine LeO.bind ?_ (fun _ => ?_))
   | exact ih0 _ _ _ _ _ _
   | exact furrowlaw15_Good.mono _ _ _ _
   | exact furrowlaw15_Of.mono _ _ _ _
   | exact furrowlaw15_known.mono _
   | exact furrowref20_Holds.mono _ _ _ _ _
   | exact sys_Bounds.mono _ _ _ _
   | exact sys_Holds.mono _ _ _ _ _
   | exact sys_Tight.mono _ _ _ _
   | exact LeO.none _
   | refine LeO.ite ?_ ?_
   | refine LeO.bind ?_ (fun _ => ?_)
def furrowlaw15_SysTight.T9 : Bool × List (List Nat × List Nat) := (true, [([], []), ([], []), ([0, 1], [0, 1]), ([], []), ([3, 2], [3]), ([], []), ([4, 5, 4], [4, 5]), ([2, 6], [2, 6])])
def furrowlaw15_SysTight.B9 : List Nat := [0, 0, 3, 0, 15, 0, 63, 127]
theorem furrowlaw15_SysTight.tab9 : rtab .any (opsOf Tryd.f4 9) = furrowlaw15_SysTight.T9 := by kernel_rfl
theorem furrowlaw15_SysTight.bits9 : waitsOk furrowlaw15_SysTight.T9.2 furrowlaw15_SysTight.B9 = true := by kernel_rfl
def furrowlaw15_SysTight.T14 : Bool × List (List Nat × List Nat) := (true, [([], []), ([0], [0]), ([1], [1]), ([2], [2]), ([3], [3]), ([4, 3], [3, 4]), ([5, 3], [3, 5]), ([3, 6], [3, 6]), ([7, 3], [7]), ([8], [8]), ([9, 8], [8, 9]), ([10, 8], [8, 10]), ([8], [8]), ([12, 8], [8, 12]), ([13, 8], [8, 13]), ([11, 14, 8], [8, 11, 14]), ([8, 15], [8, 15]), ([16, 8], [16]), ([17], [17]), ([18, 17], [17, 18]), ([19, 17], [17, 19]), ([17], [17]), ([21, 17], [17, 21]), ([22, 17], [17, 22]), ([20, 23, 17], [17, 20, 23]), ([17, 24], [17, 24]), ([25, 17], [25]), ([26], [26]), ([27, 26], [26, 27]), ([28, 26], [26, 28]), ([26], [26]), ([30, 26], [26, 30]), ([31, 26], [26, 31]), ([29, 32, 26], [26, 29, 32]), ([26, 33], [26, 33]), ([34, 26], [34]), ([35], [35]), ([36, 35], [35, 36]), ([37, 35], [35, 37]), ([35], [35]), ([39, 35], [35, 39]), ([40, 35], [35, 40]), ([38, 41, 35], [35, 38, 41]), ([35, 42], [35, 42]), ([43, 35, 0, 1, 2, 3, 4, 5, 6, 7, 8, 9, 10, 11, 12, 13, 14, 15, 16, 17, 18, 19, 20, 21, 22, 23, 24, 25, 26, 27, 28, 29, 30, 31, 32, 33, 34, 35, 36, 37, 38, 39, 40, 41, 42, 43], [43])])
def furrowlaw15_SysTight.B14 : List Nat := [0, 1, 3, 7, 15, 31, 63, 127, 255, 511, 1023, 2047, 511, 4607, 12799, 32767, 65535, 131071, 262143, 524287, 1048575, 262143, 2359295, 6553599, 16777215, 33554431, 67108863, 134217727, 268435455, 536870911, 134217727, 1207959551, 3355443199, 8589934591, 17179869183, 34359738367, 68719476735, 137438953471, 274877906943, 68719476735, 618475290623, 1717986918399, 4398046511103, 8796093022207, 17592186044415]
theorem furrowlaw15_SysTight.tab14 : rtab .any (opsOf Tryd.f4 14) = furrowlaw15_SysTight.T14 := by kernel_rfl
theorem furrowlaw15_SysTight.bits14 : waitsOk furrowlaw15_SysTight.T14.2 furrowlaw15_SysTight.B14 = true := by kernel_rfl
set_option maxHeartbeats 8000000 in
set_option maxRecDepth 100000 in
theorem furrowlaw15_SysTight.calls (k : Nat) (a0_0 : Int) (A0_1 : Option Addr) (c0_1 : Nat) (l0_1 : List (S59)) (A0_2 : Option Addr) (c0_2 : Nat) (l0_2 : List (S59)) (a1 : Int) (a2 : Int) (w : World) (hr0_1 : Kd.C k59 w A0_1 l0_1.length l0_1) (hc0_1 : l0_1.length ≤ c0_1) (hr0_2 : Kd.C k59 w A0_2 l0_2.length l0_2) (hc0_2 : l0_2.length ≤ c0_2) (hG : Glob w) (h : furrowlaw15_SysTight.f k a0_0 l0_1 l0_2 a1 a2 = some true) :
  Calls Tryd.prog 4 #[.agg #[.int .i64 a0_0, .slice A0_1 l0_1.length c0_1, .slice A0_2 l0_2.length c0_2], .int .i8 a1, .int .i8 a2] w fun e w' => e = .returned (.bool true) ∧ Below w.heap.size w w' := by
 have hu24 := Tryd.underlying24
 have HR0_1 := mk0 hr0_1
 have HC0_1 := mk0 hc0_1
 clear hr0_1 hc0_1
 have HR0_2 := mk0 hr0_2
 have HC0_2 := mk0 hc0_2
 clear hr0_2 hc0_2
 have HG := mk0 hG
 clear hG
 have HB := mk0 (Below.refl w.heap.size w)
 have H : ((furrowlaw15_known.f k).bind fun t442 => (if t442 = true then ((furrowlaw15_Good.f k a0_0 l0_1 l0_2).bind fun t443 => (if t443 = true then (furrowlaw15_SysTight.j0 k a1 a2 (a0_0 != 2) a0_0 l0_1 l0_2) else (furrowlaw15_SysTight.j0 k a1 a2 true a0_0 l0_1 l0_2))) else (some false))) = some true := h
 clear h
 replace H := Option.bind_eq_some_iff.mp H
 obtain ⟨t442, A40, H⟩ := H
 have A4 := mk0 A40
 clear A40
 by_cases c5 : t442 = true
 ·subst c5
  have H1 : ((furrowlaw15_Good.f k a0_0 l0_1 l0_2).bind fun t443 => (if t443 = true then (furrowlaw15_SysTight.j0 k a1 a2 (a0_0 != 2) a0_0 l0_1 l0_2) else (furrowlaw15_SysTight.j0 k a1 a2 true a0_0 l0_1 l0_2))) = some true := by rw [if_pos rfl] at H; first | done | exact H
  clear H
  have H := H1
  clear H1
  have HC6 := mk0 H
  clear H
  go_enter Tryd.func4, Tryd.ntmps4
  go_upto_region 3 with (first | ((with_reducible refine gate_dst (N := 3) rfl ?_); (try (refine gate_guard (by rfl) ?_; dsimp only)); refine bxE 3 #[.int .i64 a0_0, .slice A0_1 l0_1.length c0_1, .slice A0_2 l0_2.length c0_2] 24 ?_; intro gb441 hg w7 hbox hb; have BK441 := mk0 (hbox); have GW441 := mk0 ((by rw [hg]; exact (below_size (uL HB.out)) : w.heap.size ≤ gb441)); have GE441 := mk0 ((by rw [hg]; exact (below_size (uL HB.out)) : w.heap.size ≤ gb441)); replace HB := hbB (uL HB.out) hb; clear hb hbox hg) | ((with_reducible refine gate_dst (N := 13) rfl ?_); refine gsM (some 13) Tryd.func6 #[] ?_; (with_reducible refine (furrowlaw15_known.calls k   _ ?side1 A4.out).mono ?_); (case side1 => exact Glob.below HG.out bH); rintro e w8 ⟨rfl, hb⟩; refine ⟨_, rfl, ?_⟩; replace BK441 := bB BK441 hb; replace HB := hbB bH hb; (try clear hb); (try clear hb2); (try clear hk); (try clear hi)))
  (try simp only [Act.put, List.setIfInBounds_toArray, List.set_cons_zero, List.set_cons_succ])
  go_cut [22] (fun v22 wc => ∃ (kq : Nat) (x22_5 : Bool), v22 = .bool x22_5 ∧ Aside0 (furrowlaw15_SysTight.j0 kq a1 a2 x22_5 a0_0 l0_1 l0_2 = some true) ∧ Aside0 (kq ≤ k) ∧ Aside0 (wc.heap[gb441]? = some (.cells #[.int .i64 a0_0, (.slice A0_1 l0_1.length c0_1), (.slice A0_2 l0_2.length c0_2)] 24 (0, 0))) ∧ Aside0 (Below w.heap.size w wc))
  case first =>
   have H := HC6.out
   clear HC6
   replace H := Option.bind_eq_some_iff.mp H
   obtain ⟨t443, A90, H⟩ := H
   have A9 := mk0 A90
   clear A90
   by_cases c10 : t443 = true
   ·subst c10
    have H1 : (furrowlaw15_SysTight.j0 k a1 a2 (a0_0 != 2) a0_0 l0_1 l0_2) = some true := by rw [if_pos rfl] at H; first | done | exact H
    clear H
    have H := H1
    clear H1
    have H' := mk0 H
    clear H
    obtain ⟨hcz11_0, hcz11_1, hcz11_2, hfz11_0, hfz11_1, hfz11_2⟩ := cL3 BK441
    go_wp2_with (first | ((with_reducible refine gate_dst (N := 16) rfl ?_); refine gsM (some 16) Tryd.func19 #[.agg #[.int .i64 a0_0, .slice A0_1 l0_1.length c0_1, .slice A0_2 l0_2.length c0_2]] ?_; (with_reducible refine (furrowlaw15_Good.calls k a0_0 _ _ l0_1 _ _ l0_2 true _ ?side1 ?side2 ?side3 ?side4 A9.out).mono ?_); (case side1 => exact uC (Kd.C_below HR0_1.out HB.out)); (case side2 => exact HC0_1.out); (case side3 => exact uC (Kd.C_below HR0_2.out HB.out)); (case side4 => exact HC0_2.out); rintro e w12 ⟨rfl, hb⟩; refine ⟨_, rfl, ?_⟩; replace BK441 := bB BK441 hb; replace HB := hbB bH hb; (try clear hb); (try clear hb2); (try clear hk); (try clear hi); obtain ⟨hcz13_0, hcz13_1, hcz13_2, hfz13_0, hfz13_1, hfz13_2⟩ := cL3 BK441))
    go_meet
    case rel => exact ⟨_, ((a0_0 != 2)), (by first | rfl | (simp; done) | (simp [*]; done) | (simp [bne_nil_, beq_nil_]; done)), H', ⟨by first | omega | exact Nat.le_refl _⟩, ⟨uB BK441.out⟩, ⟨bH⟩⟩
   ·replace c10 := Bool.eq_false_iff.mpr c10
    subst c10
    have H1 : (furrowlaw15_SysTight.j0 k a1 a2 true a0_0 l0_1 l0_2) = some true := by rw [if_neg (show ¬ (false = true) by decide)] at H; first | done | exact H
    clear H
    have H := H1
    clear H1
    have H' := mk0 H
    clear H
    obtain ⟨hcz14_0, hcz14_1, hcz14_2, hfz14_0, hfz14_1, hfz14_2⟩ := cL3 BK441
    go_wp2_with (first | ((with_reducible refine gate_dst (N := 16) rfl ?_); refine gsM (some 16) Tryd.func19 #[.agg #[.int .i64 a0_0, .slice A0_1 l0_1.length c0_1, .slice A0_2 l0_2.length c0_2]] ?_; (with_reducible refine (furrowlaw15_Good.calls k a0_0 _ _ l0_1 _ _ l0_2 false _ ?side1 ?side2 ?side3 ?side4 A9.out).mono ?_); (case side1 => exact uC (Kd.C_below HR0_1.out HB.out)); (case side2 => exact HC0_1.out); (case side3 => exact uC (Kd.C_below HR0_2.out HB.out)); (case side4 => exact HC0_2.out); rintro e w15 ⟨rfl, hb⟩; refine ⟨_, rfl, ?_⟩; replace BK441 := bB BK441 hb; replace HB := hbB bH hb; (try clear hb); (try clear hb2); (try clear hk); (try clear hi)))
    go_meet
    case rel => exact ⟨_, (true), (by first | rfl | (simp; done) | (simp [*]; done) | (simp [bne_nil_, beq_nil_]; done)), H', ⟨by first | omega | exact Nat.le_refl _⟩, ⟨uB BK441.out⟩, ⟨bH⟩⟩
  case rest =>
   clear HC6
   try clear c1
   try clear p2
   try clear c4
   try clear c5
   try clear c6
   try clear c10
   try clear hcz11_0
   try clear hcz11_1
   try clear hcz11_2
   try clear hcz13_0
   try clear hcz13_1
   try clear hcz13_2
   try clear hcz14_0
   try clear hcz14_1
   try clear hcz14_2
   try clear hfz11_0
   try clear hfz11_1
   try clear hfz11_2
   try clear hfz13_0
   try clear hfz13_1
   try clear hfz13_2
   try clear hfz14_0
   try clear hfz14_1
   try clear hfz14_2
   obtain ⟨kq, x22_5, rfl, HA, HJ5, BK441, HB⟩ := hcut
   cases kq with
   | zero => exact absurd HA.out (by simp [furrowlaw15_SysTight.j0])
   | succ kj5 =>
    have H := HA.out
    clear HA
    simp only [furrowlaw15_SysTight.j0] at H
    by_cases c16 : x22_5 = true
    ·subst c16
     have H1 : (some true) = some true := by rw [if_pos rfl] at H; first | done | exact H
     clear H
     have H := H1
     clear H1
     have HT := mk0 (Option.some.inj H)
     clear H
     go_wp2
     go_ret
     exact ⟨by first | rfl | (simp [errW_none, errW_some] <;> rfl) | (exact congrArg (fun b_ => Ending.returned (Value.bool b_)) HT.out) | (rw [show _ = _ from HT.out]) | (simp [HT.out]; done) | (simp [show _ = _ from HT.out]; done) | (simp [*, errW_none, errW_some] <;> rfl), bH⟩
    ·replace c16 := Bool.eq_false_iff.mpr c16
     subst c16
     have H1 : ((some (([wrap64 (a1), wrap64 (a2)] : List Int) : List Int)).bind fun y444 => ((sys_Tight.f kj5 a0_0 l0_1 l0_2).bind fun bt447 => (if bt447.2.2.2 = true then ((sys_Holds.f kj5 a0_0 l0_1 l0_2 y444).bind fun t457 => ((furrowlaw15_Of.f kj5 bt447.1 bt447.2.1 bt447.2.2.1).bind fun bt458 => ((furrowref20_Holds.f kj5 bt458.1 bt458.2.1 bt458.2.2 y444).bind fun t465 => (if (t457 != t465) = true then (some false) else ((sys_Bounds.f kj5 a0_0 l0_1 l0_2).bind fun bt466 => (if bt466.2.2 = true then ((furrowlaw15_Of.f kj5 a0_0 l0_1 l0_2).bind fun bt473 => ((furrowref20_Holds.f kj5 bt473.1 bt473.2.1 bt473.2.2 y444).bind fun t480 => (if t480 = true then (if (bt466.1.length : Int) = 2 then (if (bt466.2.1.length : Int) = 2 then (if 0 < (y444.length : Int) then (if 0 < (bt466.1.length : Int) then (if (rd y444 0) ≥ (rd bt466.1 0) then (if 0 < (bt466.2.1.length : Int) then (if (rd y444 0) ≤ (rd bt466.2.1 0) then (if 1 < (y444.length : Int) then (if 1 < (bt466.1.length : Int) then (if (rd y444 1) ≥ (rd bt466.1 1) then (if 1 < (bt466.2.1.length : Int) then (some (decide ((rd y444 1) ≤ (rd bt466.2.1 1)))) else (none)) else (some false)) else (none)) else (none)) else (some false)) else (none)) else (some false)) else (none)) else (none)) else (some false)) else (some false)) else (some true)))) else (some true))))))) else ((sys_Holds.f kj5 a0_0 l0_1 l0_2 y444).bind fun t456 => (some (!t456)))))) = some true := by rw [if_neg (show ¬ (false = true) by decide)] at H; first | done | exact H
     clear H
     have H := H1
     clear H1
     obtain ⟨y444, hy444⟩ : ∃ y_ : List Int, y_ = (([wrap64 (a1), wrap64 (a2)] : List Int)) := ⟨_, rfl⟩
     replace H : ((sys_Tight.f kj5 a0_0 l0_1 l0_2).bind fun bt447 => (if bt447.2.2.2 = true then ((sys_Holds.f kj5 a0_0 l0_1 l0_2 y444).bind fun t457 => ((furrowlaw15_Of.f kj5 bt447.1 bt447.2.1 bt447.2.2.1).bind fun bt458 => ((furrowref20_Holds.f kj5 bt458.1 bt458.2.1 bt458.2.2 y444).bind fun t465 => (if (t457 != t465) = true then (some false) else ((sys_Bounds.f kj5 a0_0 l0_1 l0_2).bind fun bt466 => (if bt466.2.2 = true then ((furrowlaw15_Of.f kj5 a0_0 l0_1 l0_2).bind fun bt473 => ((furrowref20_Holds.f kj5 bt473.1 bt473.2.1 bt473.2.2 y444).bind fun t480 => (if t480 = true then (if (bt466.1.length : Int) = 2 then (if (bt466.2.1.length : Int) = 2 then (if 0 < (y444.length : Int) then (if 0 < (bt466.1.length : Int) then (if (rd y444 0) ≥ (rd bt466.1 0) then (if 0 < (bt466.2.1.length : Int) then (if (rd y444 0) ≤ (rd bt466.2.1 0) then (if 1 < (y444.length : Int) then (if 1 < (bt466.1.length : Int) then (if (rd y444 1) ≥ (rd bt466.1 1) then (if 1 < (bt466.2.1.length : Int) then (some (decide ((rd y444 1) ≤ (rd bt466.2.1 1)))) else (none)) else (some false)) else (none)) else (none)) else (some false)) else (none)) else (some false)) else (none)) else (none)) else (some false)) else (some false)) else (some true)))) else (some true))))))) else ((sys_Holds.f kj5 a0_0 l0_1 l0_2 y444).bind fun t456 => (some (!t456))))) = some true := by first | (rw [hy444]; with_reducible exact H) | (have H2_ := (Option.bind_some _ _).symm.trans H; rw [hy444]; with_reducible exact H2_) | (have H2_ := (Option.bind_some _ _).symm.trans H; with_reducible exact H2_) | with_reducible exact H | (rw [hy444]; exact H) | exact H
     have Ny444 := mk0 hy444
     clear hy444
     replace H := Option.bind_eq_some_iff.mp H
     obtain ⟨⟨t447, t448, t451, t454⟩, A170, H⟩ := H
     dsimp only at H
     have A17 := mk0 A170
     clear A170
     by_cases c18 : t454 = true
     ·subst c18
      have H1 : ((sys_Holds.f kj5 a0_0 l0_1 l0_2 y444).bind fun t457 => ((furrowlaw15_Of.f kj5 t447 t448 t451).bind fun bt458 => ((furrowref20_Holds.f kj5 bt458.1 bt458.2.1 bt458.2.2 y444).bind fun t465 => (if (t457 != t465) = true then (some false) else ((sys_Bounds.f kj5 a0_0 l0_1 l0_2).bind fun bt466 => (if bt466.2.2 = true then ((furrowlaw15_Of.f kj5 a0_0 l0_1 l0_2).bind fun bt473 => ((furrowref20_Holds.f kj5 bt473.1 bt473.2.1 bt473.2.2 y444).bind fun t480 => (if t480 = true then (if (bt466.1.length : Int) = 2 then (if (bt466.2.1.length : Int) = 2 then (if 0 < (y444.length : Int) then (if 0 < (bt466.1.length : Int) then (if (rd y444 0) ≥ (rd bt466.1 0) then (if 0 < (bt466.2.1.length : Int) then (if (rd y444 0) ≤ (rd bt466.2.1 0) then (if 1 < (y444.length : Int) then (if 1 < (bt466.1.length : Int) then (if (rd y444 1) ≥ (rd bt466.1 1) then (if 1 < (bt466.2.1.length : Int) then (some (decide ((rd y444 1) ≤ (rd bt466.2.1 1)))) else (none)) else (some false)) else (none)) else (none)) else (some false)) else (none)) else (some false)) else (none)) else (none)) else (some false)) else (some false)) else (some true)))) else (some true))))))) = some true := by rw [if_pos rfl] at H; first | done | exact H
      clear H
      have H := H1
      clear H1
      replace H := Option.bind_eq_some_iff.mp H
      obtain ⟨t457, A190, H⟩ := H
      have A19 := mk0 A190
      clear A190
      replace H := Option.bind_eq_some_iff.mp H
      obtain ⟨⟨t458, t459, t462⟩, A200, H⟩ := H
      dsimp only at H
      have A20 := mk0 A200
      clear A200
      replace H := Option.bind_eq_some_iff.mp H
      obtain ⟨t465, A210, H⟩ := H
      have A21 := mk0 A210
      clear A210
      by_cases c22 : (t457 != t465) = true
      ·rw [if_pos c22] at H
       have c22b0 : (t457 != t465) = true := c22
       (try (have c22b1 : decide (t457 = t465) = false := by (revert c22; generalize (t457) = p_; generalize (t465) = q_; revert p_ q_; decide)))
       (try (have c22b2 : (t457 == t465) = false := by (revert c22; generalize (t457) = p_; generalize (t465) = q_; revert p_ q_; decide)))
       (try (have c22b3 : ¬ (t457 = t465) := by (revert c22; generalize (t457) = p_; generalize (t465) = q_; revert p_ q_; decide)))
       clear c22
       exact absurd H (by simp)
      ·rw [if_neg c22] at H
       have c22b0 : (t457 != t465) = false := by simpa using c22
       (try (have c22b1 : decide (t457 = t465) = true := by (revert c22; generalize (t457) = p_; generalize (t465) = q_; revert p_ q_; decide)))
       (try (have c22b2 : (t457 == t465) = true := by (revert c22; generalize (t457) = p_; generalize (t465) = q_; revert p_ q_; decide)))
       clear c22
       replace H := Option.bind_eq_some_iff.mp H
       obtain ⟨⟨t466, t469, t472⟩, A230, H⟩ := H
       dsimp only at H
       have A23 := mk0 A230
       clear A230
       by_cases c24 : t472 = true
       ·subst c24
        have H1 : ((furrowlaw15_Of.f kj5 a0_0 l0_1 l0_2).bind fun bt473 => ((furrowref20_Holds.f kj5 bt473.1 bt473.2.1 bt473.2.2 y444).bind fun t480 => (if t480 = true then (if (t466.length : Int) = 2 then (if (t469.length : Int) = 2 then (if 0 < (y444.length : Int) then (if 0 < (t466.length : Int) then (if (rd y444 0) ≥ (rd t466 0) then (if 0 < (t469.length : Int) then (if (rd y444 0) ≤ (rd t469 0) then (if 1 < (y444.length : Int) then (if 1 < (t466.length : Int) then (if (rd y444 1) ≥ (rd t466 1) then (if 1 < (t469.length : Int) then (some (decide ((rd y444 1) ≤ (rd t469 1)))) else (none)) else (some false)) else (none)) else (none)) else (some false)) else (none)) else (some false)) else (none)) else (none)) else (some false)) else (some false)) else (some true)))) = some true := by rw [if_pos rfl] at H; first | done | exact H
        clear H
        have H := H1
        clear H1
        replace H := Option.bind_eq_some_iff.mp H
        obtain ⟨⟨t473, t474, t477⟩, A250, H⟩ := H
        dsimp only at H
        have A25 := mk0 A250
        clear A250
        replace H := Option.bind_eq_some_iff.mp H
        obtain ⟨t480, A260, H⟩ := H
        have A26 := mk0 A260
        clear A260
        by_cases c27 : t480 = true
        ·subst c27
         have H1 : (if (t466.length : Int) = 2 then (if (t469.length : Int) = 2 then (if 0 < (y444.length : Int) then (if 0 < (t466.length : Int) then (if (rd y444 0) ≥ (rd t466 0) then (if 0 < (t469.length : Int) then (if (rd y444 0) ≤ (rd t469 0) then (if 1 < (y444.length : Int) then (if 1 < (t466.length : Int) then (if (rd y444 1) ≥ (rd t466 1) then (if 1 < (t469.length : Int) then (some (decide ((rd y444 1) ≤ (rd t469 1)))) else (none)) else (some false)) else (none)) else (none)) else (some false)) else (none)) else (some false)) else (none)) else (none)) else (some false)) else (some false)) = some true := by rw [if_pos rfl] at H; first | done | exact H
         clear H
         have H := H1
         clear H1
         by_cases c28 : (t466.length : Int) = 2
         ·rw [if_pos c28] at H
          have c28b0 : ((t466.length : Int) == 2) = true := beq_iff_eq.mpr c28
          have c28b1 : ((t466.length : Int) != 2) = false := bne_eq_false_iff_eq.mpr c28
          clear c28
          by_cases c29 : (t469.length : Int) = 2
          ·rw [if_pos c29] at H
           have c29b0 : ((t469.length : Int) == 2) = true := beq_iff_eq.mpr c29
           have c29b1 : ((t469.length : Int) != 2) = false := bne_eq_false_iff_eq.mpr c29
           clear c29
           by_cases c30 : 0 < (y444.length : Int)
           ·rw [if_pos c30] at H
            have c30b0 : decide (0 < (y444.length : Int)) = true := decide_eq_true c30
            have c30b1 : decide (0 < y444.length) = true := decide_eq_true (by omega)
            clear c30
            by_cases c31 : 0 < (t466.length : Int)
            ·rw [if_pos c31] at H
             have c31b0 : decide (0 < (t466.length : Int)) = true := decide_eq_true c31
             have c31b1 : decide (0 < t466.length) = true := decide_eq_true (by omega)
             clear c31
             by_cases c32 : (rd y444 0) ≥ (rd t466 0)
             ·rw [if_pos c32] at H
              have c32b0 : decide ((rd t466 0) ≤ (rd y444 0)) = true := decide_eq_true c32
              clear c32
              by_cases c33 : 0 < (t469.length : Int)
              ·rw [if_pos c33] at H
               have c33b0 : decide (0 < (t469.length : Int)) = true := decide_eq_true c33
               have c33b1 : decide (0 < t469.length) = true := decide_eq_true (by omega)
               clear c33
               by_cases c34 : (rd y444 0) ≤ (rd t469 0)
               ·rw [if_pos c34] at H
                have c34b0 : decide ((rd y444 0) ≤ (rd t469 0)) = true := decide_eq_true c34
                clear c34
                by_cases c35 : 1 < (y444.length : Int)
                ·rw [if_pos c35] at H
                 have c35b0 : decide (1 < (y444.length : Int)) = true := decide_eq_true c35
                 have c35b1 : decide (1 < y444.length) = true := decide_eq_true (by omega)
                 clear c35
                 by_cases c36 : 1 < (t466.length : Int)
                 ·rw [if_pos c36] at H
                  have c36b0 : decide (1 < (t466.length : Int)) = true := decide_eq_true c36
                  have c36b1 : decide (1 < t466.length) = true := decide_eq_true (by omega)
                  clear c36
                  by_cases c37 : (rd y444 1) ≥ (rd t466 1)
                  ·rw [if_pos c37] at H
                   have c37b0 : decide ((rd t466 1) ≤ (rd y444 1)) = true := decide_eq_true c37
                   clear c37
                   by_cases c38 : 1 < (t469.length : Int)
                   ·rw [if_pos c38] at H
                    have c38b0 : decide (1 < (t469.length : Int)) = true := decide_eq_true c38
                    have c38b1 : decide (1 < t469.length) = true := decide_eq_true (by omega)
                    clear c38
                    have HT := mk0 (Option.some.inj H)
                    clear H
                    try go_wp2_with (first | ((with_reducible refine gate_dst (N := 27) rfl ?_); (try (refine gate_guard (by rfl) ?_; dsimp only)); refine Kd.R_lit (Kd.int .i64) _ 2 ?hg (N := 27) ?hd (xs := ([wrap64 (a1), wrap64 (a2)] : List Int)) (inner := [.int .i64 (wrap64 (a1)), .int .i64 (wrap64 (a2))]) (ok := fun _ => True) (okp := fun _ => True) ?hr ?hp (fun _ hk => hk) trivial (Below.refl _ _) (Nat.le_refl _) (by simp) ?_; (case hd => rfl); (case hg => rfl); (case hr => first | (go_simp; done) | (go_simp; rfl)); (case hp => exact (Reps.one (show Kd.M (Kd.int .i64) _ _ _ (wrap64 (a1)) [.int .i64 (wrap64 (a1))] from rfl) (Reps.one (show Kd.M (Kd.int .i64) _ _ _ (wrap64 (a2)) [.int .i64 (wrap64 (a2))] from rfl) (Reps.none _ _)))); intro v445 w39 ho40 hb hg_ hnew_; clear hg_ hnew_; (first | rw [← Ny444.out] at ho40 | (simp only [Int.reduceToNat] at ho40; rw [← Ny444.out] at ho40)); have HO446 := mk0 (Kd.R_lower ho40 (below_size bH)); replace BK441 := bB BK441 hb; replace HB := hbB bH hb; clear hb ho40; obtain ⟨hcz41_0, hcz41_1, hcz41_2, hfz41_0, hfz41_1, hfz41_2⟩ := cL3 BK441) | ((with_reducible refine gate_dst (N := 30) rfl ?_); refine gsM (some 30) Tryd.func12 #[.agg #[.int .i64 a0_0, .slice A0_1 l0_1.length c0_1, .slice A0_2 l0_2.length c0_2]] ?_; (with_reducible refine (sys_Tight.calls kj5 a0_0 (fun k_ => k_ < w.heap.size) _ _ l0_1 (fun k_ => k_ < w.heap.size) _ _ l0_2 t447 t448 t451 true _ ?side1 ?side2 A17.out).mono ?_); (case side1 => exact Kd.V_mk HC0_1.out (Kd.F_below (Kd.C_F k59_heap HR0_1.out) bH)); (case side2 => exact Kd.V_mk HC0_2.out (Kd.F_below (Kd.C_F k59_heap HR0_2.out) bH)); rintro e w42 ⟨v449, v452, rfl, ho0, ho1, hb⟩; refine ⟨_, rfl, ?_⟩; have HO450 := mk0 (Kd.N_lower (Kd.N_mono (ok' := fun k_ => some k_ ≠ (v452 : Value).ownBlock ∧ some k_ ≠ (v445 : Value).ownBlock ∧ k_ ≠ gb441) ho0 (fun k_ hk_ => ⟨hk_.2, Or.elim hk_.1 (fun hs_ => Or.elim hs_ (fun hs_ => fun e_ => Nat.not_le.2 hs_ (Kd.R_base HO446.out k_ e_.symm)) (fun hs_ => fun e_ => Nat.not_le.2 hs_ (Kd.R_base HO446.out k_ e_.symm))) (fun hn_ => (Kd.fresh' (Kd.R_lt (uR HO446.out)) k_ hn_)), Or.elim hk_.1 (fun hs_ => Or.elim hs_ (fun hs_ => fun e_ => Nat.not_le.2 hs_ (by rw [e_]; exact GW441.out)) (fun hs_ => fun e_ => Nat.not_le.2 hs_ (by rw [e_]; exact GW441.out))) (fun hn_ => (Kd.freshB (g := gb441) (o := .cells #[.int .i64 a0_0, .slice A0_1 l0_1.length c0_1, .slice A0_2 l0_2.length c0_2] 24 (0, 0)) (uB BK441.out) k_ hn_))⟩)) (below_size bH)); have HO453 := mk0 (Kd.N_lower (Kd.N_mono (ok' := fun k_ => some k_ ≠ (v449 : Value).ownBlock ∧ some k_ ≠ (v445 : Value).ownBlock ∧ k_ ≠ gb441) ho1 (fun k_ hk_ => ⟨hk_.2, Or.elim hk_.1 (fun hs_ => Or.elim hs_ (fun hs_ => fun e_ => Nat.not_le.2 hs_ (Kd.R_base HO446.out k_ e_.symm)) (fun hs_ => fun e_ => Nat.not_le.2 hs_ (Kd.R_base HO446.out k_ e_.symm))) (fun hn_ => (Kd.fresh' (Kd.R_lt (uR HO446.out)) k_ hn_)), Or.elim hk_.1 (fun hs_ => Or.elim hs_ (fun hs_ => fun e_ => Nat.not_le.2 hs_ (by rw [e_]; exact GW441.out)) (fun hs_ => fun e_ => Nat.not_le.2 hs_ (by rw [e_]; exact GW441.out))) (fun hn_ => (Kd.freshB (g := gb441) (o := .cells #[.int .i64 a0_0, .slice A0_1 l0_1.length c0_1, .slice A0_2 l0_2.length c0_2] 24 (0, 0)) (uB BK441.out) k_ hn_))⟩)) (below_size bH)); replace HO446 := rB HO446 hb; replace BK441 := bB BK441 hb; replace HB := hbB bH hb; (try clear hb); (try clear hb2); (try clear hk); (try clear hi); (try clear ho0); (try clear ho1)) | ((with_reducible refine gate_dst (N := 8) rfl ?_); (try (refine gate_guard (by rfl) ?_; dsimp only)); refine bxE 8 #[.int .i64 0, .slice none 0 0, .slice none 0 0] 24 ?_; intro gb455 hg w43 hbox hb; replace HO446 := rB HO446 hb; replace HO450 := mk0 (Kd.N_below (Kd.N_elderB (uN HO450.out) gb455 (Nat.le_of_eq hg.symm)) hb); replace HO453 := mk0 (Kd.N_below (Kd.N_elderB (uN HO453.out) gb455 (Nat.le_of_eq hg.symm)) hb); have BK455 := mk0 (hbox); have GW455 := mk0 ((by rw [hg]; exact (below_size bH) : w.heap.size ≤ gb455)); have GE455 := mk0 ((by rw [hg]; exact (below_size bH) : w.heap.size ≤ gb455)); replace HB := hbB bH hb; have NB441_455 := mk0 ((by rw [hg]; exact Nat.ne_of_lt (blk_lt (g := gb441) (o := .cells #[.int .i64 a0_0, .slice A0_1 l0_1.length c0_1, .slice A0_2 l0_2.length c0_2] 24 (0, 0)) (uB BK441.out)) : gb441 ≠ gb455)); have NB455_441 := mk0 ((by rw [hg]; exact Nat.ne_of_gt (blk_lt (g := gb441) (o := .cells #[.int .i64 a0_0, .slice A0_1 l0_1.length c0_1, .slice A0_2 l0_2.length c0_2] 24 (0, 0)) (uB BK441.out)) : gb455 ≠ gb441)); replace BK441 := bB BK441 hb; clear hb hbox hg; have hnb44 := NB455_441.out; have hnc44 := NB441_455.out; obtain ⟨hcz45_0, hcz45_1, hcz45_2, hfz45_0, hfz45_1, hfz45_2⟩ := cL3 BK455; obtain ⟨Ao46, co46, eo46⟩ := Kd.N_slice HO450.out; subst eo46; obtain ⟨Ao47, co47, eo47⟩ := Kd.N_slice HO453.out; subst eo47))
                    have n0_ : Aside0 (Kd.R (Kd.int .i64) 2 (((w43.setCell ⟨gb455, 0, none⟩ (.int .i64 t447)).setCell ⟨gb455, 1, none⟩ (.slice Ao46 t448.length co46)).setCell ⟨gb455, 2, none⟩ (.slice Ao47 t451.length co47)) w.heap.size (fun _ => True) v445 y444) := ⟨uR (Kd.R_mono (Kd.R_far (p := ⟨gb455, 2, none⟩) (Kd.R_far (p := ⟨gb455, 1, none⟩) (Kd.R_far (p := ⟨gb455, 0, none⟩) (Kd.R_types HO446.out BK455.out (by decide)) (fun _ hk => hk.2) (.int .i64 t447)) (fun _ hk => hk.2) (.slice Ao46 t448.length co46)) (fun _ hk => hk.2) (.slice Ao47 t451.length co47)) (fun _ hk => trivial))⟩
                    have n1_ : Aside0 (Kd.N k59 59 (((w43.setCell ⟨gb455, 0, none⟩ (.int .i64 t447)).setCell ⟨gb455, 1, none⟩ (.slice Ao46 t448.length co46)).setCell ⟨gb455, 2, none⟩ (.slice Ao47 t451.length co47)) w.heap.size (fun k_ => some k_ ≠ (v445 : Value).ownBlock ∧ some k_ ≠ (.slice Ao47 t451.length co47 : Value).ownBlock ∧ k_ ≠ gb441 ∧ k_ ≠ gb455) (.slice Ao46 t448.length co46) t448) := ⟨uN (Kd.N_mono (Kd.N_far (p := ⟨gb455, 2, none⟩) (Kd.N_far (p := ⟨gb455, 1, none⟩) (Kd.N_far (p := ⟨gb455, 0, none⟩) (Kd.N_mono HO450.out (fun k_ hk => (⟨hk, hk.2⟩ : _ ∧ k_ ≠ gb455))) (fun _ hk => hk.2) (.int .i64 t447)) (fun _ hk => hk.2) (.slice Ao46 t448.length co46)) (fun _ hk => hk.2) (.slice Ao47 t451.length co47)) (fun _ hk => ⟨hk.1.1.2.1, ⟨hk.1.1.1, ⟨hk.1.1.2.2, hk.1.2⟩⟩⟩))⟩
                    have n2_ : Aside0 (Kd.N k59 59 (((w43.setCell ⟨gb455, 0, none⟩ (.int .i64 t447)).setCell ⟨gb455, 1, none⟩ (.slice Ao46 t448.length co46)).setCell ⟨gb455, 2, none⟩ (.slice Ao47 t451.length co47)) w.heap.size (fun k_ => some k_ ≠ (v445 : Value).ownBlock ∧ some k_ ≠ (.slice Ao46 t448.length co46 : Value).ownBlock ∧ k_ ≠ gb441 ∧ k_ ≠ gb455) (.slice Ao47 t451.length co47) t451) := ⟨uN (Kd.N_mono (Kd.N_far (p := ⟨gb455, 2, none⟩) (Kd.N_far (p := ⟨gb455, 1, none⟩) (Kd.N_far (p := ⟨gb455, 0, none⟩) (Kd.N_mono HO453.out (fun k_ hk => (⟨hk, hk.2⟩ : _ ∧ k_ ≠ gb455))) (fun _ hk => hk.2) (.int .i64 t447)) (fun _ hk => hk.2) (.slice Ao46 t448.length co46)) (fun _ hk => hk.2) (.slice Ao47 t451.length co47)) (fun _ hk => ⟨hk.1.1.2.1, ⟨hk.1.1.1, ⟨hk.1.1.2.2, hk.1.2⟩⟩⟩))⟩
                    have n3_ : Aside0 ((((w43.setCell ⟨gb455, 0, none⟩ (.int .i64 t447)).setCell ⟨gb455, 1, none⟩ (.slice Ao46 t448.length co46)).setCell ⟨gb455, 2, none⟩ (.slice Ao47 t451.length co47)).heap[gb441]? = some (.cells #[.int .i64 a0_0, .slice A0_1 l0_1.length c0_1, .slice A0_2 l0_2.length c0_2] 24 (0, 0))) := ⟨by (with_reducible repeat (first | refine blk_drewN ?_ _ | refine blk_drew ?_ | refine blk_alloc ?_ _)); refine blk_far ?_ NB441_455.out _; (with_reducible repeat (first | refine blk_drewN ?_ _ | refine blk_drew ?_ | refine blk_alloc ?_ _)); refine blk_far ?_ NB441_455.out _; (with_reducible repeat (first | refine blk_drewN ?_ _ | refine blk_drew ?_ | refine blk_alloc ?_ _)); refine blk_far ?_ NB441_455.out _; (with_reducible repeat (first | refine blk_drewN ?_ _ | refine blk_drew ?_ | refine blk_alloc ?_ _)); exact BK441.out⟩
                    have n4_ : Aside0 ((((w43.setCell ⟨gb455, 0, none⟩ (.int .i64 t447)).setCell ⟨gb455, 1, none⟩ (.slice Ao46 t448.length co46)).setCell ⟨gb455, 2, none⟩ (.slice Ao47 t451.length co47)).heap[gb455]? = some (.cells #[.int .i64 t447, .slice Ao46 t448.length co46, .slice Ao47 t451.length co47] 24 (0, 0))) := ⟨by (with_reducible repeat (first | refine blk_drewN ?_ _ | refine blk_drew ?_ | refine blk_alloc ?_ _)); refine blk_put (cs := #[.int .i64 t447, .slice Ao46 t448.length co46, .slice none 0 0]) ?_ 2 _ rfl; (with_reducible repeat (first | refine blk_drewN ?_ _ | refine blk_drew ?_ | refine blk_alloc ?_ _)); refine blk_put (cs := #[.int .i64 t447, .slice none 0 0, .slice none 0 0]) ?_ 1 _ rfl; (with_reducible repeat (first | refine blk_drewN ?_ _ | refine blk_drew ?_ | refine blk_alloc ?_ _)); refine blk_put (cs := #[.int .i64 0, .slice none 0 0, .slice none 0 0]) ?_ 0 _ rfl; (with_reducible repeat (first | refine blk_drewN ?_ _ | refine blk_drew ?_ | refine blk_alloc ?_ _)); exact BK455.out⟩
                    have n5_ : Aside0 (Below w.heap.size w (((w43.setCell ⟨gb455, 0, none⟩ (.int .i64 t447)).setCell ⟨gb455, 1, none⟩ (.slice Ao46 t448.length co46)).setCell ⟨gb455, 2, none⟩ (.slice Ao47 t451.length co47))) := ⟨bH⟩
                    (try clear HO446)
                    (try clear HO450)
                    (try clear HO453)
                    (try clear BK441)
                    (try clear BK455)
                    (try clear HB)
                    generalize (((w43.setCell ⟨gb455, 0, none⟩ (.int .i64 t447)).setCell ⟨gb455, 1, none⟩ (.slice Ao46 t448.length co46)).setCell ⟨gb455, 2, none⟩ (.slice Ao47 t451.length co47)) = w48 at n0_ n1_ n2_ n3_ n4_ n5_ ⊢
                    have HO446 := n0_
                    have HO450 := n1_
                    have HO453 := n2_
                    have BK441 := n3_
                    have BK455 := n4_
                    have HB := n5_
                    clear n0_ n1_ n2_ n3_ n4_ n5_
                    replace HO446 := mk0 (Kd.R_drew HO446.out)
                    replace HO450 := mk0 (Kd.N_drew HO450.out)
                    replace HO453 := mk0 (Kd.N_drew HO453.out)
                    replace BK441 := mk0 (blk_drew BK441.out)
                    replace BK455 := mk0 (blk_drew BK455.out)
                    replace HB := mk0 (below_drew1 HB.out)
                    obtain ⟨Ao50, co50, eo50⟩ := Kd.R_slice HO446.out
                    (first | subst eo50 | (injection eo50 with f1_ f2_ f3_; have f4_ := f1_.symm; have f5_ := f3_.symm; clear f1_ f2_ f3_; subst f4_; subst f5_))
                    refine start_ (n := 8) (S := fun w' => w'.cell? ⟨gb441, 0, none⟩ = some (.int .i64 a0_0) ∧ w'.cell? ⟨gb441, 1, none⟩ = some (.slice A0_1 l0_1.length c0_1) ∧ w'.cell? ⟨gb441, 2, none⟩ = some (.slice A0_2 l0_2.length c0_2) ∧ w'.cell? ⟨gb455, 0, none⟩ = some (.int .i64 t447) ∧ w'.cell? ⟨gb455, 1, none⟩ = some (.slice Ao46 t448.length co46) ∧ w'.cell? ⟨gb455, 2, none⟩ = some (.slice Ao47 t451.length co47)) (ds := []) (bts 8 0) (by kernel_rfl) rfl rfl ⟨(blk_cell BK441.out 0).trans rfl, (blk_cell BK441.out 1).trans rfl, (blk_cell BK441.out 2).trans rfl, (blk_cell BK455.out 0).trans rfl, (blk_cell BK455.out 1).trans rfl, (blk_cell BK455.out 2).trans rfl⟩ (fun hHeld => ?_); refine with_tabW furrowlaw15_SysTight.tab9 furrowlaw15_SysTight.bits9 (fun HT_ HW_ => ?_)
                    generalize w48.drew = w49 at HO446 HO450 HO453 BK441 BK455 HB HO446 HO450 HO453 hHeld ⊢
                    refine pA 1 (some 40) 0 8 2 HT_ ?_
                    refine pA 5 (some 44) 2 8 34 HT_ ?_
                    refine tA6 0 (some 39) 34 8 35 HT_ HW_ hHeld ?_
                    refine tA6 3 (some 42) 35 8 43 HT_ HW_ hHeld ?_
                    refine one_ (i := 2) (N := some 41) (bts 8 47) rfl rfl (one_of HT_.out (by kernel_rfl)) (by decide) (fun K hK => ?_)
                    refine goes_ Tryd.func17 (by kernel_rfl) rfl #[.agg #[.int .i64 a0_0, .slice A0_1 l0_1.length c0_1, .slice A0_2 l0_2.length c0_2], .slice Ao50 y444.length co50] (by rfl) rfl rfl (by (try simp only [List.map_toArray, List.map_cons, List.map_nil]); first | done | rfl | (simp only [List.length_drop, List.length_take]; rfl)) ?_
                    with_reducible refine (sys_Holds.calls kj5 a0_0 _ _ l0_1 _ _ l0_2 _ _ y444 t457 _ ?side1 ?side2 ?side3 ?side4 ?side5 ?side6 A19.out).mono ?_
                    (case side1 => exact uC (Kd.C_below HR0_1.out HB.out))
                    (case side2 => exact HC0_1.out)
                    (case side3 => exact uC (Kd.C_below HR0_2.out HB.out))
                    (case side4 => exact HC0_2.out)
                    (case side5 => exact uC ((Kd.R_reads' HO446.out).2.2))
                    (case side6 => exact (Kd.R_reads' HO446.out).2.1)
                    rintro e w51 ⟨rfl, hb⟩
                    refine ⟨_, rfl, ?_⟩
                    replace HO446 := rB HO446 hb
                    replace HO450 := nB HO450 hb
                    replace HO453 := nB HO453 hb
                    replace BK441 := bB BK441 hb
                    replace BK455 := bB BK455 hb
                    replace HB := hbB bH hb
                    (try clear hb)
                    (try clear hb2)
                    (try clear hk)
                    (try clear hi)
                    refine hK.out _ _ ⟨(blk_cell BK441.out 0).trans rfl, (blk_cell BK441.out 1).trans rfl, (blk_cell BK441.out 2).trans rfl, (blk_cell BK455.out 0).trans rfl, (blk_cell BK455.out 1).trans rfl, (blk_cell BK455.out 2).trans rfl⟩ (fun hHeld => ?_)
                    clear hK K
                    refine norm_ (a' := ?_) ?_ ?_
                    rotate_left
                    ·show Act.put _ (some 41) _ = _
                     simp only [Act.put, List.setIfInBounds_toArray, List.set_cons_zero, List.set_cons_succ, i64_w, i32_w]
                     rfl
                    refine one_ (i := 4) (N := some 43) (bts 8 63) rfl rfl (one_of HT_.out (by kernel_rfl)) (by decide) (fun K hK => ?_)
                    refine goes_ Tryd.func9 (by kernel_rfl) rfl #[.agg #[.int .i64 t447, .slice Ao46 t448.length co46, .slice Ao47 t451.length co47]] (by rfl) rfl rfl (by (try simp only [List.map_toArray, List.map_cons, List.map_nil]); first | done | rfl | (simp only [List.length_drop, List.length_take]; rfl)) ?_
                    with_reducible refine (furrowlaw15_Of.calls kj5 t447 (fun k_ => (some k_ ≠ (.slice Ao50 y444.length co50 : Value).ownBlock ∧ (some k_ ≠ (.slice Ao47 t451.length co47 : Value).ownBlock ∧ (k_ ≠ gb441 ∧ k_ ≠ gb455)))) _ _ t448 (fun k_ => (some k_ ≠ (.slice Ao50 y444.length co50 : Value).ownBlock ∧ (some k_ ≠ (.slice Ao46 t448.length co46 : Value).ownBlock ∧ (k_ ≠ gb441 ∧ k_ ≠ gb455)))) _ _ t451 t458 t459 t462 _ ?side1 ?side2 A20.out).mono ?_
                    (case side1 => exact Kd.N_V (HO450.out))
                    (case side2 => exact Kd.N_V (HO453.out))
                    rintro e w52 ⟨v460, v463, rfl, ho0, ho1, hb⟩
                    refine ⟨_, rfl, ?_⟩
                    replace HO450 := mk0 (Kd.N_mono (Kd.N_told (Kd.N_told (Kd.N_old (uN HO450.out) hb) (Kd.N_base ho0)) (Kd.N_base ho1)) (fun _ h_ => h_.1))
                    replace HO453 := mk0 (Kd.N_mono (Kd.N_told (Kd.N_told (Kd.N_old (uN HO453.out) hb) (Kd.N_base ho0)) (Kd.N_base ho1)) (fun _ h_ => h_.1))
                    have HO461 := mk0 (Kd.N_lower (Kd.N_mono (ok' := fun k_ => some k_ ≠ (v463 : Value).ownBlock ∧ some k_ ≠ (.slice Ao50 y444.length co50 : Value).ownBlock ∧ k_ ≠ gb441 ∧ k_ ≠ gb455) ho0 (fun k_ hk_ => ⟨hk_.2, Or.elim hk_.1 (fun hs_ => Or.elim hs_ (fun hs_ => hs_.1) (fun hs_ => hs_.1)) (fun hn_ => (Kd.fresh' (Kd.R_lt (uR HO446.out)) k_ hn_)), Or.elim hk_.1 (fun hs_ => Or.elim hs_ (fun hs_ => hs_.2.2.1) (fun hs_ => hs_.2.2.1)) (fun hn_ => (Kd.freshB (g := gb441) (o := .cells #[.int .i64 a0_0, .slice A0_1 l0_1.length c0_1, .slice A0_2 l0_2.length c0_2] 24 (0, 0)) (uB BK441.out) k_ hn_)), Or.elim hk_.1 (fun hs_ => Or.elim hs_ (fun hs_ => hs_.2.2.2) (fun hs_ => hs_.2.2.2)) (fun hn_ => (Kd.freshB (g := gb455) (o := .cells #[.int .i64 t447, .slice Ao46 t448.length co46, .slice Ao47 t451.length co47] 24 (0, 0)) (uB BK455.out) k_ hn_))⟩)) (below_size bH))
                    have HO464 := mk0 (Kd.N_lower (Kd.N_mono (ok' := fun k_ => some k_ ≠ (v460 : Value).ownBlock ∧ some k_ ≠ (.slice Ao50 y444.length co50 : Value).ownBlock ∧ k_ ≠ gb441 ∧ k_ ≠ gb455) ho1 (fun k_ hk_ => ⟨hk_.2, Or.elim hk_.1 (fun hs_ => Or.elim hs_ (fun hs_ => hs_.1) (fun hs_ => hs_.1)) (fun hn_ => (Kd.fresh' (Kd.R_lt (uR HO446.out)) k_ hn_)), Or.elim hk_.1 (fun hs_ => Or.elim hs_ (fun hs_ => hs_.2.2.1) (fun hs_ => hs_.2.2.1)) (fun hn_ => (Kd.freshB (g := gb441) (o := .cells #[.int .i64 a0_0, .slice A0_1 l0_1.length c0_1, .slice A0_2 l0_2.length c0_2] 24 (0, 0)) (uB BK441.out) k_ hn_)), Or.elim hk_.1 (fun hs_ => Or.elim hs_ (fun hs_ => hs_.2.2.2) (fun hs_ => hs_.2.2.2)) (fun hn_ => (Kd.freshB (g := gb455) (o := .cells #[.int .i64 t447, .slice Ao46 t448.length co46, .slice Ao47 t451.length co47] 24 (0, 0)) (uB BK455.out) k_ hn_))⟩)) (below_size bH))
                    replace HO446 := rB HO446 hb
                    replace BK441 := bB BK441 hb
                    replace BK455 := bB BK455 hb
                    replace HB := hbB bH hb
                    (try clear hb)
                    (try clear hb2)
                    (try clear hk)
                    (try clear hi)
                    (try clear ho0)
                    (try clear ho1)
                    obtain ⟨Ao53, co53, eo53⟩ := Kd.N_slice HO461.out
                    (first | subst eo53 | (injection eo53 with f1_ f2_ f3_; have f4_ := f1_.symm; have f5_ := f3_.symm; clear f1_ f2_ f3_; subst f4_; subst f5_))
                    obtain ⟨Ao54, co54, eo54⟩ := Kd.N_slice HO464.out
                    (first | subst eo54 | (injection eo54 with f1_ f2_ f3_; have f4_ := f1_.symm; have f5_ := f3_.symm; clear f1_ f2_ f3_; subst f4_; subst f5_))
                    refine hK.out _ _ ⟨(blk_cell BK441.out 0).trans rfl, (blk_cell BK441.out 1).trans rfl, (blk_cell BK441.out 2).trans rfl, (blk_cell BK455.out 0).trans rfl, (blk_cell BK455.out 1).trans rfl, (blk_cell BK455.out 2).trans rfl⟩ (fun hHeld => ?_)
                    clear hK K
                    refine norm_ (a' := ?_) ?_ ?_
                    rotate_left
                    ·show Act.put _ (some 43) _ = _
                     simp only [Act.put, List.setIfInBounds_toArray, List.set_cons_zero, List.set_cons_succ, i64_w, i32_w]
                     rfl
                    refine one_ (i := 6) (N := some 45) (bts 8 127) rfl rfl (one_of HT_.out (by kernel_rfl)) (by decide) (fun K hK => ?_)
                    refine goes_ Tryd.func18 (by kernel_rfl) rfl #[.agg #[.int .i64 t458, .slice Ao53 t459.length co53, .slice Ao54 t462.length co54], .slice Ao50 y444.length co50] (by rfl) rfl rfl (by (try simp only [List.map_toArray, List.map_cons, List.map_nil]); first | done | rfl | (simp only [List.length_drop, List.length_take]; rfl)) ?_
                    with_reducible refine (furrowref20_Holds.calls kj5 t458 _ _ t459 _ _ t462 _ _ y444 t465 _ ?side1 ?side2 ?side3 ?side4 ?side5 ?side6 A21.out).mono ?_
                    (case side1 => exact uC ((Kd.N_reads' HO461.out).2.2))
                    (case side2 => exact (Kd.N_reads' HO461.out).2.1)
                    (case side3 => exact uC ((Kd.N_reads' HO464.out).2.2))
                    (case side4 => exact (Kd.N_reads' HO464.out).2.1)
                    (case side5 => exact uC ((Kd.R_reads' HO446.out).2.2))
                    (case side6 => exact (Kd.R_reads' HO446.out).2.1)
                    rintro e w55 ⟨rfl, hb⟩
                    refine ⟨_, rfl, ?_⟩
                    replace HO446 := rB HO446 hb
                    replace HO450 := nB HO450 hb
                    replace HO453 := nB HO453 hb
                    replace HO461 := nB HO461 hb
                    replace HO464 := nB HO464 hb
                    replace BK441 := bB BK441 hb
                    replace BK455 := bB BK455 hb
                    replace HB := hbB bH hb
                    (try clear hb)
                    (try clear hb2)
                    (try clear hk)
                    (try clear hi)
                    refine hK.out _ _ ⟨(blk_cell BK441.out 0).trans rfl, (blk_cell BK441.out 1).trans rfl, (blk_cell BK441.out 2).trans rfl, (blk_cell BK455.out 0).trans rfl, (blk_cell BK455.out 1).trans rfl, (blk_cell BK455.out 2).trans rfl⟩ (fun hHeld => ?_)
                    clear hK K
                    refine norm_ (a' := ?_) ?_ ?_
                    rotate_left
                    ·show Act.put _ (some 45) _ = _
                     simp only [Act.put, List.setIfInBounds_toArray, List.set_cons_zero, List.set_cons_succ, i64_w, i32_w]
                     rfl
                    refine pA 7 (some 46) 127 8 255 HT_ ?_
                    refine done_ (done_of HT_.out (by kernel_rfl)) ?_
                    obtain ⟨hcz56_0, hcz56_1, hcz56_2, hfz56_0, hfz56_1, hfz56_2⟩ := cL3 BK441
                    try go_wp2_with (first | ((with_reducible refine gate_dst (N := 49) rfl ?_); refine gsM (some 49) Tryd.func14 #[.agg #[.int .i64 a0_0, .slice A0_1 l0_1.length c0_1, .slice A0_2 l0_2.length c0_2]] ?_; (with_reducible refine (sys_Bounds.calls kj5 a0_0 _ _ l0_1 _ _ l0_2 t466 t469 true _ ?side1 ?side2 ?side3 ?side4 A23.out).mono ?_); (case side1 => exact uC (Kd.C_below HR0_1.out HB.out)); (case side2 => exact HC0_1.out); (case side3 => exact uC (Kd.C_below HR0_2.out HB.out)); (case side4 => exact HC0_2.out); rintro e w57 ⟨v467, v470, rfl, ho0, ho1, hb⟩; refine ⟨_, rfl, ?_⟩; replace HO450 := mk0 (Kd.N_mono (Kd.N_told (Kd.N_told (Kd.N_old (uN HO450.out) hb) (Kd.R_base ho0)) (Kd.R_base ho1)) (fun _ h_ => h_.1)); replace HO453 := mk0 (Kd.N_mono (Kd.N_told (Kd.N_told (Kd.N_old (uN HO453.out) hb) (Kd.R_base ho0)) (Kd.R_base ho1)) (fun _ h_ => h_.1)); replace HO461 := mk0 (Kd.N_mono (Kd.N_told (Kd.N_told (Kd.N_old (uN HO461.out) hb) (Kd.R_base ho0)) (Kd.R_base ho1)) (fun _ h_ => h_.1)); replace HO464 := mk0 (Kd.N_mono (Kd.N_told (Kd.N_told (Kd.N_old (uN HO464.out) hb) (Kd.R_base ho0)) (Kd.R_base ho1)) (fun _ h_ => h_.1)); have HO468 := mk0 (Kd.R_lower (Kd.R_new' ho0 (Kd.R_lt (uR HO446.out))) (below_size bH)); have HO471 := mk0 (Kd.R_lower (Kd.R_new' ho1 (Kd.R_lt (uR HO446.out))) (below_size bH)); replace HO446 := mk0 (Kd.R_mono (Kd.R_told (Kd.R_told (Kd.R_old (uR HO446.out) hb) (Kd.R_base ho0)) (Kd.R_base ho1)) (fun _ h_ => h_.1)); replace BK441 := bB BK441 hb; replace BK455 := bB BK455 hb; replace HB := hbB bH hb; (try clear hb); (try clear hb2); (try clear hk); (try clear hi); (try clear ho0); (try clear ho1); obtain ⟨hcz58_0, hcz58_1, hcz58_2, hfz58_0, hfz58_1, hfz58_2⟩ := cL3 BK441) | (go_at_call 9; (with_reducible refine (furrowlaw15_Of.calls kj5 a0_0 (fun k_ => k_ < w.heap.size) _ _ l0_1 (fun k_ => k_ < w.heap.size) _ _ l0_2 t473 t474 t477 _ ?side1 ?side2 A25.out).mono ?_); (case side1 => exact Kd.V_mk HC0_1.out (Kd.F_below (Kd.C_F k59_heap HR0_1.out) bH)); (case side2 => exact Kd.V_mk HC0_2.out (Kd.F_below (Kd.C_F k59_heap HR0_2.out) bH)); rintro e w59 ⟨v475, v478, rfl, ho0, ho1, hb⟩; have HO476 := mk0 (Kd.N_lower (Kd.N_mono (ok' := fun k_ => some k_ ≠ (v478 : Value).ownBlock ∧ some k_ ≠ (.slice Ao50 y444.length co50 : Value).ownBlock ∧ some k_ ≠ (.slice Ao46 t448.length co46 : Value).ownBlock ∧ some k_ ≠ (.slice Ao47 t451.length co47 : Value).ownBlock ∧ some k_ ≠ (.slice Ao53 t459.length co53 : Value).ownBlock ∧ some k_ ≠ (.slice Ao54 t462.length co54 : Value).ownBlock ∧ some k_ ≠ (v467 : Value).ownBlock ∧ some k_ ≠ (v470 : Value).ownBlock ∧ k_ ≠ gb441 ∧ k_ ≠ gb455) ho0 (fun k_ hk_ => ⟨hk_.2, Or.elim hk_.1 (fun hs_ => Or.elim hs_ (fun hs_ => fun e_ => Nat.not_le.2 hs_ (Kd.R_base HO446.out k_ e_.symm)) (fun hs_ => fun e_ => Nat.not_le.2 hs_ (Kd.R_base HO446.out k_ e_.symm))) (fun hn_ => (Kd.fresh' (Kd.R_lt (uR HO446.out)) k_ hn_)), Or.elim hk_.1 (fun hs_ => Or.elim hs_ (fun hs_ => fun e_ => Nat.not_le.2 hs_ (Kd.N_base HO450.out k_ e_.symm)) (fun hs_ => fun e_ => Nat.not_le.2 hs_ (Kd.N_base HO450.out k_ e_.symm))) (fun hn_ => (Kd.fresh' (Kd.N_lt (uN HO450.out)) k_ hn_)), Or.elim hk_.1 (fun hs_ => Or.elim hs_ (fun hs_ => fun e_ => Nat.not_le.2 hs_ (Kd.N_base HO453.out k_ e_.symm)) (fun hs_ => fun e_ => Nat.not_le.2 hs_ (Kd.N_base HO453.out k_ e_.symm))) (fun hn_ => (Kd.fresh' (Kd.N_lt (uN HO453.out)) k_ hn_)), Or.elim hk_.1 (fun hs_ => Or.elim hs_ (fun hs_ => fun e_ => Nat.not_le.2 hs_ (Kd.N_base HO461.out k_ e_.symm)) (fun hs_ => fun e_ => Nat.not_le.2 hs_ (Kd.N_base HO461.out k_ e_.symm))) (fun hn_ => (Kd.fresh' (Kd.N_lt (uN HO461.out)) k_ hn_)), Or.elim hk_.1 (fun hs_ => Or.elim hs_ (fun hs_ => fun e_ => Nat.not_le.2 hs_ (Kd.N_base HO464.out k_ e_.symm)) (fun hs_ => fun e_ => Nat.not_le.2 hs_ (Kd.N_base HO464.out k_ e_.symm))) (fun hn_ => (Kd.fresh' (Kd.N_lt (uN HO464.out)) k_ hn_)), Or.elim hk_.1 (fun hs_ => Or.elim hs_ (fun hs_ => fun e_ => Nat.not_le.2 hs_ (Kd.R_base HO468.out k_ e_.symm)) (fun hs_ => fun e_ => Nat.not_le.2 hs_ (Kd.R_base HO468.out k_ e_.symm))) (fun hn_ => (Kd.fresh' (Kd.R_lt (uR HO468.out)) k_ hn_)), Or.elim hk_.1 (fun hs_ => Or.elim hs_ (fun hs_ => fun e_ => Nat.not_le.2 hs_ (Kd.R_base HO471.out k_ e_.symm)) (fun hs_ => fun e_ => Nat.not_le.2 hs_ (Kd.R_base HO471.out k_ e_.symm))) (fun hn_ => (Kd.fresh' (Kd.R_lt (uR HO471.out)) k_ hn_)), Or.elim hk_.1 (fun hs_ => Or.elim hs_ (fun hs_ => fun e_ => Nat.not_le.2 hs_ (by rw [e_]; exact GW441.out)) (fun hs_ => fun e_ => Nat.not_le.2 hs_ (by rw [e_]; exact GW441.out))) (fun hn_ => (Kd.freshB (g := gb441) (o := .cells #[.int .i64 a0_0, .slice A0_1 l0_1.length c0_1, .slice A0_2 l0_2.length c0_2] 24 (0, 0)) (uB BK441.out) k_ hn_)), Or.elim hk_.1 (fun hs_ => Or.elim hs_ (fun hs_ => fun e_ => Nat.not_le.2 hs_ (by rw [e_]; exact GW455.out)) (fun hs_ => fun e_ => Nat.not_le.2 hs_ (by rw [e_]; exact GW455.out))) (fun hn_ => (Kd.freshB (g := gb455) (o := .cells #[.int .i64 t447, .slice Ao46 t448.length co46, .slice Ao47 t451.length co47] 24 (0, 0)) (uB BK455.out) k_ hn_))⟩)) (below_size bH)); have HO479 := mk0 (Kd.N_lower (Kd.N_mono (ok' := fun k_ => some k_ ≠ (v475 : Value).ownBlock ∧ some k_ ≠ (.slice Ao50 y444.length co50 : Value).ownBlock ∧ some k_ ≠ (.slice Ao46 t448.length co46 : Value).ownBlock ∧ some k_ ≠ (.slice Ao47 t451.length co47 : Value).ownBlock ∧ some k_ ≠ (.slice Ao53 t459.length co53 : Value).ownBlock ∧ some k_ ≠ (.slice Ao54 t462.length co54 : Value).ownBlock ∧ some k_ ≠ (v467 : Value).ownBlock ∧ some k_ ≠ (v470 : Value).ownBlock ∧ k_ ≠ gb441 ∧ k_ ≠ gb455) ho1 (fun k_ hk_ => ⟨hk_.2, Or.elim hk_.1 (fun hs_ => Or.elim hs_ (fun hs_ => fun e_ => Nat.not_le.2 hs_ (Kd.R_base HO446.out k_ e_.symm)) (fun hs_ => fun e_ => Nat.not_le.2 hs_ (Kd.R_base HO446.out k_ e_.symm))) (fun hn_ => (Kd.fresh' (Kd.R_lt (uR HO446.out)) k_ hn_)), Or.elim hk_.1 (fun hs_ => Or.elim hs_ (fun hs_ => fun e_ => Nat.not_le.2 hs_ (Kd.N_base HO450.out k_ e_.symm)) (fun hs_ => fun e_ => Nat.not_le.2 hs_ (Kd.N_base HO450.out k_ e_.symm))) (fun hn_ => (Kd.fresh' (Kd.N_lt (uN HO450.out)) k_ hn_)), Or.elim hk_.1 (fun hs_ => Or.elim hs_ (fun hs_ => fun e_ => Nat.not_le.2 hs_ (Kd.N_base HO453.out k_ e_.symm)) (fun hs_ => fun e_ => Nat.not_le.2 hs_ (Kd.N_base HO453.out k_ e_.symm))) (fun hn_ => (Kd.fresh' (Kd.N_lt (uN HO453.out)) k_ hn_)), Or.elim hk_.1 (fun hs_ => Or.elim hs_ (fun hs_ => fun e_ => Nat.not_le.2 hs_ (Kd.N_base HO461.out k_ e_.symm)) (fun hs_ => fun e_ => Nat.not_le.2 hs_ (Kd.N_base HO461.out k_ e_.symm))) (fun hn_ => (Kd.fresh' (Kd.N_lt (uN HO461.out)) k_ hn_)), Or.elim hk_.1 (fun hs_ => Or.elim hs_ (fun hs_ => fun e_ => Nat.not_le.2 hs_ (Kd.N_base HO464.out k_ e_.symm)) (fun hs_ => fun e_ => Nat.not_le.2 hs_ (Kd.N_base HO464.out k_ e_.symm))) (fun hn_ => (Kd.fresh' (Kd.N_lt (uN HO464.out)) k_ hn_)), Or.elim hk_.1 (fun hs_ => Or.elim hs_ (fun hs_ => fun e_ => Nat.not_le.2 hs_ (Kd.R_base HO468.out k_ e_.symm)) (fun hs_ => fun e_ => Nat.not_le.2 hs_ (Kd.R_base HO468.out k_ e_.symm))) (fun hn_ => (Kd.fresh' (Kd.R_lt (uR HO468.out)) k_ hn_)), Or.elim hk_.1 (fun hs_ => Or.elim hs_ (fun hs_ => fun e_ => Nat.not_le.2 hs_ (Kd.R_base HO471.out k_ e_.symm)) (fun hs_ => fun e_ => Nat.not_le.2 hs_ (Kd.R_base HO471.out k_ e_.symm))) (fun hn_ => (Kd.fresh' (Kd.R_lt (uR HO471.out)) k_ hn_)), Or.elim hk_.1 (fun hs_ => Or.elim hs_ (fun hs_ => fun e_ => Nat.not_le.2 hs_ (by rw [e_]; exact GW441.out)) (fun hs_ => fun e_ => Nat.not_le.2 hs_ (by rw [e_]; exact GW441.out))) (fun hn_ => (Kd.freshB (g := gb441) (o := .cells #[.int .i64 a0_0, .slice A0_1 l0_1.length c0_1, .slice A0_2 l0_2.length c0_2] 24 (0, 0)) (uB BK441.out) k_ hn_)), Or.elim hk_.1 (fun hs_ => Or.elim hs_ (fun hs_ => fun e_ => Nat.not_le.2 hs_ (by rw [e_]; exact GW455.out)) (fun hs_ => fun e_ => Nat.not_le.2 hs_ (by rw [e_]; exact GW455.out))) (fun hn_ => (Kd.freshB (g := gb455) (o := .cells #[.int .i64 t447, .slice Ao46 t448.length co46, .slice Ao47 t451.length co47] 24 (0, 0)) (uB BK455.out) k_ hn_))⟩)) (below_size bH)); replace HO446 := rB HO446 hb; replace HO450 := mk0 (Kd.N_mono (Kd.N_told (Kd.N_told (Kd.N_old (uN HO450.out) hb) (Kd.N_base ho0)) (Kd.N_base ho1)) (fun _ h_ => h_.1)); replace HO453 := mk0 (Kd.N_mono (Kd.N_told (Kd.N_told (Kd.N_old (uN HO453.out) hb) (Kd.N_base ho0)) (Kd.N_base ho1)) (fun _ h_ => h_.1)); replace HO461 := mk0 (Kd.N_mono (Kd.N_told (Kd.N_told (Kd.N_old (uN HO461.out) hb) (Kd.N_base ho0)) (Kd.N_base ho1)) (fun _ h_ => h_.1)); replace HO464 := mk0 (Kd.N_mono (Kd.N_told (Kd.N_told (Kd.N_old (uN HO464.out) hb) (Kd.N_base ho0)) (Kd.N_base ho1)) (fun _ h_ => h_.1)); replace HO468 := rB HO468 hb; replace HO471 := rB HO471 hb; replace BK441 := bB BK441 hb; replace BK455 := bB BK455 hb; replace HB := hbB bH hb; (try clear hb); (try clear hb2); (try clear hk); (try clear hi); (try clear ho0); (try clear ho1); obtain ⟨Ao60, co60, eo60⟩ := Kd.N_slice HO476.out; subst eo60; obtain ⟨Ao61, co61, eo61⟩ := Kd.N_slice HO479.out; subst eo61) | (go_at_call 18; (with_reducible refine (furrowref20_Holds.calls kj5 t473 _ _ t474 _ _ t477 _ _ y444 true _ ?side1 ?side2 ?side3 ?side4 ?side5 ?side6 A26.out).mono ?_); (case side1 => exact uC ((Kd.N_reads' HO476.out).2.2)); (case side2 => exact (Kd.N_reads' HO476.out).2.1); (case side3 => exact uC ((Kd.N_reads' HO479.out).2.2)); (case side4 => exact (Kd.N_reads' HO479.out).2.1); (case side5 => exact uC ((Kd.R_reads' HO446.out).2.2)); (case side6 => exact (Kd.R_reads' HO446.out).2.1); rintro e w62 ⟨rfl, hb⟩; replace HO446 := rB HO446 hb; replace HO450 := nB HO450 hb; replace HO453 := nB HO453 hb; replace HO461 := nB HO461 hb; replace HO464 := nB HO464 hb; replace HO468 := rB HO468 hb; replace HO471 := rB HO471 hb; replace HO476 := nB HO476 hb; replace HO479 := nB HO479 hb; replace BK441 := bB BK441 hb; replace BK455 := bB BK455 hb; replace HB := hbB bH hb; (try clear hb); (try clear hb2); (try clear hk); (try clear hi)))
                    replace HO446 := mk0 (Kd.R_drew HO446.out)
                    replace HO450 := mk0 (Kd.N_drew HO450.out)
                    replace HO453 := mk0 (Kd.N_drew HO453.out)
                    replace HO461 := mk0 (Kd.N_drew HO461.out)
                    replace HO464 := mk0 (Kd.N_drew HO464.out)
                    replace HO468 := mk0 (Kd.R_drew HO468.out)
                    replace HO471 := mk0 (Kd.R_drew HO471.out)
                    replace HO476 := mk0 (Kd.N_drew HO476.out)
                    replace HO479 := mk0 (Kd.N_drew HO479.out)
                    replace BK441 := mk0 (blk_drew BK441.out)
                    replace BK455 := mk0 (blk_drew BK455.out)
                    replace HB := mk0 (below_drew1 HB.out)
                    obtain ⟨Ao64, co64, eo64⟩ := Kd.R_slice HO468.out
                    (first | subst eo64 | (injection eo64 with f1_ f2_ f3_; have f4_ := f1_.symm; have f5_ := f3_.symm; clear f1_ f2_ f3_; subst f4_; subst f5_))
                    obtain ⟨Ao65, co65, eo65⟩ := Kd.R_slice HO471.out
                    (first | subst eo65 | (injection eo65 with f1_ f2_ f3_; have f4_ := f1_.symm; have f5_ := f3_.symm; clear f1_ f2_ f3_; subst f4_; subst f5_))
                    have p481 : 0 ≤ (0 : Int) := (by omega)
                    have q481 : 0 < (y444.length : Int) := of_decide_eq_true (by first | (with_reducible assumption) | assumption)
                    obtain ⟨ad481, e481, hx481_0⟩ := Kd.at_int (Kd.R_reads' HO446.out).2.2 0 p481 q481
                    cases e481
                    have qi481 : (0 < y444.length) = True := eq_true (by omega)
                    (try rw [show ((0 : Int)).toNat = 0 from rfl] at hx481_0)
                    (try rw [Addr.add_zero'] at hx481_0)
                    replace p481 := eq_true p481
                    replace q481 := eq_true q481
                    have p482 : 0 ≤ (0 : Int) := (by omega)
                    have q482 : 0 < (t466.length : Int) := of_decide_eq_true (by first | (with_reducible assumption) | assumption)
                    obtain ⟨ad482, e482, hx482_0⟩ := Kd.at_int (Kd.R_reads' HO468.out).2.2 0 p482 q482
                    cases e482
                    have qi482 : (0 < t466.length) = True := eq_true (by omega)
                    (try rw [show ((0 : Int)).toNat = 0 from rfl] at hx482_0)
                    (try rw [Addr.add_zero'] at hx482_0)
                    replace p482 := eq_true p482
                    replace q482 := eq_true q482
                    have p483 : 0 ≤ (0 : Int) := (by omega)
                    have q483 : 0 < (y444.length : Int) := of_decide_eq_true (by first | (with_reducible assumption) | assumption)
                    obtain ⟨ad483, e483, hx483_0⟩ := Kd.at_int (Kd.R_reads' HO446.out).2.2 0 p483 q483
                    obtain rfl : ad481 = ad483 := (by injection e483)
                    have qi483 : (0 < y444.length) = True := eq_true (by omega)
                    (try rw [show ((0 : Int)).toNat = 0 from rfl] at hx483_0)
                    (try rw [Addr.add_zero'] at hx483_0)
                    replace p483 := eq_true p483
                    replace q483 := eq_true q483
                    have p484 : 0 ≤ (0 : Int) := (by omega)
                    have q484 : 0 < (t469.length : Int) := of_decide_eq_true (by first | (with_reducible assumption) | assumption)
                    obtain ⟨ad484, e484, hx484_0⟩ := Kd.at_int (Kd.R_reads' HO471.out).2.2 0 p484 q484
                    cases e484
                    have qi484 : (0 < t469.length) = True := eq_true (by omega)
                    (try rw [show ((0 : Int)).toNat = 0 from rfl] at hx484_0)
                    (try rw [Addr.add_zero'] at hx484_0)
                    replace p484 := eq_true p484
                    replace q484 := eq_true q484
                    have p485 : 0 ≤ (1 : Int) := (by omega)
                    have q485 : 1 < (y444.length : Int) := of_decide_eq_true (by first | (with_reducible assumption) | assumption)
                    obtain ⟨ad485, e485, hx485_0⟩ := Kd.at_int (Kd.R_reads' HO446.out).2.2 1 p485 q485
                    obtain rfl : ad481 = ad485 := (by injection e485)
                    (try simp only [show (1 : Int).toNat = 1 from rfl, Nat.reduceMul, Nat.reduceEqDiff, Go.Addr.add, ↓reduceIte] at hx485_0)
                    have qi485 : (1 < y444.length) = True := eq_true (by omega)
                    (try rw [show ((1 : Int)).toNat = 1 from rfl] at hx485_0)
                    replace p485 := eq_true p485
                    replace q485 := eq_true q485
                    have p486 : 0 ≤ (1 : Int) := (by omega)
                    have q486 : 1 < (t466.length : Int) := of_decide_eq_true (by first | (with_reducible assumption) | assumption)
                    obtain ⟨ad486, e486, hx486_0⟩ := Kd.at_int (Kd.R_reads' HO468.out).2.2 1 p486 q486
                    obtain rfl : ad482 = ad486 := (by injection e486)
                    (try simp only [show (1 : Int).toNat = 1 from rfl, Nat.reduceMul, Nat.reduceEqDiff, Go.Addr.add, ↓reduceIte] at hx486_0)
                    have qi486 : (1 < t466.length) = True := eq_true (by omega)
                    (try rw [show ((1 : Int)).toNat = 1 from rfl] at hx486_0)
                    replace p486 := eq_true p486
                    replace q486 := eq_true q486
                    have p487 : 0 ≤ (1 : Int) := (by omega)
                    have q487 : 1 < (y444.length : Int) := of_decide_eq_true (by first | (with_reducible assumption) | assumption)
                    obtain ⟨ad487, e487, hx487_0⟩ := Kd.at_int (Kd.R_reads' HO446.out).2.2 1 p487 q487
                    obtain rfl : ad481 = ad487 := (by injection e487)
                    (try simp only [show (1 : Int).toNat = 1 from rfl, Nat.reduceMul, Nat.reduceEqDiff, Go.Addr.add, ↓reduceIte] at hx487_0)
                    have qi487 : (1 < y444.length) = True := eq_true (by omega)
                    (try rw [show ((1 : Int)).toNat = 1 from rfl] at hx487_0)
                    replace p487 := eq_true p487
                    replace q487 := eq_true q487
                    have p488 : 0 ≤ (1 : Int) := (by omega)
                    have q488 : 1 < (t469.length : Int) := of_decide_eq_true (by first | (with_reducible assumption) | assumption)
                    obtain ⟨ad488, e488, hx488_0⟩ := Kd.at_int (Kd.R_reads' HO471.out).2.2 1 p488 q488
                    obtain rfl : ad484 = ad488 := (by injection e488)
                    (try simp only [show (1 : Int).toNat = 1 from rfl, Nat.reduceMul, Nat.reduceEqDiff, Go.Addr.add, ↓reduceIte] at hx488_0)
                    have qi488 : (1 < t469.length) = True := eq_true (by omega)
                    (try rw [show ((1 : Int)).toNat = 1 from rfl] at hx488_0)
                    replace p488 := eq_true p488
                    replace q488 := eq_true q488
                    refine start_ (n := 45) (S := fun w' => w'.cell? ad481 = some (.int .i64 (rd y444 0)) ∧ w'.cell? ad482 = some (.int .i64 (rd t466 0)) ∧ w'.cell? ad481 = some (.int .i64 (rd y444 0)) ∧ w'.cell? ad484 = some (.int .i64 (rd t469 0)) ∧ w'.cell? ⟨ad481.block, ad481.off + 1, none⟩ = some (.int .i64 (rd y444 1)) ∧ w'.cell? ⟨ad482.block, ad482.off + 1, none⟩ = some (.int .i64 (rd t466 1)) ∧ w'.cell? ⟨ad481.block, ad481.off + 1, none⟩ = some (.int .i64 (rd y444 1)) ∧ w'.cell? ⟨ad484.block, ad484.off + 1, none⟩ = some (.int .i64 (rd t469 1))) (ds := []) (bts 45 0) (by kernel_rfl) rfl rfl ⟨hx481_0, hx482_0, hx483_0, hx484_0, hx485_0, hx486_0, hx487_0, hx488_0⟩ (fun hHeld => ?_); refine with_tabW furrowlaw15_SysTight.tab14 furrowlaw15_SysTight.bits14 (fun HT_ HW_ => ?_)
                    generalize w62.drew = w63 at HO446 HO450 HO453 HO461 HO464 HO468 HO471 HO476 HO479 BK441 BK455 HB hx481_0 hx482_0 hx483_0 hx484_0 hx485_0 hx486_0 hx487_0 hx488_0 hHeld ⊢
                    refine pA 0 (some 62) 0 45 1 HT_ ?_
                    refine pA 1 (some 63) 1 45 3 HT_ ?_
                    refine pA 2 (some 64) 3 45 7 HT_ ?_
                    refine pA 3 (some 65) 7 45 15 HT_ ?_
                    refine pA 4 (some 66) 15 45 31 HT_ ?_
                    refine pA 5 (some 67) 31 45 63 HT_ ?_
                    refine pA 6 (some 68) 63 45 127 HT_ ?_
                    refine pA 7 (some 69) 127 45 255 HT_ ?_
                    refine pA 8 (some 70) 255 45 511 HT_ ?_
                    refine pA 9 (some 71) 511 45 1023 HT_ ?_
                    refine pA 10 (some 72) 1023 45 2047 HT_ ?_
                    refine pA 12 (some 74) 2047 45 6143 HT_ ?_
                    refine pA 13 (some 75) 6143 45 14335 HT_ ?_
                    refine tA8 11 (some 73) 14335 45 16383 HT_ HW_ hHeld ?_
                    refine tA8 14 (some 76) 16383 45 32767 HT_ HW_ hHeld ?_
                    refine pA 15 (some 77) 32767 45 65535 HT_ ?_
                    refine pA 16 (some 78) 65535 45 131071 HT_ ?_
                    refine pA 17 (some 79) 131071 45 262143 HT_ ?_
                    refine pA 18 (some 80) 262143 45 524287 HT_ ?_
                    refine pA 19 (some 81) 524287 45 1048575 HT_ ?_
                    refine pA 21 (some 83) 1048575 45 3145727 HT_ ?_
                    refine pA 22 (some 84) 3145727 45 7340031 HT_ ?_
                    refine tA8 20 (some 82) 7340031 45 8388607 HT_ HW_ hHeld ?_
                    refine tA8 23 (some 85) 8388607 45 16777215 HT_ HW_ hHeld ?_
                    refine pA 24 (some 86) 16777215 45 33554431 HT_ ?_
                    refine pA 25 (some 87) 33554431 45 67108863 HT_ ?_
                    refine pA 26 (some 88) 67108863 45 134217727 HT_ ?_
                    refine pA 27 (some 89) 134217727 45 268435455 HT_ ?_
                    refine pA 28 (some 90) 268435455 45 536870911 HT_ ?_
                    refine pA 30 (some 92) 536870911 45 1610612735 HT_ ?_
                    refine pA 31 (some 93) 1610612735 45 3758096383 HT_ ?_
                    refine tA8 29 (some 91) 3758096383 45 4294967295 HT_ HW_ hHeld ?_
                    refine tA8 32 (some 94) 4294967295 45 8589934591 HT_ HW_ hHeld ?_
                    refine pA 33 (some 95) 8589934591 45 17179869183 HT_ ?_
                    refine pA 34 (some 96) 17179869183 45 34359738367 HT_ ?_
                    refine pA 35 (some 97) 34359738367 45 68719476735 HT_ ?_
                    refine pA 36 (some 98) 68719476735 45 137438953471 HT_ ?_
                    refine pA 37 (some 99) 137438953471 45 274877906943 HT_ ?_
                    refine pA 39 (some 101) 274877906943 45 824633720831 HT_ ?_
                    refine pA 40 (some 102) 824633720831 45 1924145348607 HT_ ?_
                    refine tA8 38 (some 100) 1924145348607 45 2199023255551 HT_ HW_ hHeld ?_
                    refine tA8 41 (some 103) 2199023255551 45 4398046511103 HT_ HW_ hHeld ?_
                    refine pA 42 (some 104) 4398046511103 45 8796093022207 HT_ ?_
                    refine pA 43 (some 105) 8796093022207 45 17592186044415 HT_ ?_
                    refine pA 44 (some 6) 17592186044415 45 35184372088831 HT_ ?_
                    refine done_ (done_of HT_.out (by kernel_rfl)) ?_
                    try go_wp2
                    all_goals (try (exfalso; rename_i h_; rw [c22b2] at h_; revert h_; decide))
                    go_ret
                    exact ⟨by first | rfl | (simp [errW_none, errW_some] <;> rfl) | (exact congrArg (fun b_ => Ending.returned (Value.bool b_)) HT.out) | (rw [show _ = _ from HT.out]) | (simp [HT.out]; done) | (simp [show _ = _ from HT.out]; done) | (simp [*, errW_none, errW_some] <;> rfl), bH⟩
                   ·rw [if_neg c38] at H
                    exact absurd H (by simp)
                  ·rw [if_neg c37] at H
                   have c37b0 : decide ((rd t466 1) ≤ (rd y444 1)) = false := decide_eq_false c37
                   clear c37
                   exact absurd H (by simp)
                 ·rw [if_neg c36] at H
                  exact absurd H (by simp)
                ·rw [if_neg c35] at H
                 exact absurd H (by simp)
               ·rw [if_neg c34] at H
                have c34b0 : decide ((rd y444 0) ≤ (rd t469 0)) = false := decide_eq_false c34
                clear c34
                exact absurd H (by simp)
              ·rw [if_neg c33] at H
               exact absurd H (by simp)
             ·rw [if_neg c32] at H
              have c32b0 : decide ((rd t466 0) ≤ (rd y444 0)) = false := decide_eq_false c32
              clear c32
              exact absurd H (by simp)
            ·rw [if_neg c31] at H
             exact absurd H (by simp)
           ·rw [if_neg c30] at H
            exact absurd H (by simp)
          ·rw [if_neg c29] at H
           have c29b0 : ((t469.length : Int) == 2) = false := beq_eq_false_iff_ne.mpr c29
           have c29b1 : ((t469.length : Int) != 2) = true := bne_iff_ne.mpr c29
           exact absurd H (by simp)
         ·rw [if_neg c28] at H
          have c28b0 : ((t466.length : Int) == 2) = false := beq_eq_false_iff_ne.mpr c28
          have c28b1 : ((t466.length : Int) != 2) = true := bne_iff_ne.mpr c28
          exact absurd H (by simp)
        ·replace c27 := Bool.eq_false_iff.mpr c27
         subst c27
         have H1 : (some true) = some true := by rw [if_neg (show ¬ (false = true) by decide)] at H; first | done | exact H
         clear H
         have H := H1
         clear H1
         have HT := mk0 (Option.some.inj H)
         clear H
         try go_wp2_with (first | ((with_reducible refine gate_dst (N := 27) rfl ?_); (try (refine gate_guard (by rfl) ?_; dsimp only)); refine Kd.R_lit (Kd.int .i64) _ 2 ?hg (N := 27) ?hd (xs := ([wrap64 (a1), wrap64 (a2)] : List Int)) (inner := [.int .i64 (wrap64 (a1)), .int .i64 (wrap64 (a2))]) (ok := fun _ => True) (okp := fun _ => True) ?hr ?hp (fun _ hk => hk) trivial (Below.refl _ _) (Nat.le_refl _) (by simp) ?_; (case hd => rfl); (case hg => rfl); (case hr => first | (go_simp; done) | (go_simp; rfl)); (case hp => exact (Reps.one (show Kd.M (Kd.int .i64) _ _ _ (wrap64 (a1)) [.int .i64 (wrap64 (a1))] from rfl) (Reps.one (show Kd.M (Kd.int .i64) _ _ _ (wrap64 (a2)) [.int .i64 (wrap64 (a2))] from rfl) (Reps.none _ _)))); intro v445 w66 ho67 hb hg_ hnew_; clear hg_ hnew_; (first | rw [← Ny444.out] at ho67 | (simp only [Int.reduceToNat] at ho67; rw [← Ny444.out] at ho67)); have HO446 := mk0 (Kd.R_lower ho67 (below_size bH)); replace BK441 := bB BK441 hb; replace HB := hbB bH hb; clear hb ho67; obtain ⟨hcz68_0, hcz68_1, hcz68_2, hfz68_0, hfz68_1, hfz68_2⟩ := cL3 BK441) | ((with_reducible refine gate_dst (N := 30) rfl ?_); refine gsM (some 30) Tryd.func12 #[.agg #[.int .i64 a0_0, .slice A0_1 l0_1.length c0_1, .slice A0_2 l0_2.length c0_2]] ?_; (with_reducible refine (sys_Tight.calls kj5 a0_0 (fun k_ => k_ < w.heap.size) _ _ l0_1 (fun k_ => k_ < w.heap.size) _ _ l0_2 t447 t448 t451 true _ ?side1 ?side2 A17.out).mono ?_); (case side1 => exact Kd.V_mk HC0_1.out (Kd.F_below (Kd.C_F k59_heap HR0_1.out) bH)); (case side2 => exact Kd.V_mk HC0_2.out (Kd.F_below (Kd.C_F k59_heap HR0_2.out) bH)); rintro e w69 ⟨v449, v452, rfl, ho0, ho1, hb⟩; refine ⟨_, rfl, ?_⟩; have HO450 := mk0 (Kd.N_lower (Kd.N_mono (ok' := fun k_ => some k_ ≠ (v452 : Value).ownBlock ∧ some k_ ≠ (v445 : Value).ownBlock ∧ k_ ≠ gb441) ho0 (fun k_ hk_ => ⟨hk_.2, Or.elim hk_.1 (fun hs_ => Or.elim hs_ (fun hs_ => fun e_ => Nat.not_le.2 hs_ (Kd.R_base HO446.out k_ e_.symm)) (fun hs_ => fun e_ => Nat.not_le.2 hs_ (Kd.R_base HO446.out k_ e_.symm))) (fun hn_ => (Kd.fresh' (Kd.R_lt (uR HO446.out)) k_ hn_)), Or.elim hk_.1 (fun hs_ => Or.elim hs_ (fun hs_ => fun e_ => Nat.not_le.2 hs_ (by rw [e_]; exact GW441.out)) (fun hs_ => fun e_ => Nat.not_le.2 hs_ (by rw [e_]; exact GW441.out))) (fun hn_ => (Kd.freshB (g := gb441) (o := .cells #[.int .i64 a0_0, .slice A0_1 l0_1.length c0_1, .slice A0_2 l0_2.length c0_2] 24 (0, 0)) (uB BK441.out) k_ hn_))⟩)) (below_size bH)); have HO453 := mk0 (Kd.N_lower (Kd.N_mono (ok' := fun k_ => some k_ ≠ (v449 : Value).ownBlock ∧ some k_ ≠ (v445 : Value).ownBlock ∧ k_ ≠ gb441) ho1 (fun k_ hk_ => ⟨hk_.2, Or.elim hk_.1 (fun hs_ => Or.elim hs_ (fun hs_ => fun e_ => Nat.not_le.2 hs_ (Kd.R_base HO446.out k_ e_.symm)) (fun hs_ => fun e_ => Nat.not_le.2 hs_ (Kd.R_base HO446.out k_ e_.symm))) (fun hn_ => (Kd.fresh' (Kd.R_lt (uR HO446.out)) k_ hn_)), Or.elim hk_.1 (fun hs_ => Or.elim hs_ (fun hs_ => fun e_ => Nat.not_le.2 hs_ (by rw [e_]; exact GW441.out)) (fun hs_ => fun e_ => Nat.not_le.2 hs_ (by rw [e_]; exact GW441.out))) (fun hn_ => (Kd.freshB (g := gb441) (o := .cells #[.int .i64 a0_0, .slice A0_1 l0_1.length c0_1, .slice A0_2 l0_2.length c0_2] 24 (0, 0)) (uB BK441.out) k_ hn_))⟩)) (below_size bH)); replace HO446 := rB HO446 hb; replace BK441 := bB BK441 hb; replace HB := hbB bH hb; (try clear hb); (try clear hb2); (try clear hk); (try clear hi); (try clear ho0); (try clear ho1)) | ((with_reducible refine gate_dst (N := 8) rfl ?_); (try (refine gate_guard (by rfl) ?_; dsimp only)); refine bxE 8 #[.int .i64 0, .slice none 0 0, .slice none 0 0] 24 ?_; intro gb455 hg w70 hbox hb; replace HO446 := rB HO446 hb; replace HO450 := mk0 (Kd.N_below (Kd.N_elderB (uN HO450.out) gb455 (Nat.le_of_eq hg.symm)) hb); replace HO453 := mk0 (Kd.N_below (Kd.N_elderB (uN HO453.out) gb455 (Nat.le_of_eq hg.symm)) hb); have BK455 := mk0 (hbox); have GW455 := mk0 ((by rw [hg]; exact (below_size bH) : w.heap.size ≤ gb455)); have GE455 := mk0 ((by rw [hg]; exact (below_size bH) : w.heap.size ≤ gb455)); replace HB := hbB bH hb; have NB441_455 := mk0 ((by rw [hg]; exact Nat.ne_of_lt (blk_lt (g := gb441) (o := .cells #[.int .i64 a0_0, .slice A0_1 l0_1.length c0_1, .slice A0_2 l0_2.length c0_2] 24 (0, 0)) (uB BK441.out)) : gb441 ≠ gb455)); have NB455_441 := mk0 ((by rw [hg]; exact Nat.ne_of_gt (blk_lt (g := gb441) (o := .cells #[.int .i64 a0_0, .slice A0_1 l0_1.length c0_1, .slice A0_2 l0_2.length c0_2] 24 (0, 0)) (uB BK441.out)) : gb455 ≠ gb441)); replace BK441 := bB BK441 hb; clear hb hbox hg; have hnb71 := NB455_441.out; have hnc71 := NB441_455.out; obtain ⟨hcz72_0, hcz72_1, hcz72_2, hfz72_0, hfz72_1, hfz72_2⟩ := cL3 BK455; obtain ⟨Ao73, co73, eo73⟩ := Kd.N_slice HO450.out; subst eo73; obtain ⟨Ao74, co74, eo74⟩ := Kd.N_slice HO453.out; subst eo74))
         have n0_ : Aside0 (Kd.R (Kd.int .i64) 2 (((w70.setCell ⟨gb455, 0, none⟩ (.int .i64 t447)).setCell ⟨gb455, 1, none⟩ (.slice Ao73 t448.length co73)).setCell ⟨gb455, 2, none⟩ (.slice Ao74 t451.length co74)) w.heap.size (fun _ => True) v445 y444) := ⟨uR (Kd.R_mono (Kd.R_far (p := ⟨gb455, 2, none⟩) (Kd.R_far (p := ⟨gb455, 1, none⟩) (Kd.R_far (p := ⟨gb455, 0, none⟩) (Kd.R_types HO446.out BK455.out (by decide)) (fun _ hk => hk.2) (.int .i64 t447)) (fun _ hk => hk.2) (.slice Ao73 t448.length co73)) (fun _ hk => hk.2) (.slice Ao74 t451.length co74)) (fun _ hk => trivial))⟩
         have n1_ : Aside0 (Kd.N k59 59 (((w70.setCell ⟨gb455, 0, none⟩ (.int .i64 t447)).setCell ⟨gb455, 1, none⟩ (.slice Ao73 t448.length co73)).setCell ⟨gb455, 2, none⟩ (.slice Ao74 t451.length co74)) w.heap.size (fun k_ => some k_ ≠ (v445 : Value).ownBlock ∧ some k_ ≠ (.slice Ao74 t451.length co74 : Value).ownBlock ∧ k_ ≠ gb441 ∧ k_ ≠ gb455) (.slice Ao73 t448.length co73) t448) := ⟨uN (Kd.N_mono (Kd.N_far (p := ⟨gb455, 2, none⟩) (Kd.N_far (p := ⟨gb455, 1, none⟩) (Kd.N_far (p := ⟨gb455, 0, none⟩) (Kd.N_mono HO450.out (fun k_ hk => (⟨hk, hk.2⟩ : _ ∧ k_ ≠ gb455))) (fun _ hk => hk.2) (.int .i64 t447)) (fun _ hk => hk.2) (.slice Ao73 t448.length co73)) (fun _ hk => hk.2) (.slice Ao74 t451.length co74)) (fun _ hk => ⟨hk.1.1.2.1, ⟨hk.1.1.1, ⟨hk.1.1.2.2, hk.1.2⟩⟩⟩))⟩
         have n2_ : Aside0 (Kd.N k59 59 (((w70.setCell ⟨gb455, 0, none⟩ (.int .i64 t447)).setCell ⟨gb455, 1, none⟩ (.slice Ao73 t448.length co73)).setCell ⟨gb455, 2, none⟩ (.slice Ao74 t451.length co74)) w.heap.size (fun k_ => some k_ ≠ (v445 : Value).ownBlock ∧ some k_ ≠ (.slice Ao73 t448.length co73 : Value).ownBlock ∧ k_ ≠ gb441 ∧ k_ ≠ gb455) (.slice Ao74 t451.length co74) t451) := ⟨uN (Kd.N_mono (Kd.N_far (p := ⟨gb455, 2, none⟩) (Kd.N_far (p := ⟨gb455, 1, none⟩) (Kd.N_far (p := ⟨gb455, 0, none⟩) (Kd.N_mono HO453.out (fun k_ hk => (⟨hk, hk.2⟩ : _ ∧ k_ ≠ gb455))) (fun _ hk => hk.2) (.int .i64 t447)) (fun _ hk => hk.2) (.slice Ao73 t448.length co73)) (fun _ hk => hk.2) (.slice Ao74 t451.length co74)) (fun _ hk => ⟨hk.1.1.2.1, ⟨hk.1.1.1, ⟨hk.1.1.2.2, hk.1.2⟩⟩⟩))⟩
         have n3_ : Aside0 ((((w70.setCell ⟨gb455, 0, none⟩ (.int .i64 t447)).setCell ⟨gb455, 1, none⟩ (.slice Ao73 t448.length co73)).setCell ⟨gb455, 2, none⟩ (.slice Ao74 t451.length co74)).heap[gb441]? = some (.cells #[.int .i64 a0_0, .slice A0_1 l0_1.length c0_1, .slice A0_2 l0_2.length c0_2] 24 (0, 0))) := ⟨by (with_reducible repeat (first | refine blk_drewN ?_ _ | refine blk_drew ?_ | refine blk_alloc ?_ _)); refine blk_far ?_ NB441_455.out _; (with_reducible repeat (first | refine blk_drewN ?_ _ | refine blk_drew ?_ | refine blk_alloc ?_ _)); refine blk_far ?_ NB441_455.out _; (with_reducible repeat (first | refine blk_drewN ?_ _ | refine blk_drew ?_ | refine blk_alloc ?_ _)); refine blk_far ?_ NB441_455.out _; (with_reducible repeat (first | refine blk_drewN ?_ _ | refine blk_drew ?_ | refine blk_alloc ?_ _)); exact BK441.out⟩
         have n4_ : Aside0 ((((w70.setCell ⟨gb455, 0, none⟩ (.int .i64 t447)).setCell ⟨gb455, 1, none⟩ (.slice Ao73 t448.length co73)).setCell ⟨gb455, 2, none⟩ (.slice Ao74 t451.length co74)).heap[gb455]? = some (.cells #[.int .i64 t447, .slice Ao73 t448.length co73, .slice Ao74 t451.length co74] 24 (0, 0))) := ⟨by (with_reducible repeat (first | refine blk_drewN ?_ _ | refine blk_drew ?_ | refine blk_alloc ?_ _)); refine blk_put (cs := #[.int .i64 t447, .slice Ao73 t448.length co73, .slice none 0 0]) ?_ 2 _ rfl; (with_reducible repeat (first | refine blk_drewN ?_ _ | refine blk_drew ?_ | refine blk_alloc ?_ _)); refine blk_put (cs := #[.int .i64 t447, .slice none 0 0, .slice none 0 0]) ?_ 1 _ rfl; (with_reducible repeat (first | refine blk_drewN ?_ _ | refine blk_drew ?_ | refine blk_alloc ?_ _)); refine blk_put (cs := #[.int .i64 0, .slice none 0 0, .slice none 0 0]) ?_ 0 _ rfl; (with_reducible repeat (first | refine blk_drewN ?_ _ | refine blk_drew ?_ | refine blk_alloc ?_ _)); exact BK455.out⟩
         have n5_ : Aside0 (Below w.heap.size w (((w70.setCell ⟨gb455, 0, none⟩ (.int .i64 t447)).setCell ⟨gb455, 1, none⟩ (.slice Ao73 t448.length co73)).setCell ⟨gb455, 2, none⟩ (.slice Ao74 t451.length co74))) := ⟨bH⟩
         (try clear HO446)
         (try clear HO450)
         (try clear HO453)
         (try clear BK441)
         (try clear BK455)
         (try clear HB)
         generalize (((w70.setCell ⟨gb455, 0, none⟩ (.int .i64 t447)).setCell ⟨gb455, 1, none⟩ (.slice Ao73 t448.length co73)).setCell ⟨gb455, 2, none⟩ (.slice Ao74 t451.length co74)) = w75 at n0_ n1_ n2_ n3_ n4_ n5_ ⊢
         have HO446 := n0_
         have HO450 := n1_
         have HO453 := n2_
         have BK441 := n3_
         have BK455 := n4_
         have HB := n5_
         clear n0_ n1_ n2_ n3_ n4_ n5_
         replace HO446 := mk0 (Kd.R_drew HO446.out)
         replace HO450 := mk0 (Kd.N_drew HO450.out)
         replace HO453 := mk0 (Kd.N_drew HO453.out)
         replace BK441 := mk0 (blk_drew BK441.out)
         replace BK455 := mk0 (blk_drew BK455.out)
         replace HB := mk0 (below_drew1 HB.out)
         obtain ⟨Ao77, co77, eo77⟩ := Kd.R_slice HO446.out
         (first | subst eo77 | (injection eo77 with f1_ f2_ f3_; have f4_ := f1_.symm; have f5_ := f3_.symm; clear f1_ f2_ f3_; subst f4_; subst f5_))
         refine start_ (n := 8) (S := fun w' => w'.cell? ⟨gb441, 0, none⟩ = some (.int .i64 a0_0) ∧ w'.cell? ⟨gb441, 1, none⟩ = some (.slice A0_1 l0_1.length c0_1) ∧ w'.cell? ⟨gb441, 2, none⟩ = some (.slice A0_2 l0_2.length c0_2) ∧ w'.cell? ⟨gb455, 0, none⟩ = some (.int .i64 t447) ∧ w'.cell? ⟨gb455, 1, none⟩ = some (.slice Ao73 t448.length co73) ∧ w'.cell? ⟨gb455, 2, none⟩ = some (.slice Ao74 t451.length co74)) (ds := []) (bts 8 0) (by kernel_rfl) rfl rfl ⟨(blk_cell BK441.out 0).trans rfl, (blk_cell BK441.out 1).trans rfl, (blk_cell BK441.out 2).trans rfl, (blk_cell BK455.out 0).trans rfl, (blk_cell BK455.out 1).trans rfl, (blk_cell BK455.out 2).trans rfl⟩ (fun hHeld => ?_); refine with_tabW furrowlaw15_SysTight.tab9 furrowlaw15_SysTight.bits9 (fun HT_ HW_ => ?_)
         generalize w75.drew = w76 at HO446 HO450 HO453 BK441 BK455 HB HO446 HO450 HO453 hHeld ⊢
         refine pA 1 (some 40) 0 8 2 HT_ ?_
         refine pA 5 (some 44) 2 8 34 HT_ ?_
         refine tA6 0 (some 39) 34 8 35 HT_ HW_ hHeld ?_
         refine tA6 3 (some 42) 35 8 43 HT_ HW_ hHeld ?_
         refine one_ (i := 2) (N := some 41) (bts 8 47) rfl rfl (one_of HT_.out (by kernel_rfl)) (by decide) (fun K hK => ?_)
         refine goes_ Tryd.func17 (by kernel_rfl) rfl #[.agg #[.int .i64 a0_0, .slice A0_1 l0_1.length c0_1, .slice A0_2 l0_2.length c0_2], .slice Ao77 y444.length co77] (by rfl) rfl rfl (by (try simp only [List.map_toArray, List.map_cons, List.map_nil]); first | done | rfl | (simp only [List.length_drop, List.length_take]; rfl)) ?_
         with_reducible refine (sys_Holds.calls kj5 a0_0 _ _ l0_1 _ _ l0_2 _ _ y444 t457 _ ?side1 ?side2 ?side3 ?side4 ?side5 ?side6 A19.out).mono ?_
         (case side1 => exact uC (Kd.C_below HR0_1.out HB.out))
         (case side2 => exact HC0_1.out)
         (case side3 => exact uC (Kd.C_below HR0_2.out HB.out))
         (case side4 => exact HC0_2.out)
         (case side5 => exact uC ((Kd.R_reads' HO446.out).2.2))
         (case side6 => exact (Kd.R_reads' HO446.out).2.1)
         rintro e w78 ⟨rfl, hb⟩
         refine ⟨_, rfl, ?_⟩
         replace HO446 := rB HO446 hb
         replace HO450 := nB HO450 hb
         replace HO453 := nB HO453 hb
         replace BK441 := bB BK441 hb
         replace BK455 := bB BK455 hb
         replace HB := hbB bH hb
         (try clear hb)
         (try clear hb2)
         (try clear hk)
         (try clear hi)
         refine hK.out _ _ ⟨(blk_cell BK441.out 0).trans rfl, (blk_cell BK441.out 1).trans rfl, (blk_cell BK441.out 2).trans rfl, (blk_cell BK455.out 0).trans rfl, (blk_cell BK455.out 1).trans rfl, (blk_cell BK455.out 2).trans rfl⟩ (fun hHeld => ?_)
         clear hK K
         refine norm_ (a' := ?_) ?_ ?_
         rotate_left
         ·show Act.put _ (some 41) _ = _
          simp only [Act.put, List.setIfInBounds_toArray, List.set_cons_zero, List.set_cons_succ, i64_w, i32_w]
          rfl
         refine one_ (i := 4) (N := some 43) (bts 8 63) rfl rfl (one_of HT_.out (by kernel_rfl)) (by decide) (fun K hK => ?_)
         refine goes_ Tryd.func9 (by kernel_rfl) rfl #[.agg #[.int .i64 t447, .slice Ao73 t448.length co73, .slice Ao74 t451.length co74]] (by rfl) rfl rfl (by (try simp only [List.map_toArray, List.map_cons, List.map_nil]); first | done | rfl | (simp only [List.length_drop, List.length_take]; rfl)) ?_
         with_reducible refine (furrowlaw15_Of.calls kj5 t447 (fun k_ => (some k_ ≠ (.slice Ao77 y444.length co77 : Value).ownBlock ∧ (some k_ ≠ (.slice Ao74 t451.length co74 : Value).ownBlock ∧ (k_ ≠ gb441 ∧ k_ ≠ gb455)))) _ _ t448 (fun k_ => (some k_ ≠ (.slice Ao77 y444.length co77 : Value).ownBlock ∧ (some k_ ≠ (.slice Ao73 t448.length co73 : Value).ownBlock ∧ (k_ ≠ gb441 ∧ k_ ≠ gb455)))) _ _ t451 t458 t459 t462 _ ?side1 ?side2 A20.out).mono ?_
         (case side1 => exact Kd.N_V (HO450.out))
         (case side2 => exact Kd.N_V (HO453.out))
         rintro e w79 ⟨v460, v463, rfl, ho0, ho1, hb⟩
         refine ⟨_, rfl, ?_⟩
         replace HO450 := mk0 (Kd.N_mono (Kd.N_told (Kd.N_told (Kd.N_old (uN HO450.out) hb) (Kd.N_base ho0)) (Kd.N_base ho1)) (fun _ h_ => h_.1))
         replace HO453 := mk0 (Kd.N_mono (Kd.N_told (Kd.N_told (Kd.N_old (uN HO453.out) hb) (Kd.N_base ho0)) (Kd.N_base ho1)) (fun _ h_ => h_.1))
         have HO461 := mk0 (Kd.N_lower (Kd.N_mono (ok' := fun k_ => some k_ ≠ (v463 : Value).ownBlock ∧ some k_ ≠ (.slice Ao77 y444.length co77 : Value).ownBlock ∧ k_ ≠ gb441 ∧ k_ ≠ gb455) ho0 (fun k_ hk_ => ⟨hk_.2, Or.elim hk_.1 (fun hs_ => Or.elim hs_ (fun hs_ => hs_.1) (fun hs_ => hs_.1)) (fun hn_ => (Kd.fresh' (Kd.R_lt (uR HO446.out)) k_ hn_)), Or.elim hk_.1 (fun hs_ => Or.elim hs_ (fun hs_ => hs_.2.2.1) (fun hs_ => hs_.2.2.1)) (fun hn_ => (Kd.freshB (g := gb441) (o := .cells #[.int .i64 a0_0, .slice A0_1 l0_1.length c0_1, .slice A0_2 l0_2.length c0_2] 24 (0, 0)) (uB BK441.out) k_ hn_)), Or.elim hk_.1 (fun hs_ => Or.elim hs_ (fun hs_ => hs_.2.2.2) (fun hs_ => hs_.2.2.2)) (fun hn_ => (Kd.freshB (g := gb455) (o := .cells #[.int .i64 t447, .slice Ao73 t448.length co73, .slice Ao74 t451.length co74] 24 (0, 0)) (uB BK455.out) k_ hn_))⟩)) (below_size bH))
         have HO464 := mk0 (Kd.N_lower (Kd.N_mono (ok' := fun k_ => some k_ ≠ (v460 : Value).ownBlock ∧ some k_ ≠ (.slice Ao77 y444.length co77 : Value).ownBlock ∧ k_ ≠ gb441 ∧ k_ ≠ gb455) ho1 (fun k_ hk_ => ⟨hk_.2, Or.elim hk_.1 (fun hs_ => Or.elim hs_ (fun hs_ => hs_.1) (fun hs_ => hs_.1)) (fun hn_ => (Kd.fresh' (Kd.R_lt (uR HO446.out)) k_ hn_)), Or.elim hk_.1 (fun hs_ => Or.elim hs_ (fun hs_ => hs_.2.2.1) (fun hs_ => hs_.2.2.1)) (fun hn_ => (Kd.freshB (g := gb441) (o := .cells #[.int .i64 a0_0, .slice A0_1 l0_1.length c0_1, .slice A0_2 l0_2.length c0_2] 24 (0, 0)) (uB BK441.out) k_ hn_)), Or.elim hk_.1 (fun hs_ => Or.elim hs_ (fun hs_ => hs_.2.2.2) (fun hs_ => hs_.2.2.2)) (fun hn_ => (Kd.freshB (g := gb455) (o := .cells #[.int .i64 t447, .slice Ao73 t448.length co73, .slice Ao74 t451.length co74] 24 (0, 0)) (uB BK455.out) k_ hn_))⟩)) (below_size bH))
         replace HO446 := rB HO446 hb
         replace BK441 := bB BK441 hb
         replace BK455 := bB BK455 hb
         replace HB := hbB bH hb
         (try clear hb)
         (try clear hb2)
         (try clear hk)
         (try clear hi)
         (try clear ho0)
         (try clear ho1)
         obtain ⟨Ao80, co80, eo80⟩ := Kd.N_slice HO461.out
         (first | subst eo80 | (injection eo80 with f1_ f2_ f3_; have f4_ := f1_.symm; have f5_ := f3_.symm; clear f1_ f2_ f3_; subst f4_; subst f5_))
         obtain ⟨Ao81, co81, eo81⟩ := Kd.N_slice HO464.out
         (first | subst eo81 | (injection eo81 with f1_ f2_ f3_; have f4_ := f1_.symm; have f5_ := f3_.symm; clear f1_ f2_ f3_; subst f4_; subst f5_))
         refine hK.out _ _ ⟨(blk_cell BK441.out 0).trans rfl, (blk_cell BK441.out 1).trans rfl, (blk_cell BK441.out 2).trans rfl, (blk_cell BK455.out 0).trans rfl, (blk_cell BK455.out 1).trans rfl, (blk_cell BK455.out 2).trans rfl⟩ (fun hHeld => ?_)
         clear hK K
         refine norm_ (a' := ?_) ?_ ?_
         rotate_left
         ·show Act.put _ (some 43) _ = _
          simp only [Act.put, List.setIfInBounds_toArray, List.set_cons_zero, List.set_cons_succ, i64_w, i32_w]
          rfl
         refine one_ (i := 6) (N := some 45) (bts 8 127) rfl rfl (one_of HT_.out (by kernel_rfl)) (by decide) (fun K hK => ?_)
         refine goes_ Tryd.func18 (by kernel_rfl) rfl #[.agg #[.int .i64 t458, .slice Ao80 t459.length co80, .slice Ao81 t462.length co81], .slice Ao77 y444.length co77] (by rfl) rfl rfl (by (try simp only [List.map_toArray, List.map_cons, List.map_nil]); first | done | rfl | (simp only [List.length_drop, List.length_take]; rfl)) ?_
         with_reducible refine (furrowref20_Holds.calls kj5 t458 _ _ t459 _ _ t462 _ _ y444 t465 _ ?side1 ?side2 ?side3 ?side4 ?side5 ?side6 A21.out).mono ?_
         (case side1 => exact uC ((Kd.N_reads' HO461.out).2.2))
         (case side2 => exact (Kd.N_reads' HO461.out).2.1)
         (case side3 => exact uC ((Kd.N_reads' HO464.out).2.2))
         (case side4 => exact (Kd.N_reads' HO464.out).2.1)
         (case side5 => exact uC ((Kd.R_reads' HO446.out).2.2))
         (case side6 => exact (Kd.R_reads' HO446.out).2.1)
         rintro e w82 ⟨rfl, hb⟩
         refine ⟨_, rfl, ?_⟩
         replace HO446 := rB HO446 hb
         replace HO450 := nB HO450 hb
         replace HO453 := nB HO453 hb
         replace HO461 := nB HO461 hb
         replace HO464 := nB HO464 hb
         replace BK441 := bB BK441 hb
         replace BK455 := bB BK455 hb
         replace HB := hbB bH hb
         (try clear hb)
         (try clear hb2)
         (try clear hk)
         (try clear hi)
         refine hK.out _ _ ⟨(blk_cell BK441.out 0).trans rfl, (blk_cell BK441.out 1).trans rfl, (blk_cell BK441.out 2).trans rfl, (blk_cell BK455.out 0).trans rfl, (blk_cell BK455.out 1).trans rfl, (blk_cell BK455.out 2).trans rfl⟩ (fun hHeld => ?_)
         clear hK K
         refine norm_ (a' := ?_) ?_ ?_
         rotate_left
         ·show Act.put _ (some 45) _ = _
          simp only [Act.put, List.setIfInBounds_toArray, List.set_cons_zero, List.set_cons_succ, i64_w, i32_w]
          rfl
         refine pA 7 (some 46) 127 8 255 HT_ ?_
         refine done_ (done_of HT_.out (by kernel_rfl)) ?_
         obtain ⟨hcz83_0, hcz83_1, hcz83_2, hfz83_0, hfz83_1, hfz83_2⟩ := cL3 BK441
         clear HO450 HO453 HO461 HO464
         try go_wp2_with (first | ((with_reducible refine gate_dst (N := 49) rfl ?_); refine gsM (some 49) Tryd.func14 #[.agg #[.int .i64 a0_0, .slice A0_1 l0_1.length c0_1, .slice A0_2 l0_2.length c0_2]] ?_; (with_reducible refine (sys_Bounds.calls kj5 a0_0 _ _ l0_1 _ _ l0_2 t466 t469 true _ ?side1 ?side2 ?side3 ?side4 A23.out).mono ?_); (case side1 => exact uC (Kd.C_below HR0_1.out HB.out)); (case side2 => exact HC0_1.out); (case side3 => exact uC (Kd.C_below HR0_2.out HB.out)); (case side4 => exact HC0_2.out); rintro e w84 ⟨v467, v470, rfl, ho0, ho1, hb⟩; refine ⟨_, rfl, ?_⟩; have HO468 := mk0 (Kd.R_lower (Kd.R_new' ho0 (Kd.R_lt (uR HO446.out))) (below_size bH)); have HO471 := mk0 (Kd.R_lower (Kd.R_new' ho1 (Kd.R_lt (uR HO446.out))) (below_size bH)); replace HO446 := mk0 (Kd.R_mono (Kd.R_told (Kd.R_told (Kd.R_old (uR HO446.out) hb) (Kd.R_base ho0)) (Kd.R_base ho1)) (fun _ h_ => h_.1)); replace BK441 := bB BK441 hb; replace BK455 := bB BK455 hb; replace HB := hbB bH hb; (try clear hb); (try clear hb2); (try clear hk); (try clear hi); (try clear ho0); (try clear ho1); obtain ⟨hcz85_0, hcz85_1, hcz85_2, hfz85_0, hfz85_1, hfz85_2⟩ := cL3 BK441; clear HO468 HO471) | (go_at_call 9; (with_reducible refine (furrowlaw15_Of.calls kj5 a0_0 (fun k_ => k_ < w.heap.size) _ _ l0_1 (fun k_ => k_ < w.heap.size) _ _ l0_2 t473 t474 t477 _ ?side1 ?side2 A25.out).mono ?_); (case side1 => exact Kd.V_mk HC0_1.out (Kd.F_below (Kd.C_F k59_heap HR0_1.out) bH)); (case side2 => exact Kd.V_mk HC0_2.out (Kd.F_below (Kd.C_F k59_heap HR0_2.out) bH)); rintro e w86 ⟨v475, v478, rfl, ho0, ho1, hb⟩; have HO476 := mk0 (Kd.N_lower (Kd.N_mono (ok' := fun k_ => some k_ ≠ (v478 : Value).ownBlock ∧ some k_ ≠ (.slice Ao77 y444.length co77 : Value).ownBlock ∧ k_ ≠ gb441 ∧ k_ ≠ gb455) ho0 (fun k_ hk_ => ⟨hk_.2, Or.elim hk_.1 (fun hs_ => Or.elim hs_ (fun hs_ => fun e_ => Nat.not_le.2 hs_ (Kd.R_base HO446.out k_ e_.symm)) (fun hs_ => fun e_ => Nat.not_le.2 hs_ (Kd.R_base HO446.out k_ e_.symm))) (fun hn_ => (Kd.fresh' (Kd.R_lt (uR HO446.out)) k_ hn_)), Or.elim hk_.1 (fun hs_ => Or.elim hs_ (fun hs_ => fun e_ => Nat.not_le.2 hs_ (by rw [e_]; exact GW441.out)) (fun hs_ => fun e_ => Nat.not_le.2 hs_ (by rw [e_]; exact GW441.out))) (fun hn_ => (Kd.freshB (g := gb441) (o := .cells #[.int .i64 a0_0, .slice A0_1 l0_1.length c0_1, .slice A0_2 l0_2.length c0_2] 24 (0, 0)) (uB BK441.out) k_ hn_)), Or.elim hk_.1 (fun hs_ => Or.elim hs_ (fun hs_ => fun e_ => Nat.not_le.2 hs_ (by rw [e_]; exact GW455.out)) (fun hs_ => fun e_ => Nat.not_le.2 hs_ (by rw [e_]; exact GW455.out))) (fun hn_ => (Kd.freshB (g := gb455) (o := .cells #[.int .i64 t447, .slice Ao73 t448.length co73, .slice Ao74 t451.length co74] 24 (0, 0)) (uB BK455.out) k_ hn_))⟩)) (below_size bH)); have HO479 := mk0 (Kd.N_lower (Kd.N_mono (ok' := fun k_ => some k_ ≠ (v475 : Value).ownBlock ∧ some k_ ≠ (.slice Ao77 y444.length co77 : Value).ownBlock ∧ k_ ≠ gb441 ∧ k_ ≠ gb455) ho1 (fun k_ hk_ => ⟨hk_.2, Or.elim hk_.1 (fun hs_ => Or.elim hs_ (fun hs_ => fun e_ => Nat.not_le.2 hs_ (Kd.R_base HO446.out k_ e_.symm)) (fun hs_ => fun e_ => Nat.not_le.2 hs_ (Kd.R_base HO446.out k_ e_.symm))) (fun hn_ => (Kd.fresh' (Kd.R_lt (uR HO446.out)) k_ hn_)), Or.elim hk_.1 (fun hs_ => Or.elim hs_ (fun hs_ => fun e_ => Nat.not_le.2 hs_ (by rw [e_]; exact GW441.out)) (fun hs_ => fun e_ => Nat.not_le.2 hs_ (by rw [e_]; exact GW441.out))) (fun hn_ => (Kd.freshB (g := gb441) (o := .cells #[.int .i64 a0_0, .slice A0_1 l0_1.length c0_1, .slice A0_2 l0_2.length c0_2] 24 (0, 0)) (uB BK441.out) k_ hn_)), Or.elim hk_.1 (fun hs_ => Or.elim hs_ (fun hs_ => fun e_ => Nat.not_le.2 hs_ (by rw [e_]; exact GW455.out)) (fun hs_ => fun e_ => Nat.not_le.2 hs_ (by rw [e_]; exact GW455.out))) (fun hn_ => (Kd.freshB (g := gb455) (o := .cells #[.int .i64 t447, .slice Ao73 t448.length co73, .slice Ao74 t451.length co74] 24 (0, 0)) (uB BK455.out) k_ hn_))⟩)) (below_size bH)); replace HO446 := rB HO446 hb; replace BK441 := bB BK441 hb; replace BK455 := bB BK455 hb; replace HB := hbB bH hb; (try clear hb); (try clear hb2); (try clear hk); (try clear hi); (try clear ho0); (try clear ho1); obtain ⟨Ao87, co87, eo87⟩ := Kd.N_slice HO476.out; subst eo87; obtain ⟨Ao88, co88, eo88⟩ := Kd.N_slice HO479.out; subst eo88) | (go_at_call 18; (with_reducible refine (furrowref20_Holds.calls kj5 t473 _ _ t474 _ _ t477 _ _ y444 false _ ?side1 ?side2 ?side3 ?side4 ?side5 ?side6 A26.out).mono ?_); (case side1 => exact uC ((Kd.N_reads' HO476.out).2.2)); (case side2 => exact (Kd.N_reads' HO476.out).2.1); (case side3 => exact uC ((Kd.N_reads' HO479.out).2.2)); (case side4 => exact (Kd.N_reads' HO479.out).2.1); (case side5 => exact uC ((Kd.R_reads' HO446.out).2.2)); (case side6 => exact (Kd.R_reads' HO446.out).2.1); rintro e w89 ⟨rfl, hb⟩; replace HO446 := rB HO446 hb; replace HO476 := nB HO476 hb; replace HO479 := nB HO479 hb; replace BK441 := bB BK441 hb; replace BK455 := bB BK455 hb; replace HB := hbB bH hb; (try clear hb); (try clear hb2); (try clear hk); (try clear hi)))
         all_goals (try (exfalso; rename_i h_; rw [c22b2] at h_; revert h_; decide))
         go_ret
         exact ⟨by first | rfl | (simp [errW_none, errW_some] <;> rfl) | (exact congrArg (fun b_ => Ending.returned (Value.bool b_)) HT.out) | (rw [show _ = _ from HT.out]) | (simp [HT.out]; done) | (simp [show _ = _ from HT.out]; done) | (simp [*, errW_none, errW_some] <;> rfl), bH⟩
       ·replace c24 := Bool.eq_false_iff.mpr c24
        subst c24
        have H1 : (some true) = some true := by rw [if_neg (show ¬ (false = true) by decide)] at H; first | done | exact H
        clear H
        have H := H1
        clear H1
        have HT := mk0 (Option.some.inj H)
        clear H
        try go_wp2_with (first | ((with_reducible refine gate_dst (N := 27) rfl ?_); (try (refine gate_guard (by rfl) ?_; dsimp only)); refine Kd.R_lit (Kd.int .i64) _ 2 ?hg (N := 27) ?hd (xs := ([wrap64 (a1), wrap64 (a2)] : List Int)) (inner := [.int .i64 (wrap64 (a1)), .int .i64 (wrap64 (a2))]) (ok := fun _ => True) (okp := fun _ => True) ?hr ?hp (fun _ hk => hk) trivial (Below.refl _ _) (Nat.le_refl _) (by simp) ?_; (case hd => rfl); (case hg => rfl); (case hr => first | (go_simp; done) | (go_simp; rfl)); (case hp => exact (Reps.one (show Kd.M (Kd.int .i64) _ _ _ (wrap64 (a1)) [.int .i64 (wrap64 (a1))] from rfl) (Reps.one (show Kd.M (Kd.int .i64) _ _ _ (wrap64 (a2)) [.int .i64 (wrap64 (a2))] from rfl) (Reps.none _ _)))); intro v445 w90 ho91 hb hg_ hnew_; clear hg_ hnew_; (first | rw [← Ny444.out] at ho91 | (simp only [Int.reduceToNat] at ho91; rw [← Ny444.out] at ho91)); have HO446 := mk0 (Kd.R_lower ho91 (below_size bH)); replace BK441 := bB BK441 hb; replace HB := hbB bH hb; clear hb ho91; obtain ⟨hcz92_0, hcz92_1, hcz92_2, hfz92_0, hfz92_1, hfz92_2⟩ := cL3 BK441) | ((with_reducible refine gate_dst (N := 30) rfl ?_); refine gsM (some 30) Tryd.func12 #[.agg #[.int .i64 a0_0, .slice A0_1 l0_1.length c0_1, .slice A0_2 l0_2.length c0_2]] ?_; (with_reducible refine (sys_Tight.calls kj5 a0_0 (fun k_ => k_ < w.heap.size) _ _ l0_1 (fun k_ => k_ < w.heap.size) _ _ l0_2 t447 t448 t451 true _ ?side1 ?side2 A17.out).mono ?_); (case side1 => exact Kd.V_mk HC0_1.out (Kd.F_below (Kd.C_F k59_heap HR0_1.out) bH)); (case side2 => exact Kd.V_mk HC0_2.out (Kd.F_below (Kd.C_F k59_heap HR0_2.out) bH)); rintro e w93 ⟨v449, v452, rfl, ho0, ho1, hb⟩; refine ⟨_, rfl, ?_⟩; have HO450 := mk0 (Kd.N_lower (Kd.N_mono (ok' := fun k_ => some k_ ≠ (v452 : Value).ownBlock ∧ some k_ ≠ (v445 : Value).ownBlock ∧ k_ ≠ gb441) ho0 (fun k_ hk_ => ⟨hk_.2, Or.elim hk_.1 (fun hs_ => Or.elim hs_ (fun hs_ => fun e_ => Nat.not_le.2 hs_ (Kd.R_base HO446.out k_ e_.symm)) (fun hs_ => fun e_ => Nat.not_le.2 hs_ (Kd.R_base HO446.out k_ e_.symm))) (fun hn_ => (Kd.fresh' (Kd.R_lt (uR HO446.out)) k_ hn_)), Or.elim hk_.1 (fun hs_ => Or.elim hs_ (fun hs_ => fun e_ => Nat.not_le.2 hs_ (by rw [e_]; exact GW441.out)) (fun hs_ => fun e_ => Nat.not_le.2 hs_ (by rw [e_]; exact GW441.out))) (fun hn_ => (Kd.freshB (g := gb441) (o := .cells #[.int .i64 a0_0, .slice A0_1 l0_1.length c0_1, .slice A0_2 l0_2.length c0_2] 24 (0, 0)) (uB BK441.out) k_ hn_))⟩)) (below_size bH)); have HO453 := mk0 (Kd.N_lower (Kd.N_mono (ok' := fun k_ => some k_ ≠ (v449 : Value).ownBlock ∧ some k_ ≠ (v445 : Value).ownBlock ∧ k_ ≠ gb441) ho1 (fun k_ hk_ => ⟨hk_.2, Or.elim hk_.1 (fun hs_ => Or.elim hs_ (fun hs_ => fun e_ => Nat.not_le.2 hs_ (Kd.R_base HO446.out k_ e_.symm)) (fun hs_ => fun e_ => Nat.not_le.2 hs_ (Kd.R_base HO446.out k_ e_.symm))) (fun hn_ => (Kd.fresh' (Kd.R_lt (uR HO446.out)) k_ hn_)), Or.elim hk_.1 (fun hs_ => Or.elim hs_ (fun hs_ => fun e_ => Nat.not_le.2 hs_ (by rw [e_]; exact GW441.out)) (fun hs_ => fun e_ => Nat.not_le.2 hs_ (by rw [e_]; exact GW441.out))) (fun hn_ => (Kd.freshB (g := gb441) (o := .cells #[.int .i64 a0_0, .slice A0_1 l0_1.length c0_1, .slice A0_2 l0_2.length c0_2] 24 (0, 0)) (uB BK441.out) k_ hn_))⟩)) (below_size bH)); replace HO446 := rB HO446 hb; replace BK441 := bB BK441 hb; replace HB := hbB bH hb; (try clear hb); (try clear hb2); (try clear hk); (try clear hi); (try clear ho0); (try clear ho1)) | ((with_reducible refine gate_dst (N := 8) rfl ?_); (try (refine gate_guard (by rfl) ?_; dsimp only)); refine bxE 8 #[.int .i64 0, .slice none 0 0, .slice none 0 0] 24 ?_; intro gb455 hg w94 hbox hb; replace HO446 := rB HO446 hb; replace HO450 := mk0 (Kd.N_below (Kd.N_elderB (uN HO450.out) gb455 (Nat.le_of_eq hg.symm)) hb); replace HO453 := mk0 (Kd.N_below (Kd.N_elderB (uN HO453.out) gb455 (Nat.le_of_eq hg.symm)) hb); have BK455 := mk0 (hbox); have GW455 := mk0 ((by rw [hg]; exact (below_size bH) : w.heap.size ≤ gb455)); have GE455 := mk0 ((by rw [hg]; exact (below_size bH) : w.heap.size ≤ gb455)); replace HB := hbB bH hb; have NB441_455 := mk0 ((by rw [hg]; exact Nat.ne_of_lt (blk_lt (g := gb441) (o := .cells #[.int .i64 a0_0, .slice A0_1 l0_1.length c0_1, .slice A0_2 l0_2.length c0_2] 24 (0, 0)) (uB BK441.out)) : gb441 ≠ gb455)); have NB455_441 := mk0 ((by rw [hg]; exact Nat.ne_of_gt (blk_lt (g := gb441) (o := .cells #[.int .i64 a0_0, .slice A0_1 l0_1.length c0_1, .slice A0_2 l0_2.length c0_2] 24 (0, 0)) (uB BK441.out)) : gb455 ≠ gb441)); replace BK441 := bB BK441 hb; clear hb hbox hg; have hnb95 := NB455_441.out; have hnc95 := NB441_455.out; obtain ⟨hcz96_0, hcz96_1, hcz96_2, hfz96_0, hfz96_1, hfz96_2⟩ := cL3 BK455; obtain ⟨Ao97, co97, eo97⟩ := Kd.N_slice HO450.out; subst eo97; obtain ⟨Ao98, co98, eo98⟩ := Kd.N_slice HO453.out; subst eo98))
        have n0_ : Aside0 (Kd.R (Kd.int .i64) 2 (((w94.setCell ⟨gb455, 0, none⟩ (.int .i64 t447)).setCell ⟨gb455, 1, none⟩ (.slice Ao97 t448.length co97)).setCell ⟨gb455, 2, none⟩ (.slice Ao98 t451.length co98)) w.heap.size (fun _ => True) v445 y444) := ⟨uR (Kd.R_mono (Kd.R_far (p := ⟨gb455, 2, none⟩) (Kd.R_far (p := ⟨gb455, 1, none⟩) (Kd.R_far (p := ⟨gb455, 0, none⟩) (Kd.R_types HO446.out BK455.out (by decide)) (fun _ hk => hk.2) (.int .i64 t447)) (fun _ hk => hk.2) (.slice Ao97 t448.length co97)) (fun _ hk => hk.2) (.slice Ao98 t451.length co98)) (fun _ hk => trivial))⟩
        have n1_ : Aside0 (Kd.N k59 59 (((w94.setCell ⟨gb455, 0, none⟩ (.int .i64 t447)).setCell ⟨gb455, 1, none⟩ (.slice Ao97 t448.length co97)).setCell ⟨gb455, 2, none⟩ (.slice Ao98 t451.length co98)) w.heap.size (fun k_ => some k_ ≠ (v445 : Value).ownBlock ∧ some k_ ≠ (.slice Ao98 t451.length co98 : Value).ownBlock ∧ k_ ≠ gb441 ∧ k_ ≠ gb455) (.slice Ao97 t448.length co97) t448) := ⟨uN (Kd.N_mono (Kd.N_far (p := ⟨gb455, 2, none⟩) (Kd.N_far (p := ⟨gb455, 1, none⟩) (Kd.N_far (p := ⟨gb455, 0, none⟩) (Kd.N_mono HO450.out (fun k_ hk => (⟨hk, hk.2⟩ : _ ∧ k_ ≠ gb455))) (fun _ hk => hk.2) (.int .i64 t447)) (fun _ hk => hk.2) (.slice Ao97 t448.length co97)) (fun _ hk => hk.2) (.slice Ao98 t451.length co98)) (fun _ hk => ⟨hk.1.1.2.1, ⟨hk.1.1.1, ⟨hk.1.1.2.2, hk.1.2⟩⟩⟩))⟩
        have n2_ : Aside0 (Kd.N k59 59 (((w94.setCell ⟨gb455, 0, none⟩ (.int .i64 t447)).setCell ⟨gb455, 1, none⟩ (.slice Ao97 t448.length co97)).setCell ⟨gb455, 2, none⟩ (.slice Ao98 t451.length co98)) w.heap.size (fun k_ => some k_ ≠ (v445 : Value).ownBlock ∧ some k_ ≠ (.slice Ao97 t448.length co97 : Value).ownBlock ∧ k_ ≠ gb441 ∧ k_ ≠ gb455) (.slice Ao98 t451.length co98) t451) := ⟨uN (Kd.N_mono (Kd.N_far (p := ⟨gb455, 2, none⟩) (Kd.N_far (p := ⟨gb455, 1, none⟩) (Kd.N_far (p := ⟨gb455, 0, none⟩) (Kd.N_mono HO453.out (fun k_ hk => (⟨hk, hk.2⟩ : _ ∧ k_ ≠ gb455))) (fun _ hk => hk.2) (.int .i64 t447)) (fun _ hk => hk.2) (.slice Ao97 t448.length co97)) (fun _ hk => hk.2) (.slice Ao98 t451.length co98)) (fun _ hk => ⟨hk.1.1.2.1, ⟨hk.1.1.1, ⟨hk.1.1.2.2, hk.1.2⟩⟩⟩))⟩
        have n3_ : Aside0 ((((w94.setCell ⟨gb455, 0, none⟩ (.int .i64 t447)).setCell ⟨gb455, 1, none⟩ (.slice Ao97 t448.length co97)).setCell ⟨gb455, 2, none⟩ (.slice Ao98 t451.length co98)).heap[gb441]? = some (.cells #[.int .i64 a0_0, .slice A0_1 l0_1.length c0_1, .slice A0_2 l0_2.length c0_2] 24 (0, 0))) := ⟨by (with_reducible repeat (first | refine blk_drewN ?_ _ | refine blk_drew ?_ | refine blk_alloc ?_ _)); refine blk_far ?_ NB441_455.out _; (with_reducible repeat (first | refine blk_drewN ?_ _ | refine blk_drew ?_ | refine blk_alloc ?_ _)); refine blk_far ?_ NB441_455.out _; (with_reducible repeat (first | refine blk_drewN ?_ _ | refine blk_drew ?_ | refine blk_alloc ?_ _)); refine blk_far ?_ NB441_455.out _; (with_reducible repeat (first | refine blk_drewN ?_ _ | refine blk_drew ?_ | refine blk_alloc ?_ _)); exact BK441.out⟩
        have n4_ : Aside0 ((((w94.setCell ⟨gb455, 0, none⟩ (.int .i64 t447)).setCell ⟨gb455, 1, none⟩ (.slice Ao97 t448.length co97)).setCell ⟨gb455, 2, none⟩ (.slice Ao98 t451.length co98)).heap[gb455]? = some (.cells #[.int .i64 t447, .slice Ao97 t448.length co97, .slice Ao98 t451.length co98] 24 (0, 0))) := ⟨by (with_reducible repeat (first | refine blk_drewN ?_ _ | refine blk_drew ?_ | refine blk_alloc ?_ _)); refine blk_put (cs := #[.int .i64 t447, .slice Ao97 t448.length co97, .slice none 0 0]) ?_ 2 _ rfl; (with_reducible repeat (first | refine blk_drewN ?_ _ | refine blk_drew ?_ | refine blk_alloc ?_ _)); refine blk_put (cs := #[.int .i64 t447, .slice none 0 0, .slice none 0 0]) ?_ 1 _ rfl; (with_reducible repeat (first | refine blk_drewN ?_ _ | refine blk_drew ?_ | refine blk_alloc ?_ _)); refine blk_put (cs := #[.int .i64 0, .slice none 0 0, .slice none 0 0]) ?_ 0 _ rfl; (with_reducible repeat (first | refine blk_drewN ?_ _ | refine blk_drew ?_ | refine blk_alloc ?_ _)); exact BK455.out⟩
        have n5_ : Aside0 (Below w.heap.size w (((w94.setCell ⟨gb455, 0, none⟩ (.int .i64 t447)).setCell ⟨gb455, 1, none⟩ (.slice Ao97 t448.length co97)).setCell ⟨gb455, 2, none⟩ (.slice Ao98 t451.length co98))) := ⟨bH⟩
        (try clear HO446)
        (try clear HO450)
        (try clear HO453)
        (try clear BK441)
        (try clear BK455)
        (try clear HB)
        generalize (((w94.setCell ⟨gb455, 0, none⟩ (.int .i64 t447)).setCell ⟨gb455, 1, none⟩ (.slice Ao97 t448.length co97)).setCell ⟨gb455, 2, none⟩ (.slice Ao98 t451.length co98)) = w99 at n0_ n1_ n2_ n3_ n4_ n5_ ⊢
        have HO446 := n0_
        have HO450 := n1_
        have HO453 := n2_
        have BK441 := n3_
        have BK455 := n4_
        have HB := n5_
        clear n0_ n1_ n2_ n3_ n4_ n5_
        replace HO446 := mk0 (Kd.R_drew HO446.out)
        replace HO450 := mk0 (Kd.N_drew HO450.out)
        replace HO453 := mk0 (Kd.N_drew HO453.out)
        replace BK441 := mk0 (blk_drew BK441.out)
        replace BK455 := mk0 (blk_drew BK455.out)
        replace HB := mk0 (below_drew1 HB.out)
        obtain ⟨Ao101, co101, eo101⟩ := Kd.R_slice HO446.out
        (first | subst eo101 | (injection eo101 with f1_ f2_ f3_; have f4_ := f1_.symm; have f5_ := f3_.symm; clear f1_ f2_ f3_; subst f4_; subst f5_))
        refine start_ (n := 8) (S := fun w' => w'.cell? ⟨gb441, 0, none⟩ = some (.int .i64 a0_0) ∧ w'.cell? ⟨gb441, 1, none⟩ = some (.slice A0_1 l0_1.length c0_1) ∧ w'.cell? ⟨gb441, 2, none⟩ = some (.slice A0_2 l0_2.length c0_2) ∧ w'.cell? ⟨gb455, 0, none⟩ = some (.int .i64 t447) ∧ w'.cell? ⟨gb455, 1, none⟩ = some (.slice Ao97 t448.length co97) ∧ w'.cell? ⟨gb455, 2, none⟩ = some (.slice Ao98 t451.length co98)) (ds := []) (bts 8 0) (by kernel_rfl) rfl rfl ⟨(blk_cell BK441.out 0).trans rfl, (blk_cell BK441.out 1).trans rfl, (blk_cell BK441.out 2).trans rfl, (blk_cell BK455.out 0).trans rfl, (blk_cell BK455.out 1).trans rfl, (blk_cell BK455.out 2).trans rfl⟩ (fun hHeld => ?_); refine with_tabW furrowlaw15_SysTight.tab9 furrowlaw15_SysTight.bits9 (fun HT_ HW_ => ?_)
        generalize w99.drew = w100 at HO446 HO450 HO453 BK441 BK455 HB HO446 HO450 HO453 hHeld ⊢
        refine pA 1 (some 40) 0 8 2 HT_ ?_
        refine pA 5 (some 44) 2 8 34 HT_ ?_
        refine tA6 0 (some 39) 34 8 35 HT_ HW_ hHeld ?_
        refine tA6 3 (some 42) 35 8 43 HT_ HW_ hHeld ?_
        refine one_ (i := 2) (N := some 41) (bts 8 47) rfl rfl (one_of HT_.out (by kernel_rfl)) (by decide) (fun K hK => ?_)
        refine goes_ Tryd.func17 (by kernel_rfl) rfl #[.agg #[.int .i64 a0_0, .slice A0_1 l0_1.length c0_1, .slice A0_2 l0_2.length c0_2], .slice Ao101 y444.length co101] (by rfl) rfl rfl (by (try simp only [List.map_toArray, List.map_cons, List.map_nil]); first | done | rfl | (simp only [List.length_drop, List.length_take]; rfl)) ?_
        with_reducible refine (sys_Holds.calls kj5 a0_0 _ _ l0_1 _ _ l0_2 _ _ y444 t457 _ ?side1 ?side2 ?side3 ?side4 ?side5 ?side6 A19.out).mono ?_
        (case side1 => exact uC (Kd.C_below HR0_1.out HB.out))
        (case side2 => exact HC0_1.out)
        (case side3 => exact uC (Kd.C_below HR0_2.out HB.out))
        (case side4 => exact HC0_2.out)
        (case side5 => exact uC ((Kd.R_reads' HO446.out).2.2))
        (case side6 => exact (Kd.R_reads' HO446.out).2.1)
        rintro e w102 ⟨rfl, hb⟩
        refine ⟨_, rfl, ?_⟩
        replace HO446 := rB HO446 hb
        replace HO450 := nB HO450 hb
        replace HO453 := nB HO453 hb
        replace BK441 := bB BK441 hb
        replace BK455 := bB BK455 hb
        replace HB := hbB bH hb
        (try clear hb)
        (try clear hb2)
        (try clear hk)
        (try clear hi)
        refine hK.out _ _ ⟨(blk_cell BK441.out 0).trans rfl, (blk_cell BK441.out 1).trans rfl, (blk_cell BK441.out 2).trans rfl, (blk_cell BK455.out 0).trans rfl, (blk_cell BK455.out 1).trans rfl, (blk_cell BK455.out 2).trans rfl⟩ (fun hHeld => ?_)
        clear hK K
        refine norm_ (a' := ?_) ?_ ?_
        rotate_left
        ·show Act.put _ (some 41) _ = _
         simp only [Act.put, List.setIfInBounds_toArray, List.set_cons_zero, List.set_cons_succ, i64_w, i32_w]
         rfl
        refine one_ (i := 4) (N := some 43) (bts 8 63) rfl rfl (one_of HT_.out (by kernel_rfl)) (by decide) (fun K hK => ?_)
        refine goes_ Tryd.func9 (by kernel_rfl) rfl #[.agg #[.int .i64 t447, .slice Ao97 t448.length co97, .slice Ao98 t451.length co98]] (by rfl) rfl rfl (by (try simp only [List.map_toArray, List.map_cons, List.map_nil]); first | done | rfl | (simp only [List.length_drop, List.length_take]; rfl)) ?_
        with_reducible refine (furrowlaw15_Of.calls kj5 t447 (fun k_ => (some k_ ≠ (.slice Ao101 y444.length co101 : Value).ownBlock ∧ (some k_ ≠ (.slice Ao98 t451.length co98 : Value).ownBlock ∧ (k_ ≠ gb441 ∧ k_ ≠ gb455)))) _ _ t448 (fun k_ => (some k_ ≠ (.slice Ao101 y444.length co101 : Value).ownBlock ∧ (some k_ ≠ (.slice Ao97 t448.length co97 : Value).ownBlock ∧ (k_ ≠ gb441 ∧ k_ ≠ gb455)))) _ _ t451 t458 t459 t462 _ ?side1 ?side2 A20.out).mono ?_
        (case side1 => exact Kd.N_V (HO450.out))
        (case side2 => exact Kd.N_V (HO453.out))
        rintro e w103 ⟨v460, v463, rfl, ho0, ho1, hb⟩
        refine ⟨_, rfl, ?_⟩
        replace HO450 := mk0 (Kd.N_mono (Kd.N_told (Kd.N_told (Kd.N_old (uN HO450.out) hb) (Kd.N_base ho0)) (Kd.N_base ho1)) (fun _ h_ => h_.1))
        replace HO453 := mk0 (Kd.N_mono (Kd.N_told (Kd.N_told (Kd.N_old (uN HO453.out) hb) (Kd.N_base ho0)) (Kd.N_base ho1)) (fun _ h_ => h_.1))
        have HO461 := mk0 (Kd.N_lower (Kd.N_mono (ok' := fun k_ => some k_ ≠ (v463 : Value).ownBlock ∧ some k_ ≠ (.slice Ao101 y444.length co101 : Value).ownBlock ∧ k_ ≠ gb441 ∧ k_ ≠ gb455) ho0 (fun k_ hk_ => ⟨hk_.2, Or.elim hk_.1 (fun hs_ => Or.elim hs_ (fun hs_ => hs_.1) (fun hs_ => hs_.1)) (fun hn_ => (Kd.fresh' (Kd.R_lt (uR HO446.out)) k_ hn_)), Or.elim hk_.1 (fun hs_ => Or.elim hs_ (fun hs_ => hs_.2.2.1) (fun hs_ => hs_.2.2.1)) (fun hn_ => (Kd.freshB (g := gb441) (o := .cells #[.int .i64 a0_0, .slice A0_1 l0_1.length c0_1, .slice A0_2 l0_2.length c0_2] 24 (0, 0)) (uB BK441.out) k_ hn_)), Or.elim hk_.1 (fun hs_ => Or.elim hs_ (fun hs_ => hs_.2.2.2) (fun hs_ => hs_.2.2.2)) (fun hn_ => (Kd.freshB (g := gb455) (o := .cells #[.int .i64 t447, .slice Ao97 t448.length co97, .slice Ao98 t451.length co98] 24 (0, 0)) (uB BK455.out) k_ hn_))⟩)) (below_size bH))
        have HO464 := mk0 (Kd.N_lower (Kd.N_mono (ok' := fun k_ => some k_ ≠ (v460 : Value).ownBlock ∧ some k_ ≠ (.slice Ao101 y444.length co101 : Value).ownBlock ∧ k_ ≠ gb441 ∧ k_ ≠ gb455) ho1 (fun k_ hk_ => ⟨hk_.2, Or.elim hk_.1 (fun hs_ => Or.elim hs_ (fun hs_ => hs_.1) (fun hs_ => hs_.1)) (fun hn_ => (Kd.fresh' (Kd.R_lt (uR HO446.out)) k_ hn_)), Or.elim hk_.1 (fun hs_ => Or.elim hs_ (fun hs_ => hs_.2.2.1) (fun hs_ => hs_.2.2.1)) (fun hn_ => (Kd.freshB (g := gb441) (o := .cells #[.int .i64 a0_0, .slice A0_1 l0_1.length c0_1, .slice A0_2 l0_2.length c0_2] 24 (0, 0)) (uB BK441.out) k_ hn_)), Or.elim hk_.1 (fun hs_ => Or.elim hs_ (fun hs_ => hs_.2.2.2) (fun hs_ => hs_.2.2.2)) (fun hn_ => (Kd.freshB (g := gb455) (o := .cells #[.int .i64 t447, .slice Ao97 t448.length co97, .slice Ao98 t451.length co98] 24 (0, 0)) (uB BK455.out) k_ hn_))⟩)) (below_size bH))
        replace HO446 := rB HO446 hb
        replace BK441 := bB BK441 hb
        replace BK455 := bB BK455 hb
        replace HB := hbB bH hb
        (try clear hb)
        (try clear hb2)
        (try clear hk)
        (try clear hi)
        (try clear ho0)
        (try clear ho1)
        obtain ⟨Ao104, co104, eo104⟩ := Kd.N_slice HO461.out
        (first | subst eo104 | (injection eo104 with f1_ f2_ f3_; have f4_ := f1_.symm; have f5_ := f3_.symm; clear f1_ f2_ f3_; subst f4_; subst f5_))
        obtain ⟨Ao105, co105, eo105⟩ := Kd.N_slice HO464.out
        (first | subst eo105 | (injection eo105 with f1_ f2_ f3_; have f4_ := f1_.symm; have f5_ := f3_.symm; clear f1_ f2_ f3_; subst f4_; subst f5_))
        refine hK.out _ _ ⟨(blk_cell BK441.out 0).trans rfl, (blk_cell BK441.out 1).trans rfl, (blk_cell BK441.out 2).trans rfl, (blk_cell BK455.out 0).trans rfl, (blk_cell BK455.out 1).trans rfl, (blk_cell BK455.out 2).trans rfl⟩ (fun hHeld => ?_)
        clear hK K
        refine norm_ (a' := ?_) ?_ ?_
        rotate_left
        ·show Act.put _ (some 43) _ = _
         simp only [Act.put, List.setIfInBounds_toArray, List.set_cons_zero, List.set_cons_succ, i64_w, i32_w]
         rfl
        refine one_ (i := 6) (N := some 45) (bts 8 127) rfl rfl (one_of HT_.out (by kernel_rfl)) (by decide) (fun K hK => ?_)
        refine goes_ Tryd.func18 (by kernel_rfl) rfl #[.agg #[.int .i64 t458, .slice Ao104 t459.length co104, .slice Ao105 t462.length co105], .slice Ao101 y444.length co101] (by rfl) rfl rfl (by (try simp only [List.map_toArray, List.map_cons, List.map_nil]); first | done | rfl | (simp only [List.length_drop, List.length_take]; rfl)) ?_
        with_reducible refine (furrowref20_Holds.calls kj5 t458 _ _ t459 _ _ t462 _ _ y444 t465 _ ?side1 ?side2 ?side3 ?side4 ?side5 ?side6 A21.out).mono ?_
        (case side1 => exact uC ((Kd.N_reads' HO461.out).2.2))
        (case side2 => exact (Kd.N_reads' HO461.out).2.1)
        (case side3 => exact uC ((Kd.N_reads' HO464.out).2.2))
        (case side4 => exact (Kd.N_reads' HO464.out).2.1)
        (case side5 => exact uC ((Kd.R_reads' HO446.out).2.2))
        (case side6 => exact (Kd.R_reads' HO446.out).2.1)
        rintro e w106 ⟨rfl, hb⟩
        refine ⟨_, rfl, ?_⟩
        replace HO446 := rB HO446 hb
        replace HO450 := nB HO450 hb
        replace HO453 := nB HO453 hb
        replace HO461 := nB HO461 hb
        replace HO464 := nB HO464 hb
        replace BK441 := bB BK441 hb
        replace BK455 := bB BK455 hb
        replace HB := hbB bH hb
        (try clear hb)
        (try clear hb2)
        (try clear hk)
        (try clear hi)
        refine hK.out _ _ ⟨(blk_cell BK441.out 0).trans rfl, (blk_cell BK441.out 1).trans rfl, (blk_cell BK441.out 2).trans rfl, (blk_cell BK455.out 0).trans rfl, (blk_cell BK455.out 1).trans rfl, (blk_cell BK455.out 2).trans rfl⟩ (fun hHeld => ?_)
        clear hK K
        refine norm_ (a' := ?_) ?_ ?_
        rotate_left
        ·show Act.put _ (some 45) _ = _
         simp only [Act.put, List.setIfInBounds_toArray, List.set_cons_zero, List.set_cons_succ, i64_w, i32_w]
         rfl
        refine pA 7 (some 46) 127 8 255 HT_ ?_
        refine done_ (done_of HT_.out (by kernel_rfl)) ?_
        obtain ⟨hcz107_0, hcz107_1, hcz107_2, hfz107_0, hfz107_1, hfz107_2⟩ := cL3 BK441
        clear HO446 HO450 HO453 HO461 HO464
        try go_wp2_with (first | ((with_reducible refine gate_dst (N := 49) rfl ?_); refine gsM (some 49) Tryd.func14 #[.agg #[.int .i64 a0_0, .slice A0_1 l0_1.length c0_1, .slice A0_2 l0_2.length c0_2]] ?_; (with_reducible refine (sys_Bounds.calls kj5 a0_0 _ _ l0_1 _ _ l0_2 t466 t469 false _ ?side1 ?side2 ?side3 ?side4 A23.out).mono ?_); (case side1 => exact uC (Kd.C_below HR0_1.out HB.out)); (case side2 => exact HC0_1.out); (case side3 => exact uC (Kd.C_below HR0_2.out HB.out)); (case side4 => exact HC0_2.out); rintro e w108 ⟨v467, v470, rfl, ho0, ho1, hb⟩; refine ⟨_, rfl, ?_⟩; have HO468 := mk0 (Kd.R_lower ho0 (below_size bH)); have HO471 := mk0 (Kd.R_lower ho1 (below_size bH)); replace BK441 := bB BK441 hb; replace BK455 := bB BK455 hb; replace HB := hbB bH hb; (try clear hb); (try clear hb2); (try clear hk); (try clear hi); (try clear ho0); (try clear ho1)))
        all_goals (try (exfalso; rename_i h_; rw [c22b2] at h_; revert h_; decide))
        go_ret
        exact ⟨by first | rfl | (simp [errW_none, errW_some] <;> rfl) | (exact congrArg (fun b_ => Ending.returned (Value.bool b_)) HT.out) | (rw [show _ = _ from HT.out]) | (simp [HT.out]; done) | (simp [show _ = _ from HT.out]; done) | (simp [*, errW_none, errW_some] <;> rfl), bH⟩
     ·replace c18 := Bool.eq_false_iff.mpr c18
      subst c18
      have H1 : ((sys_Holds.f kj5 a0_0 l0_1 l0_2 y444).bind fun t456 => (some (!t456))) = some true := by rw [if_neg (show ¬ (false = true) by decide)] at H; first | done | exact H
      clear H
      have H := H1
      clear H1
      replace H := Option.bind_eq_some_iff.mp H
      obtain ⟨t456, A1090, H⟩ := H
      have A109 := mk0 A1090
      clear A1090
      have HT := mk0 (Option.some.inj H)
      clear H
      go_wp2_with (first | ((with_reducible refine gate_dst (N := 27) rfl ?_); (try (refine gate_guard (by rfl) ?_; dsimp only)); refine Kd.R_lit (Kd.int .i64) _ 2 ?hg (N := 27) ?hd (xs := ([wrap64 (a1), wrap64 (a2)] : List Int)) (inner := [.int .i64 (wrap64 (a1)), .int .i64 (wrap64 (a2))]) (ok := fun _ => True) (okp := fun _ => True) ?hr ?hp (fun _ hk => hk) trivial (Below.refl _ _) (Nat.le_refl _) (by simp) ?_; (case hd => rfl); (case hg => rfl); (case hr => first | (go_simp; done) | (go_simp; rfl)); (case hp => exact (Reps.one (show Kd.M (Kd.int .i64) _ _ _ (wrap64 (a1)) [.int .i64 (wrap64 (a1))] from rfl) (Reps.one (show Kd.M (Kd.int .i64) _ _ _ (wrap64 (a2)) [.int .i64 (wrap64 (a2))] from rfl) (Reps.none _ _)))); intro v445 w110 ho111 hb hg_ hnew_; clear hg_ hnew_; (first | rw [← Ny444.out] at ho111 | (simp only [Int.reduceToNat] at ho111; rw [← Ny444.out] at ho111)); have HO446 := mk0 (Kd.R_lower ho111 (below_size bH)); replace BK441 := bB BK441 hb; replace HB := hbB bH hb; clear hb ho111; obtain ⟨hcz112_0, hcz112_1, hcz112_2, hfz112_0, hfz112_1, hfz112_2⟩ := cL3 BK441) | ((with_reducible refine gate_dst (N := 30) rfl ?_); refine gsM (some 30) Tryd.func12 #[.agg #[.int .i64 a0_0, .slice A0_1 l0_1.length c0_1, .slice A0_2 l0_2.length c0_2]] ?_; (with_reducible refine (sys_Tight.calls kj5 a0_0 (fun k_ => k_ < w.heap.size) _ _ l0_1 (fun k_ => k_ < w.heap.size) _ _ l0_2 t447 t448 t451 false _ ?side1 ?side2 A17.out).mono ?_); (case side1 => exact Kd.V_mk HC0_1.out (Kd.F_below (Kd.C_F k59_heap HR0_1.out) bH)); (case side2 => exact Kd.V_mk HC0_2.out (Kd.F_below (Kd.C_F k59_heap HR0_2.out) bH)); rintro e w113 ⟨v449, v452, rfl, ho0, ho1, hb⟩; refine ⟨_, rfl, ?_⟩; have HO450 := mk0 (Kd.N_lower (Kd.N_mono (ok' := fun k_ => some k_ ≠ (v452 : Value).ownBlock ∧ some k_ ≠ (v445 : Value).ownBlock ∧ k_ ≠ gb441) ho0 (fun k_ hk_ => ⟨hk_.2, Or.elim hk_.1 (fun hs_ => Or.elim hs_ (fun hs_ => fun e_ => Nat.not_le.2 hs_ (Kd.R_base HO446.out k_ e_.symm)) (fun hs_ => fun e_ => Nat.not_le.2 hs_ (Kd.R_base HO446.out k_ e_.symm))) (fun hn_ => (Kd.fresh' (Kd.R_lt (uR HO446.out)) k_ hn_)), Or.elim hk_.1 (fun hs_ => Or.elim hs_ (fun hs_ => fun e_ => Nat.not_le.2 hs_ (by rw [e_]; exact GW441.out)) (fun hs_ => fun e_ => Nat.not_le.2 hs_ (by rw [e_]; exact GW441.out))) (fun hn_ => (Kd.freshB (g := gb441) (o := .cells #[.int .i64 a0_0, .slice A0_1 l0_1.length c0_1, .slice A0_2 l0_2.length c0_2] 24 (0, 0)) (uB BK441.out) k_ hn_))⟩)) (below_size bH)); have HO453 := mk0 (Kd.N_lower (Kd.N_mono (ok' := fun k_ => some k_ ≠ (v449 : Value).ownBlock ∧ some k_ ≠ (v445 : Value).ownBlock ∧ k_ ≠ gb441) ho1 (fun k_ hk_ => ⟨hk_.2, Or.elim hk_.1 (fun hs_ => Or.elim hs_ (fun hs_ => fun e_ => Nat.not_le.2 hs_ (Kd.R_base HO446.out k_ e_.symm)) (fun hs_ => fun e_ => Nat.not_le.2 hs_ (Kd.R_base HO446.out k_ e_.symm))) (fun hn_ => (Kd.fresh' (Kd.R_lt (uR HO446.out)) k_ hn_)), Or.elim hk_.1 (fun hs_ => Or.elim hs_ (fun hs_ => fun e_ => Nat.not_le.2 hs_ (by rw [e_]; exact GW441.out)) (fun hs_ => fun e_ => Nat.not_le.2 hs_ (by rw [e_]; exact GW441.out))) (fun hn_ => (Kd.freshB (g := gb441) (o := .cells #[.int .i64 a0_0, .slice A0_1 l0_1.length c0_1, .slice A0_2 l0_2.length c0_2] 24 (0, 0)) (uB BK441.out) k_ hn_))⟩)) (below_size bH)); replace HO446 := rB HO446 hb; replace BK441 := bB BK441 hb; replace HB := hbB bH hb; (try clear hb); (try clear hb2); (try clear hk); (try clear hi); (try clear ho0); (try clear ho1)) | ((with_reducible refine gate_dst (N := 8) rfl ?_); (try (refine gate_guard (by rfl) ?_; dsimp only)); refine bxE 8 #[.int .i64 0, .slice none 0 0, .slice none 0 0] 24 ?_; intro gb455 hg w114 hbox hb; replace HO446 := rB HO446 hb; replace HO450 := mk0 (Kd.N_below (Kd.N_elderB (uN HO450.out) gb455 (Nat.le_of_eq hg.symm)) hb); replace HO453 := mk0 (Kd.N_below (Kd.N_elderB (uN HO453.out) gb455 (Nat.le_of_eq hg.symm)) hb); have BK455 := mk0 (hbox); have GW455 := mk0 ((by rw [hg]; exact (below_size bH) : w.heap.size ≤ gb455)); have GE455 := mk0 ((by rw [hg]; exact (below_size bH) : w.heap.size ≤ gb455)); replace HB := hbB bH hb; have NB441_455 := mk0 ((by rw [hg]; exact Nat.ne_of_lt (blk_lt (g := gb441) (o := .cells #[.int .i64 a0_0, .slice A0_1 l0_1.length c0_1, .slice A0_2 l0_2.length c0_2] 24 (0, 0)) (uB BK441.out)) : gb441 ≠ gb455)); have NB455_441 := mk0 ((by rw [hg]; exact Nat.ne_of_gt (blk_lt (g := gb441) (o := .cells #[.int .i64 a0_0, .slice A0_1 l0_1.length c0_1, .slice A0_2 l0_2.length c0_2] 24 (0, 0)) (uB BK441.out)) : gb455 ≠ gb441)); replace BK441 := bB BK441 hb; clear hb hbox hg; have hnb115 := NB455_441.out; have hnc115 := NB441_455.out; obtain ⟨hcz116_0, hcz116_1, hcz116_2, hfz116_0, hfz116_1, hfz116_2⟩ := cL3 BK455; obtain ⟨Ao117, co117, eo117⟩ := Kd.N_slice HO450.out; subst eo117; obtain ⟨Ao118, co118, eo118⟩ := Kd.N_slice HO453.out; subst eo118; obtain ⟨hcz119_0, hcz119_1, hcz119_2, hfz119_0, hfz119_1, hfz119_2⟩ := cL3 BK441; obtain ⟨Ao120, co120, eo120⟩ := Kd.R_slice HO446.out; subst eo120) | ((with_reducible refine gate_dst (N := 37) rfl ?_); refine gsM (some 37) Tryd.func17 #[.agg #[.int .i64 a0_0, .slice A0_1 l0_1.length c0_1, .slice A0_2 l0_2.length c0_2], .slice Ao120 y444.length co120] ?_; (with_reducible refine (sys_Holds.calls kj5 a0_0 _ _ l0_1 _ _ l0_2 _ _ y444 t456 _ ?side1 ?side2 ?side3 ?side4 ?side5 ?side6 A109.out).mono ?_); (case side1 => exact Kd.C_below HR0_1.out bH); (case side2 => exact HC0_1.out); (case side3 => exact Kd.C_below HR0_2.out bH); (case side4 => exact HC0_2.out); (case side5 => refine (Kd.R_reads' (e := 2) (base := w.heap.size) (ok := fun k_ => True) (n := y444.length) (c := co120) ?_).2.2; exact (uR (Kd.R_mono (Kd.R_far (p := ⟨gb455, 2, none⟩) (Kd.R_far (p := ⟨gb455, 1, none⟩) (Kd.R_far (p := ⟨gb455, 0, none⟩) (Kd.R_types HO446.out BK455.out (by decide)) (fun _ hk => hk.2) (.int .i64 t447)) (fun _ hk => hk.2) (.slice Ao117 t448.length co117)) (fun _ hk => hk.2) (.slice Ao118 t451.length co118)) (fun _ h_ => h_.1)))); (case side6 => exact (Kd.R_reads' HO446.out).2.1); rintro e w121 ⟨rfl, hb⟩; refine ⟨_, rfl, ?_⟩; replace HO446 := mk0 (Kd.R_below (uR (Kd.R_mono (Kd.R_far (p := ⟨gb455, 2, none⟩) (Kd.R_far (p := ⟨gb455, 1, none⟩) (Kd.R_far (p := ⟨gb455, 0, none⟩) (Kd.R_types HO446.out BK455.out (by decide)) (fun _ hk => hk.2) (.int .i64 t447)) (fun _ hk => hk.2) (.slice Ao117 t448.length co117)) (fun _ hk => hk.2) (.slice Ao118 t451.length co118)) (fun _ h_ => h_.1))) hb); replace HO450 := mk0 (Kd.N_below (uN (Kd.N_mono (Kd.N_far (p := ⟨gb455, 2, none⟩) (Kd.N_far (p := ⟨gb455, 1, none⟩) (Kd.N_far (p := ⟨gb455, 0, none⟩) (Kd.N_mono HO450.out (fun k_ hk => (⟨hk, hk.2⟩ : _ ∧ k_ ≠ gb455))) (fun _ hk => hk.2) (.int .i64 t447)) (fun _ hk => hk.2) (.slice Ao117 t448.length co117)) (fun _ hk => hk.2) (.slice Ao118 t451.length co118)) (fun _ h_ => h_.1))) hb); replace HO453 := mk0 (Kd.N_below (uN (Kd.N_mono (Kd.N_far (p := ⟨gb455, 2, none⟩) (Kd.N_far (p := ⟨gb455, 1, none⟩) (Kd.N_far (p := ⟨gb455, 0, none⟩) (Kd.N_mono HO453.out (fun k_ hk => (⟨hk, hk.2⟩ : _ ∧ k_ ≠ gb455))) (fun _ hk => hk.2) (.int .i64 t447)) (fun _ hk => hk.2) (.slice Ao117 t448.length co117)) (fun _ hk => hk.2) (.slice Ao118 t451.length co118)) (fun _ h_ => h_.1))) hb); replace BK441 := mk0 (blk_below (g := gb441) (o := .cells #[.int .i64 a0_0, .slice A0_1 l0_1.length c0_1, .slice A0_2 l0_2.length c0_2] 24 (0, 0)) (by (with_reducible repeat (first | refine blk_drewN ?_ _ | refine blk_drew ?_ | refine blk_alloc ?_ _)); refine blk_far ?_ NB441_455.out _; (with_reducible repeat (first | refine blk_drewN ?_ _ | refine blk_drew ?_ | refine blk_alloc ?_ _)); refine blk_far ?_ NB441_455.out _; (with_reducible repeat (first | refine blk_drewN ?_ _ | refine blk_drew ?_ | refine blk_alloc ?_ _)); refine blk_far ?_ NB441_455.out _; (with_reducible repeat (first | refine blk_drewN ?_ _ | refine blk_drew ?_ | refine blk_alloc ?_ _)); exact BK441.out) hb); replace BK455 := mk0 (blk_below (g := gb455) (o := .cells #[.int .i64 t447, .slice Ao117 t448.length co117, .slice Ao118 t451.length co118] 24 (0, 0)) (by (with_reducible repeat (first | refine blk_drewN ?_ _ | refine blk_drew ?_ | refine blk_alloc ?_ _)); refine blk_put (cs := #[.int .i64 t447, .slice Ao117 t448.length co117, .slice none 0 0]) ?_ 2 _ rfl; (with_reducible repeat (first | refine blk_drewN ?_ _ | refine blk_drew ?_ | refine blk_alloc ?_ _)); refine blk_put (cs := #[.int .i64 t447, .slice none 0 0, .slice none 0 0]) ?_ 1 _ rfl; (with_reducible repeat (first | refine blk_drewN ?_ _ | refine blk_drew ?_ | refine blk_alloc ?_ _)); refine blk_put (cs := #[.int .i64 0, .slice none 0 0, .slice none 0 0]) ?_ 0 _ rfl; (with_reducible repeat (first | refine blk_drewN ?_ _ | refine blk_drew ?_ | refine blk_alloc ?_ _)); exact BK455.out) hb); replace HB := hbB bH hb; (try clear hb); (try clear hb2); (try clear hk); (try clear hi)))
      go_ret
      exact ⟨by first | rfl | (simp [errW_none, errW_some] <;> rfl) | (exact congrArg (fun b_ => Ending.returned (Value.bool b_)) HT.out) | (rw [show _ = _ from HT.out]) | (simp [HT.out]; done) | (simp [show _ = _ from HT.out]; done) | (simp [*, errW_none, errW_some] <;> rfl), bH⟩
 ·replace c5 := Bool.eq_false_iff.mpr c5
  subst c5
  have H1 : (some false) = some true := by rw [if_neg (show ¬ (false = true) by decide)] at H; first | done | exact H
  clear H
  have H := H1
  clear H1
  exact absurd H (by simp)

end Go.Proofs.YtkkpgjkjkcmcbaaDoor.X
