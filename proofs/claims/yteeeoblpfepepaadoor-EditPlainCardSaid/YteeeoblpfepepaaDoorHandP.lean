/- EditPlain: walked; no conditions but what is known of the package-level variable that errors.As reads. -/
import Derived.Test.YteeeoblpfepepaaDoorHandB
import Derived.Test.YteeeoblpfepepaaDoorHandN
import Derived.Test.YteeeoblpfepepaaDoorSq
import Derived.Test.YteeeoblpfepepaaDoorXx0
import Derived.Test.YteeeoblpfepepaaDoorXx1
import Derived.Test.YteeeoblpfepepaaDoorXx12
import Derived.Test.YteeeoblpfepepaaDoorXx14
namespace Go.Proofs.YteeeoblpfepepaaDoor.X
open Go.Proofs.YteeeoblpfepepaaDoor.Flt Go.Proofs.YteeeoblpfepepaaDoor.H Go.RowKit Go.Proofs.YteeeoblpfepepaaDoorW.PrintWords Go.Proofs.YteeeoblpfepepaaDoorW.PrintLast Go.Proofs.YteeeoblpfepepaaDoorW.PrintMore
attribute [local go_sem] max2_int min2_int max_two min_two max_three min_three max_four min_four   -- for this text's walks alone
set_option linter.unusedVariables false
set_option linter.unusedSimpArgs false
mutual
def furrowlaw3_EditPlain.j0 : Nat → List ByteArray → Int → Int → List ByteArray → Bool → Option (Bool)
 | 0, _, _, _, _, _ => none
 | k + 1, x0, x1, x2, x3, x24 => if x24 = true then (some true) else (if (wrap64 ((x0.length : Int) + 1)) = 0 then (none) else (if (wrap64 ((wrap64 ((x0.length : Int) - (Int.tmod (wrap64 (x1)) (wrap64 ((x0.length : Int) + 1))))) + 1)) = 0 then (none) else ((edit_Apply.f k x0 (([(⟨Int.tmod (wrap64 (x1)) (wrap64 ((x0.length : Int) + 1)), wrap64 ((Int.tmod (wrap64 (x1)) (wrap64 ((x0.length : Int) + 1))) + (Int.tmod (wrap64 (x2)) (wrap64 ((wrap64 ((x0.length : Int) - (Int.tmod (wrap64 (x1)) (wrap64 ((x0.length : Int) + 1))))) + 1)))), x3⟩ : S38)] : List (S38)))).bind fun bt205 => ((edit_Apply.f k x0 ([] : List (S38))).bind fun bt211 => (if (bt205.2.length : Int) = 0 then (if (bt211.2.length : Int) = 0 then (if (bt205.1.length : Int) = (wrap64 ((wrap64 ((x0.length : Int) - (wrap64 ((wrap64 ((Int.tmod (wrap64 (x1)) (wrap64 ((x0.length : Int) + 1))) + (Int.tmod (wrap64 (x2)) (wrap64 ((wrap64 ((x0.length : Int) - (Int.tmod (wrap64 (x1)) (wrap64 ((x0.length : Int) + 1))))) + 1))))) - (Int.tmod (wrap64 (x1)) (wrap64 ((x0.length : Int) + 1))))))) + (x3.length : Int))) then ((furrowref4_SameLines.f k bt211.1 x0).bind fun t217 => (furrowlaw3_EditPlain.j1 k x0 x3 (Int.tmod (wrap64 (x1)) (wrap64 ((x0.length : Int) + 1))) (wrap64 ((Int.tmod (wrap64 (x1)) (wrap64 ((x0.length : Int) + 1))) + (Int.tmod (wrap64 (x2)) (wrap64 ((wrap64 ((x0.length : Int) - (Int.tmod (wrap64 (x1)) (wrap64 ((x0.length : Int) + 1))))) + 1))))) bt205.1 (!t217))) else (furrowlaw3_EditPlain.j1 k x0 x3 (Int.tmod (wrap64 (x1)) (wrap64 ((x0.length : Int) + 1))) (wrap64 ((Int.tmod (wrap64 (x1)) (wrap64 ((x0.length : Int) + 1))) + (Int.tmod (wrap64 (x2)) (wrap64 ((wrap64 ((x0.length : Int) - (Int.tmod (wrap64 (x1)) (wrap64 ((x0.length : Int) + 1))))) + 1))))) bt205.1 true)) else (furrowlaw3_EditPlain.j1 k x0 x3 (Int.tmod (wrap64 (x1)) (wrap64 ((x0.length : Int) + 1))) (wrap64 ((Int.tmod (wrap64 (x1)) (wrap64 ((x0.length : Int) + 1))) + (Int.tmod (wrap64 (x2)) (wrap64 ((wrap64 ((x0.length : Int) - (Int.tmod (wrap64 (x1)) (wrap64 ((x0.length : Int) + 1))))) + 1))))) bt205.1 true)) else (furrowlaw3_EditPlain.j1 k x0 x3 (Int.tmod (wrap64 (x1)) (wrap64 ((x0.length : Int) + 1))) (wrap64 ((Int.tmod (wrap64 (x1)) (wrap64 ((x0.length : Int) + 1))) + (Int.tmod (wrap64 (x2)) (wrap64 ((wrap64 ((x0.length : Int) - (Int.tmod (wrap64 (x1)) (wrap64 ((x0.length : Int) + 1))))) + 1))))) bt205.1 true))))))
def furrowlaw3_EditPlain.j1 : Nat → List ByteArray → List ByteArray → Int → Int → List ByteArray → Bool → Option (Bool)
 | 0, _, _, _, _, _, _ => none
 | k + 1, x0, x3, x9, x10, x11, x81 => if x81 = true then (some false) else (if 0 ≤ x9 then (if x9 ≤ (x11.length : Int) then (if x9 ≤ (x0.length : Int) then ((furrowref4_SameLines.f k (x11.take (x9 : Int).toNat) (x0.take (x9 : Int).toNat)).bind fun t223 => (if t223 = true then (if x9 ≤ (wrap64 (x9 + (x3.length : Int))) then (if (wrap64 (x9 + (x3.length : Int))) ≤ (x11.length : Int) then ((furrowref4_SameLines.f k ((x11.take ((wrap64 (x9 + (x3.length : Int))) : Int).toNat).drop (x9 : Int).toNat) x3).bind fun t228 => (if t228 = true then (if 0 ≤ (wrap64 (x9 + (x3.length : Int))) then (if 0 ≤ x10 then (if x10 ≤ (x0.length : Int) then ((furrowref4_SameLines.f k (x11.drop ((wrap64 (x9 + (x3.length : Int))) : Int).toNat) (x0.drop (x10 : Int).toNat)).bind fun t234 => (some t234)) else (none)) else (none)) else (none)) else (some false))) else (none)) else (none)) else (some false))) else (none)) else (none)) else (none))
end
def furrowlaw3_EditPlain.f (k : Nat) (l0 : List ByteArray) (a1 : Int) (a2 : Int) (l3 : List ByteArray) : Option (Bool) := (furrowlaw3_known.f k).bind fun t201 => (if t201 = true then (if (l0.length : Int) > 40 then (furrowlaw3_EditPlain.j0 k l0 a1 a2 l3 true) else (furrowlaw3_EditPlain.j0 k l0 a1 a2 l3 (decide ((l3.length : Int) > 20)))) else (some false))
theorem furrowlaw3_EditPlain.mono_l : ∀ k, (∀ y0 y1 y2 y3 y4, LeO (furrowlaw3_EditPlain.j0 k y0 y1 y2 y3 y4) (furrowlaw3_EditPlain.j0 (k + 1) y0 y1 y2 y3 y4)) ∧ (∀ y0 y1 y2 y3 y4 y5, LeO (furrowlaw3_EditPlain.j1 k y0 y1 y2 y3 y4 y5) (furrowlaw3_EditPlain.j1 (k + 1) y0 y1 y2 y3 y4 y5))
 | 0 => ⟨fun _ _ _ _ _ r h => by simp [furrowlaw3_EditPlain.j0] at h, fun _ _ _ _ _ _ r h => by simp [furrowlaw3_EditPlain.j1] at h⟩
 | k + 1 => by
  obtain ⟨ih0, ih1⟩ := furrowlaw3_EditPlain.mono_l k
  refine ⟨?_, ?_⟩
  ·intro y0 y1 y2 y3 y4
   unfold furrowlaw3_EditPlain.j0
   repeat' first
   | (with_reducible exact ih0 _ _ _ _ _)
   | (with_reducible exact ih1 _ _ _ _ _ _)
   | (with_reducible exact edit_Apply.mono _ _ _)
   | (with_reducible exact furrowlaw3_known.mono _)
   | (with_reducible exact furrowref4_SameLines.mono _ _ _)
   | (with_reducible exact LeO.refl _)
   | (with_reducible exact LeO.none _)
   | (with_reducible refine LeO.ite ?_ ?_)
   | (with_reducible refine LeO.bind ?_ (fun _ => ?_))
   | exact ih0 _ _ _ _ _
   | exact ih1 _ _ _ _ _ _
   | exact edit_Apply.mono _ _ _
   | exact furrowlaw3_known.mono _
   | exact furrowref4_SameLines.mono _ _ _
   | exact LeO.none _
   | refine LeO.ite ?_ ?_
   | refine LeO.bind ?_ (fun _ => ?_)
  ·intro y0 y1 y2 y3 y4 y5
   unfold furrowlaw3_EditPlain.j1
   repeat' first
   | (with_reducible exact ih0 _ _ _ _ _)
   | (with_reducible exact ih1 _ _ _ _ _ _)
   | (with_reducible exact edit_Apply.mono _ _ _)
   | (with_reducible exact furrowlaw3_known.mono _)
   | (with_reducible exact furrowref4_SameLines.mono _ _ _)
   | (with_reducible exact LeO.refl _)
   | (with_reducible exact LeO.none _)
   | (with_reducible refine LeO.ite ?_ ?_)
   | (with_reducible refine LeO.bind ?_ (fun _ => ?_))
   | exact ih0 _ _ _ _ _
   | exact ih1 _ _ _ _ _ _
   | exact edit_Apply.mono _ _ _
   | exact furrowlaw3_known.mono _
   | exact furrowref4_SameLines.mono _ _ _
   | exact LeO.none _
   | refine LeO.ite ?_ ?_
   | refine LeO.bind ?_ (fun _ => ?_)
theorem furrowlaw3_EditPlain.mono : ∀ a0 a1 a2 a3 k, LeO (furrowlaw3_EditPlain.f k a0 a1 a2 a3) (furrowlaw3_EditPlain.f (k + 1) a0 a1 a2 a3) := by
 intro a0 a1 a2 a3 k
 obtain ⟨ih0, ih1⟩ := furrowlaw3_EditPlain.mono_l k
 unfold furrowlaw3_EditPlain.f
 repeat' first
   | (with_reducible exact ih0 _ _ _ _ _)
   | (with_reducible exact ih1 _ _ _ _ _ _)
   | (with_reducible exact edit_Apply.mono _ _ _)
   | (with_reducible exact furrowlaw3_known.mono _)
   | (with_reducible exact furrowref4_SameLines.mono _ _ _)
   | (with_reducible exact LeO.refl _)
   | (with_reducible exact LeO.none _)
   | (with_reducible refine LeO.ite ?_ ?_)
   | (with_reducible refine LeO.bind ?_ (fun _ => ?_))
   | exact ih0 _ _ _ _ _
   | exact ih1 _ _ _ _ _ _
   | exact edit_Apply.mono _ _ _
   | exact furrowlaw3_known.mono _
   | exact furrowref4_SameLines.mono _ _ _
   | exact LeO.none _
   | refine LeO.ite ?_ ?_
   | refine LeO.bind ?_ (fun _ => ?_)
def furrowlaw3_EditPlain.T11 : Bool × List (List Nat × List Nat) := (true, [([], []), ([], []), ([0, 1], [0, 1]), ([], []), ([], []), ([3, 4], [3, 4]), ([2, 5], [2, 5]), ([6, 6], [6]), ([7], [7]), ([7], [7]), ([7], [7]), ([7], [7]), ([11, 7], [7, 11]), ([10, 12, 7], [7, 10, 12]), ([8, 9, 13, 7], [7, 8, 9, 13]), ([7], [7]), ([14, 15, 7, 7], [7, 14, 15]), ([7, 16], [7, 16]), ([17, 16], [17]), ([18], [18]), ([18], [18]), ([18], [18]), ([21, 18], [18, 21]), ([20, 22, 18], [18, 20, 22]), ([19, 23, 18], [18, 19, 23]), ([18], [18]), ([18], [18]), ([25, 26, 18], [18, 25, 26]), ([24, 27, 18, 18], [18, 24, 27]), ([18, 28], [18, 28]), ([29, 28, 0, 1, 2, 3, 4, 5, 6, 7, 8, 9, 10, 11, 12, 13, 14, 15, 16, 17, 18, 19, 20, 21, 22, 23, 24, 25, 26, 27, 28, 29], [29])])
def furrowlaw3_EditPlain.B11 : List Nat := [0, 0, 3, 0, 0, 24, 63, 127, 255, 255, 255, 255, 2303, 7423, 16383, 255, 65535, 131071, 262143, 524287, 524287, 524287, 2621439, 7864319, 16777215, 524287, 524287, 101187583, 268435455, 536870911, 1073741823]
theorem furrowlaw3_EditPlain.tab11 : rtab .any (opsOf Tryd.f5 11) = furrowlaw3_EditPlain.T11 := by kernel_rfl
theorem furrowlaw3_EditPlain.bits11 : waitsOk furrowlaw3_EditPlain.T11.2 furrowlaw3_EditPlain.B11 = true := by kernel_rfl
set_option maxHeartbeats 8000000 in
set_option maxRecDepth 100000 in
theorem furrowlaw3_EditPlain.calls (k : Nat) (A0 : Option Addr) (c0 : Nat) (l0 : List ByteArray) (a1 : Int) (a2 : Int) (A3 : Option Addr) (c3 : Nat) (l3 : List ByteArray) (w : World) (hr0 : Kd.C Kd.string w A0 l0.length l0) (hc0 : l0.length ≤ c0) (hr3 : Kd.C Kd.string w A3 l3.length l3) (hc3 : l3.length ≤ c3) (hG : Glob w) (h : furrowlaw3_EditPlain.f k l0 a1 a2 l3 = some true) :
  Calls Tryd.prog 5 #[.slice A0 l0.length c0, .int .u8 a1, .int .u8 a2, .slice A3 l3.length c3] w fun e w' => e = .returned (.bool true) ∧ Below w.heap.size w w' := by
 have hu38 := Tryd.underlying38
 have HR0 := mk0 hr0
 have HC0 := mk0 hc0
 clear hr0 hc0
 have HR3 := mk0 hr3
 have HC3 := mk0 hc3
 clear hr3 hc3
 have HG := mk0 hG
 clear hG
 have HB := mk0 (Below.refl w.heap.size w)
 have H : ((furrowlaw3_known.f k).bind fun t201 => (if t201 = true then (if (l0.length : Int) > 40 then (furrowlaw3_EditPlain.j0 k l0 a1 a2 l3 true) else (furrowlaw3_EditPlain.j0 k l0 a1 a2 l3 (decide ((l3.length : Int) > 20)))) else (some false))) = some true := h
 clear h
 replace H := Option.bind_eq_some_iff.mp H
 obtain ⟨t201, A50, H⟩ := H
 replace H : (if t201 = true then (if (l0.length : Int) > 40 then (furrowlaw3_EditPlain.j0 k l0 a1 a2 l3 true) else (furrowlaw3_EditPlain.j0 k l0 a1 a2 l3 (decide ((l3.length : Int) > 20)))) else (some false)) = some true := H
 have A5 := mk0 A50
 clear A50
 by_cases c6 : t201 = true
 ·subst c6
  have H1 : (if (l0.length : Int) > 40 then (furrowlaw3_EditPlain.j0 k l0 a1 a2 l3 true) else (furrowlaw3_EditPlain.j0 k l0 a1 a2 l3 (decide ((l3.length : Int) > 20)))) = some true := by rw [if_pos rfl] at H; first | done | exact H
  clear H
  have H := H1
  clear H1
  have HC7 := mk0 H
  clear H
  go_enter Tryd.func5, Tryd.ntmps5
  go_upto_region 3 with (first | ((with_reducible refine gate_callee (f := 10) rfl ?_); refine goesL_ (some 15) rfl rfl Tryd.func10 (by kernel_rfl) rfl #[] rfl (by (try simp only [List.map_toArray, List.map_cons, List.map_nil]); first | done | rfl | (simp only [List.length_drop, List.length_take]; rfl)) ?_; (with_reducible refine (furrowlaw3_known.calls k   _ ?side1 A5.out).mono ?_); (case side1 => exact Glob.below HG.out (uL HB.out)); rintro e w8 ⟨rfl, hb⟩; refine ⟨_, rfl, ?_⟩; have n0_ := mk0 (below_step (uL HB.out) hb); clear HB; have HB := n0_; clear n0_; (try clear hb); (try clear hb2); (try clear hk); (try clear hi)))
  (try simp only [Act.put, List.setIfInBounds_toArray, List.set_cons_zero, List.set_cons_succ])
  go_cut [24] (fun v24 wc => ∃ (kq : Nat) (x24_6 : Bool), v24 = .bool x24_6 ∧ Aside0 (furrowlaw3_EditPlain.j0 kq l0 a1 a2 l3 x24_6 = some true) ∧ Aside0 (kq ≤ k) ∧ Aside0 (Below w.heap.size w wc))
  case first =>
   have H := HC7.out
   clear HC7
   by_cases c9 : (l0.length : Int) > 40
   ·rw [if_pos c9] at H
    have c9b0 : decide (40 < (l0.length : Int)) = true := decide_eq_true c9
    have c9b1 : decide (40 < l0.length) = true := decide_eq_true (by omega)
    clear c9
    (first | rw [c9b0] | (simp only [i64_w, i32_w]; rw [c9b0]) | skip)
    have H' := mk0 H
    clear H
    go_wp2
    go_meet
    case rel => exact ⟨_, (true), (by first | rfl | (simp; done) | (simp [*]; done) | (simp [bne_nil_, beq_nil_]; done)), H', ⟨by first | omega | exact Nat.le_refl _⟩, ⟨uL HB.out⟩⟩
   ·rw [if_neg c9] at H
    have c9b0 : decide (40 < (l0.length : Int)) = false := decide_eq_false c9
    have c9b1 : decide (40 < l0.length) = false := decide_eq_false (by omega)
    clear c9
    (first | rw [c9b0] | (simp only [i64_w, i32_w]; rw [c9b0]) | skip)
    have H' := mk0 H
    clear H
    go_wp2
    go_meet
    case rel => exact ⟨_, (decide ((l3.length : Int) > 20)), (by first | rfl | (simp; done) | (simp [*]; done) | (simp [bne_nil_, beq_nil_]; done)), H', ⟨by first | omega | exact Nat.le_refl _⟩, ⟨uL HB.out⟩⟩
  case rest =>
   clear HC7
   try clear c1
   try clear p2
   try clear c3
   try clear c5
   try clear c6
   try clear c9
   try clear c9b0
   try clear c9b1
   obtain ⟨kq, x24_6, rfl, HA, HJ6, HB⟩ := hcut
   cases kq with
   | zero => exact absurd HA.out (by simp [furrowlaw3_EditPlain.j0])
   | succ kj6 =>
    have H := HA.out
    clear HA
    simp only [furrowlaw3_EditPlain.j0] at H
    by_cases c10 : x24_6 = true
    ·subst c10
     have H1 : (some true) = some true := by rw [if_pos rfl] at H; first | done | exact H
     clear H
     have H := H1
     clear H1
     have HT := mk0 (Option.some.inj H)
     clear H
     go_wp2
     go_ret
     exact ⟨by first | rfl | (simp [errW_none, errW_some] <;> rfl) | (exact congrArg (fun b_ => Ending.returned (Value.bool b_)) HT.out) | (rw [show _ = _ from HT.out]) | (simp [HT.out]; done) | (simp [show _ = _ from HT.out]; done) | (simp [*, errW_none, errW_some] <;> rfl), uL HB.out⟩
    ·replace c10 := Bool.eq_false_iff.mpr c10
     subst c10
     have H1 : (if (wrap64 ((l0.length : Int) + 1)) = 0 then (none) else (if (wrap64 ((wrap64 ((l0.length : Int) - (Int.tmod (wrap64 (a1)) (wrap64 ((l0.length : Int) + 1))))) + 1)) = 0 then (none) else ((edit_Apply.f kj6 l0 (([(⟨Int.tmod (wrap64 (a1)) (wrap64 ((l0.length : Int) + 1)), wrap64 ((Int.tmod (wrap64 (a1)) (wrap64 ((l0.length : Int) + 1))) + (Int.tmod (wrap64 (a2)) (wrap64 ((wrap64 ((l0.length : Int) - (Int.tmod (wrap64 (a1)) (wrap64 ((l0.length : Int) + 1))))) + 1)))), l3⟩ : S38)] : List (S38)))).bind fun bt205 => ((edit_Apply.f kj6 l0 ([] : List (S38))).bind fun bt211 => (if (bt205.2.length : Int) = 0 then (if (bt211.2.length : Int) = 0 then (if (bt205.1.length : Int) = (wrap64 ((wrap64 ((l0.length : Int) - (wrap64 ((wrap64 ((Int.tmod (wrap64 (a1)) (wrap64 ((l0.length : Int) + 1))) + (Int.tmod (wrap64 (a2)) (wrap64 ((wrap64 ((l0.length : Int) - (Int.tmod (wrap64 (a1)) (wrap64 ((l0.length : Int) + 1))))) + 1))))) - (Int.tmod (wrap64 (a1)) (wrap64 ((l0.length : Int) + 1))))))) + (l3.length : Int))) then ((furrowref4_SameLines.f kj6 bt211.1 l0).bind fun t217 => (furrowlaw3_EditPlain.j1 kj6 l0 l3 (Int.tmod (wrap64 (a1)) (wrap64 ((l0.length : Int) + 1))) (wrap64 ((Int.tmod (wrap64 (a1)) (wrap64 ((l0.length : Int) + 1))) + (Int.tmod (wrap64 (a2)) (wrap64 ((wrap64 ((l0.length : Int) - (Int.tmod (wrap64 (a1)) (wrap64 ((l0.length : Int) + 1))))) + 1))))) bt205.1 (!t217))) else (furrowlaw3_EditPlain.j1 kj6 l0 l3 (Int.tmod (wrap64 (a1)) (wrap64 ((l0.length : Int) + 1))) (wrap64 ((Int.tmod (wrap64 (a1)) (wrap64 ((l0.length : Int) + 1))) + (Int.tmod (wrap64 (a2)) (wrap64 ((wrap64 ((l0.length : Int) - (Int.tmod (wrap64 (a1)) (wrap64 ((l0.length : Int) + 1))))) + 1))))) bt205.1 true)) else (furrowlaw3_EditPlain.j1 kj6 l0 l3 (Int.tmod (wrap64 (a1)) (wrap64 ((l0.length : Int) + 1))) (wrap64 ((Int.tmod (wrap64 (a1)) (wrap64 ((l0.length : Int) + 1))) + (Int.tmod (wrap64 (a2)) (wrap64 ((wrap64 ((l0.length : Int) - (Int.tmod (wrap64 (a1)) (wrap64 ((l0.length : Int) + 1))))) + 1))))) bt205.1 true)) else (furrowlaw3_EditPlain.j1 kj6 l0 l3 (Int.tmod (wrap64 (a1)) (wrap64 ((l0.length : Int) + 1))) (wrap64 ((Int.tmod (wrap64 (a1)) (wrap64 ((l0.length : Int) + 1))) + (Int.tmod (wrap64 (a2)) (wrap64 ((wrap64 ((l0.length : Int) - (Int.tmod (wrap64 (a1)) (wrap64 ((l0.length : Int) + 1))))) + 1))))) bt205.1 true)))))) = some true := by rw [if_neg (show ¬ (false = true) by decide)] at H; first | done | exact H
     clear H
     have H := H1
     clear H1
     by_cases c11 : (wrap64 ((l0.length : Int) + 1)) = 0
     ·rw [if_pos c11] at H
      exact absurd H (by simp)
     ·rw [if_neg c11] at H
      have c11b0 : ((wrap64 ((l0.length : Int) + 1)) == 0) = false := beq_eq_false_iff_ne.mpr c11
      have c11b1 : ((wrap64 ((l0.length : Int) + 1)) != 0) = true := bne_iff_ne.mpr c11
      by_cases c12 : (wrap64 ((wrap64 ((l0.length : Int) - (Int.tmod (wrap64 (a1)) (wrap64 ((l0.length : Int) + 1))))) + 1)) = 0
      ·rw [if_pos c12] at H
       exact absurd H (by simp)
      ·rw [if_neg c12] at H
       have c12b0 : ((wrap64 ((wrap64 ((l0.length : Int) - (Int.tmod (wrap64 (a1)) (wrap64 ((l0.length : Int) + 1))))) + 1)) == 0) = false := beq_eq_false_iff_ne.mpr c12
       have c12b1 : ((wrap64 ((wrap64 ((l0.length : Int) - (Int.tmod (wrap64 (a1)) (wrap64 ((l0.length : Int) + 1))))) + 1)) != 0) = true := bne_iff_ne.mpr c12
       obtain ⟨y202, hy202⟩ : ∃ y_ : List (S38), y_ = (([(⟨Int.tmod (wrap64 (a1)) (wrap64 ((l0.length : Int) + 1)), wrap64 ((Int.tmod (wrap64 (a1)) (wrap64 ((l0.length : Int) + 1))) + (Int.tmod (wrap64 (a2)) (wrap64 ((wrap64 ((l0.length : Int) - (Int.tmod (wrap64 (a1)) (wrap64 ((l0.length : Int) + 1))))) + 1)))), l3⟩ : S38)] : List (S38))) := ⟨_, rfl⟩
       replace H : ((edit_Apply.f kj6 l0 y202).bind fun bt205 => ((edit_Apply.f kj6 l0 ([] : List (S38))).bind fun bt211 => (if (bt205.2.length : Int) = 0 then (if (bt211.2.length : Int) = 0 then (if (bt205.1.length : Int) = (wrap64 ((wrap64 ((l0.length : Int) - (wrap64 ((wrap64 ((Int.tmod (wrap64 (a1)) (wrap64 ((l0.length : Int) + 1))) + (Int.tmod (wrap64 (a2)) (wrap64 ((wrap64 ((l0.length : Int) - (Int.tmod (wrap64 (a1)) (wrap64 ((l0.length : Int) + 1))))) + 1))))) - (Int.tmod (wrap64 (a1)) (wrap64 ((l0.length : Int) + 1))))))) + (l3.length : Int))) then ((furrowref4_SameLines.f kj6 bt211.1 l0).bind fun t217 => (furrowlaw3_EditPlain.j1 kj6 l0 l3 (Int.tmod (wrap64 (a1)) (wrap64 ((l0.length : Int) + 1))) (wrap64 ((Int.tmod (wrap64 (a1)) (wrap64 ((l0.length : Int) + 1))) + (Int.tmod (wrap64 (a2)) (wrap64 ((wrap64 ((l0.length : Int) - (Int.tmod (wrap64 (a1)) (wrap64 ((l0.length : Int) + 1))))) + 1))))) bt205.1 (!t217))) else (furrowlaw3_EditPlain.j1 kj6 l0 l3 (Int.tmod (wrap64 (a1)) (wrap64 ((l0.length : Int) + 1))) (wrap64 ((Int.tmod (wrap64 (a1)) (wrap64 ((l0.length : Int) + 1))) + (Int.tmod (wrap64 (a2)) (wrap64 ((wrap64 ((l0.length : Int) - (Int.tmod (wrap64 (a1)) (wrap64 ((l0.length : Int) + 1))))) + 1))))) bt205.1 true)) else (furrowlaw3_EditPlain.j1 kj6 l0 l3 (Int.tmod (wrap64 (a1)) (wrap64 ((l0.length : Int) + 1))) (wrap64 ((Int.tmod (wrap64 (a1)) (wrap64 ((l0.length : Int) + 1))) + (Int.tmod (wrap64 (a2)) (wrap64 ((wrap64 ((l0.length : Int) - (Int.tmod (wrap64 (a1)) (wrap64 ((l0.length : Int) + 1))))) + 1))))) bt205.1 true)) else (furrowlaw3_EditPlain.j1 kj6 l0 l3 (Int.tmod (wrap64 (a1)) (wrap64 ((l0.length : Int) + 1))) (wrap64 ((Int.tmod (wrap64 (a1)) (wrap64 ((l0.length : Int) + 1))) + (Int.tmod (wrap64 (a2)) (wrap64 ((wrap64 ((l0.length : Int) - (Int.tmod (wrap64 (a1)) (wrap64 ((l0.length : Int) + 1))))) + 1))))) bt205.1 true)))) = some true := by first | (rw [hy202]; with_reducible exact H) | (have H2_ := (Option.bind_some _ _).symm.trans H; rw [hy202]; with_reducible exact H2_) | (have H2_ := (Option.bind_some _ _).symm.trans H; with_reducible exact H2_) | with_reducible exact H | (rw [hy202]; exact H) | exact H
       have Ny202 := mk0 hy202
       clear hy202
       replace H := Option.bind_eq_some_iff.mp H
       obtain ⟨⟨t205, t206⟩, A130, H⟩ := H
       replace H : ((edit_Apply.f kj6 l0 ([] : List (S38))).bind fun bt211 => (if (t206.length : Int) = 0 then (if (bt211.2.length : Int) = 0 then (if (t205.length : Int) = (wrap64 ((wrap64 ((l0.length : Int) - (wrap64 ((wrap64 ((Int.tmod (wrap64 (a1)) (wrap64 ((l0.length : Int) + 1))) + (Int.tmod (wrap64 (a2)) (wrap64 ((wrap64 ((l0.length : Int) - (Int.tmod (wrap64 (a1)) (wrap64 ((l0.length : Int) + 1))))) + 1))))) - (Int.tmod (wrap64 (a1)) (wrap64 ((l0.length : Int) + 1))))))) + (l3.length : Int))) then ((furrowref4_SameLines.f kj6 bt211.1 l0).bind fun t217 => (furrowlaw3_EditPlain.j1 kj6 l0 l3 (Int.tmod (wrap64 (a1)) (wrap64 ((l0.length : Int) + 1))) (wrap64 ((Int.tmod (wrap64 (a1)) (wrap64 ((l0.length : Int) + 1))) + (Int.tmod (wrap64 (a2)) (wrap64 ((wrap64 ((l0.length : Int) - (Int.tmod (wrap64 (a1)) (wrap64 ((l0.length : Int) + 1))))) + 1))))) t205 (!t217))) else (furrowlaw3_EditPlain.j1 kj6 l0 l3 (Int.tmod (wrap64 (a1)) (wrap64 ((l0.length : Int) + 1))) (wrap64 ((Int.tmod (wrap64 (a1)) (wrap64 ((l0.length : Int) + 1))) + (Int.tmod (wrap64 (a2)) (wrap64 ((wrap64 ((l0.length : Int) - (Int.tmod (wrap64 (a1)) (wrap64 ((l0.length : Int) + 1))))) + 1))))) t205 true)) else (furrowlaw3_EditPlain.j1 kj6 l0 l3 (Int.tmod (wrap64 (a1)) (wrap64 ((l0.length : Int) + 1))) (wrap64 ((Int.tmod (wrap64 (a1)) (wrap64 ((l0.length : Int) + 1))) + (Int.tmod (wrap64 (a2)) (wrap64 ((wrap64 ((l0.length : Int) - (Int.tmod (wrap64 (a1)) (wrap64 ((l0.length : Int) + 1))))) + 1))))) t205 true)) else (furrowlaw3_EditPlain.j1 kj6 l0 l3 (Int.tmod (wrap64 (a1)) (wrap64 ((l0.length : Int) + 1))) (wrap64 ((Int.tmod (wrap64 (a1)) (wrap64 ((l0.length : Int) + 1))) + (Int.tmod (wrap64 (a2)) (wrap64 ((wrap64 ((l0.length : Int) - (Int.tmod (wrap64 (a1)) (wrap64 ((l0.length : Int) + 1))))) + 1))))) t205 true))) = some true := H
       have A13 := mk0 A130
       clear A130
       replace H := Option.bind_eq_some_iff.mp H
       obtain ⟨⟨t211, t212⟩, A140, H⟩ := H
       replace H : (if (t206.length : Int) = 0 then (if (t212.length : Int) = 0 then (if (t205.length : Int) = (wrap64 ((wrap64 ((l0.length : Int) - (wrap64 ((wrap64 ((Int.tmod (wrap64 (a1)) (wrap64 ((l0.length : Int) + 1))) + (Int.tmod (wrap64 (a2)) (wrap64 ((wrap64 ((l0.length : Int) - (Int.tmod (wrap64 (a1)) (wrap64 ((l0.length : Int) + 1))))) + 1))))) - (Int.tmod (wrap64 (a1)) (wrap64 ((l0.length : Int) + 1))))))) + (l3.length : Int))) then ((furrowref4_SameLines.f kj6 t211 l0).bind fun t217 => (furrowlaw3_EditPlain.j1 kj6 l0 l3 (Int.tmod (wrap64 (a1)) (wrap64 ((l0.length : Int) + 1))) (wrap64 ((Int.tmod (wrap64 (a1)) (wrap64 ((l0.length : Int) + 1))) + (Int.tmod (wrap64 (a2)) (wrap64 ((wrap64 ((l0.length : Int) - (Int.tmod (wrap64 (a1)) (wrap64 ((l0.length : Int) + 1))))) + 1))))) t205 (!t217))) else (furrowlaw3_EditPlain.j1 kj6 l0 l3 (Int.tmod (wrap64 (a1)) (wrap64 ((l0.length : Int) + 1))) (wrap64 ((Int.tmod (wrap64 (a1)) (wrap64 ((l0.length : Int) + 1))) + (Int.tmod (wrap64 (a2)) (wrap64 ((wrap64 ((l0.length : Int) - (Int.tmod (wrap64 (a1)) (wrap64 ((l0.length : Int) + 1))))) + 1))))) t205 true)) else (furrowlaw3_EditPlain.j1 kj6 l0 l3 (Int.tmod (wrap64 (a1)) (wrap64 ((l0.length : Int) + 1))) (wrap64 ((Int.tmod (wrap64 (a1)) (wrap64 ((l0.length : Int) + 1))) + (Int.tmod (wrap64 (a2)) (wrap64 ((wrap64 ((l0.length : Int) - (Int.tmod (wrap64 (a1)) (wrap64 ((l0.length : Int) + 1))))) + 1))))) t205 true)) else (furrowlaw3_EditPlain.j1 kj6 l0 l3 (Int.tmod (wrap64 (a1)) (wrap64 ((l0.length : Int) + 1))) (wrap64 ((Int.tmod (wrap64 (a1)) (wrap64 ((l0.length : Int) + 1))) + (Int.tmod (wrap64 (a2)) (wrap64 ((wrap64 ((l0.length : Int) - (Int.tmod (wrap64 (a1)) (wrap64 ((l0.length : Int) + 1))))) + 1))))) t205 true)) = some true := H
       have A14 := mk0 A140
       clear A140
       have HC15 := mk0 H
       clear H
       go_upto_region 9 with (first | ((with_reducible refine gate_dst (N := 47) rfl ?_); (try (refine gate_guard (by rfl) ?_; dsimp only)); refine Kd.N_lit k38 _ 38 ?hg (N' := 47) ?hd (xs := ([(⟨Int.tmod (wrap64 (a1)) (wrap64 ((l0.length : Int) + 1)), wrap64 ((Int.tmod (wrap64 (a1)) (wrap64 ((l0.length : Int) + 1))) + (Int.tmod (wrap64 (a2)) (wrap64 ((wrap64 ((l0.length : Int) - (Int.tmod (wrap64 (a1)) (wrap64 ((l0.length : Int) + 1))))) + 1)))), l3⟩ : S38)] : List (S38))) (inner := [.int .i64 (Int.tmod (wrap64 (a1)) (wrap64 ((l0.length : Int) + 1))), .int .i64 (wrap64 ((Int.tmod (wrap64 (a1)) (wrap64 ((l0.length : Int) + 1))) + (Int.tmod (wrap64 (a2)) (wrap64 ((wrap64 ((l0.length : Int) - (Int.tmod (wrap64 (a1)) (wrap64 ((l0.length : Int) + 1))))) + 1))))), .slice A3 l3.length c3]) (ok := fun _ => True) (okp := fun _ => True) ?hr ?hp (fun _ hk => hk) trivial (Below.refl _ _) (Nat.le_refl _) (by simp) ?_; (case hd => rfl); (case hg => rfl); (case hr => first | (go_simp; done) | (go_simp; rfl)); (case hp => exact (Reps.c3 (show Kd.FK k38 _ _ (⟨Int.tmod (wrap64 (a1)) (wrap64 ((l0.length : Int) + 1)), wrap64 ((Int.tmod (wrap64 (a1)) (wrap64 ((l0.length : Int) + 1))) + (Int.tmod (wrap64 (a2)) (wrap64 ((wrap64 ((l0.length : Int) - (Int.tmod (wrap64 (a1)) (wrap64 ((l0.length : Int) + 1))))) + 1)))), l3⟩ : S38) [.int .i64 (Int.tmod (wrap64 (a1)) (wrap64 ((l0.length : Int) + 1))), .int .i64 (wrap64 ((Int.tmod (wrap64 (a1)) (wrap64 ((l0.length : Int) + 1))) + (Int.tmod (wrap64 (a2)) (wrap64 ((wrap64 ((l0.length : Int) - (Int.tmod (wrap64 (a1)) (wrap64 ((l0.length : Int) + 1))))) + 1))))), .slice A3 l3.length c3] from (k38_mkF _ _ (⟨Int.tmod (wrap64 (a1)) (wrap64 ((l0.length : Int) + 1)), wrap64 ((Int.tmod (wrap64 (a1)) (wrap64 ((l0.length : Int) + 1))) + (Int.tmod (wrap64 (a2)) (wrap64 ((wrap64 ((l0.length : Int) - (Int.tmod (wrap64 (a1)) (wrap64 ((l0.length : Int) + 1))))) + 1)))), l3⟩ : S38) HC3.out (Kd.F_mono (Kd.C_F Kd.heap_string (Kd.C_below HR3.out HB.out)) (fun _ _ => trivial)))) (Reps.none _ _))); intro v203 w16 ho17 hb hg_ hnew_; clear hg_ hnew_; (first | rw [← Ny202.out] at ho17 | (simp only [Int.reduceToNat] at ho17; rw [← Ny202.out] at ho17)); have n0_ := mk0 (Kd.N_lower ho17 (below_size (uL HB.out))); have n1_ := mk0 (below_step (uL HB.out) hb); clear HB; have HO204 := n0_; have HB := n1_; clear n0_ n1_; clear hb ho17; obtain ⟨Ao18, co18, eo18⟩ := Kd.N_slice HO204.out; subst eo18) | ((with_reducible refine gate_callee (f := 12) rfl ?_); refine goesL_ (some 48) rfl rfl Tryd.func12 (by kernel_rfl) rfl #[.slice A0 l0.length c0, .slice Ao18 y202.length co18] rfl (by (try simp only [List.map_toArray, List.map_cons, List.map_nil]); first | done | rfl | (simp only [List.length_drop, List.length_take]; rfl)) ?_; (with_reducible refine (edit_Apply.calls kj6 _ _ l0 _ _ y202 t205 t206 _ ?side1 ?side2 ?side3 ?side4 A13.out).mono ?_); (case side1 => repeat (first | exact (Kd.C_below HR0.out HB.out) | (with_reducible refine Kd.C_alloc ?_ _) | (with_reducible refine Kd.C_drewN ?_ _) | (with_reducible refine Kd.C_drew ?_))); (case side2 => exact HC0.out); (case side3 => repeat (first | exact (Kd.N_reads' HO204.out).2.2 | (with_reducible refine Kd.C_alloc ?_ _) | (with_reducible refine Kd.C_drewN ?_ _) | (with_reducible refine Kd.C_drew ?_))); (case side4 => exact (Kd.N_reads' HO204.out).2.1); rintro e w19 ⟨v207, v209, rfl, ho0, ho1, hb⟩; refine ⟨_, rfl, ?_⟩; have n0_ := mk0 (Kd.N_elder' (uN HO204.out) (Kd.R_base ho0) hb); have n1_ := mk0 (Kd.R_lower ho0 (below_size (uL HB.out))); have n2_ := mk0 (Kd.R_lower ho1 (below_size (uL HB.out))); have n3_ := mk0 (below_step (uL HB.out) hb); clear HO204; clear HB; have HO204 := n0_; have HO208 := n1_; have HO210 := n2_; have HB := n3_; clear n0_ n1_ n2_ n3_; (try clear hb); (try clear hb2); (try clear hk); (try clear hi); (try clear ho0); (try clear ho1); (first | (have EHO210 := cmpV_no HO210.out (by with_reducible assumption)) | (have EHO210 := cmpV_yes HO210.out (by with_reducible assumption)) | skip)) | ((with_reducible refine gate_callee (f := 12) rfl ?_); refine goesL_ (some 53) rfl rfl Tryd.func12 (by kernel_rfl) rfl #[.slice A0 l0.length c0, .slice none 0 0] rfl (by (try simp only [List.map_toArray, List.map_cons, List.map_nil]); first | done | rfl | (simp only [List.length_drop, List.length_take]; rfl)) ?_; (refine (edit_Apply.calls kj6 _ _ l0 _ _ ([] : List (S38)) t211 t212 _ ?side1 ?side2 ?side3 ?side4 A14.out).mono ?_); (case side1 => repeat (first | exact (Kd.C_below HR0.out HB.out) | (with_reducible refine Kd.C_alloc ?_ _) | (with_reducible refine Kd.C_drewN ?_ _) | (with_reducible refine Kd.C_drew ?_))); (case side2 => exact HC0.out); (case side3 => exact Kd.C_nil _ _); (case side4 => exact Nat.le_refl _); rintro e w20 ⟨v213, v215, rfl, ho0, ho1, hb⟩; refine ⟨_, rfl, ?_⟩; have n0_ := mk0 (Kd.N_elder' (uN HO204.out) (Kd.R_base ho0) hb); have n1_ := mk0 (Kd.R_elder' (uR HO208.out) (Kd.R_base ho0) hb); have n2_ := mk0 (Kd.R_elder' (uR HO210.out) (Kd.R_base ho1) hb); have n3_ := mk0 (Kd.R_lower (Kd.R_new' ho0 (Kd.R_lt (uR HO208.out))) (below_size (uL HB.out))); have n4_ := mk0 (Kd.R_lower (Kd.R_new' ho1 (Kd.R_lt (uR HO210.out))) (below_size (uL HB.out))); have n5_ := mk0 (below_step (uL HB.out) hb); clear HO204; clear HO208; clear HO210; clear HB; have HO204 := n0_; have HO208 := n1_; have HO210 := n2_; have HO214 := n3_; have HO216 := n4_; have HB := n5_; clear n0_ n1_ n2_ n3_ n4_ n5_; (try clear hb); (try clear hb2); (try clear hk); (try clear hi); (try clear ho0); (try clear ho1); (first | (have EHO216 := cmpV_no HO216.out (by with_reducible assumption)) | (have EHO216 := cmpV_yes HO216.out (by with_reducible assumption)) | skip)))
       (try simp only [Act.put, List.setIfInBounds_toArray, List.set_cons_zero, List.set_cons_succ])
       go_cut [81] (fun v81 wc => ∃ (kq : Nat) (x81_14 : Bool), v81 = .bool x81_14 ∧ Aside0 (furrowlaw3_EditPlain.j1 kq l0 l3 (Int.tmod (wrap64 (a1)) (wrap64 ((l0.length : Int) + 1))) (wrap64 ((Int.tmod (wrap64 (a1)) (wrap64 ((l0.length : Int) + 1))) + (Int.tmod (wrap64 (a2)) (wrap64 ((wrap64 ((l0.length : Int) - (Int.tmod (wrap64 (a1)) (wrap64 ((l0.length : Int) + 1))))) + 1))))) t205 x81_14 = some true) ∧ Aside0 (kq ≤ kj6) ∧ Aside0 (Kd.R Kd.string 9 wc w.heap.size (fun _ => True) v207 t205) ∧ Aside0 (Below w.heap.size w wc))
       case first =>
        have H := HC15.out
        clear HC15
        by_cases c21 : (t206.length : Int) = 0
        ·rw [if_pos c21] at H
         have c21b0 : ((t206.length : Int) == 0) = true := beq_iff_eq.mpr c21
         have c21b1 : ((t206.length : Int) != 0) = false := bne_eq_false_iff_eq.mpr c21
         clear c21
         (first | rw [c21b0] | (simp only [i64_w, i32_w]; rw [c21b0]) | skip)
         by_cases c22 : (t212.length : Int) = 0
         ·rw [if_pos c22] at H
          have c22b0 : ((t212.length : Int) == 0) = true := beq_iff_eq.mpr c22
          have c22b1 : ((t212.length : Int) != 0) = false := bne_eq_false_iff_eq.mpr c22
          clear c22
          by_cases c23 : (t205.length : Int) = (wrap64 ((wrap64 ((l0.length : Int) - (wrap64 ((wrap64 ((Int.tmod (wrap64 (a1)) (wrap64 ((l0.length : Int) + 1))) + (Int.tmod (wrap64 (a2)) (wrap64 ((wrap64 ((l0.length : Int) - (Int.tmod (wrap64 (a1)) (wrap64 ((l0.length : Int) + 1))))) + 1))))) - (Int.tmod (wrap64 (a1)) (wrap64 ((l0.length : Int) + 1))))))) + (l3.length : Int)))
          ·rw [if_pos c23] at H
           have c23b0 : ((t205.length : Int) == (wrap64 ((wrap64 ((l0.length : Int) - (wrap64 ((wrap64 ((Int.tmod (wrap64 (a1)) (wrap64 ((l0.length : Int) + 1))) + (Int.tmod (wrap64 (a2)) (wrap64 ((wrap64 ((l0.length : Int) - (Int.tmod (wrap64 (a1)) (wrap64 ((l0.length : Int) + 1))))) + 1))))) - (Int.tmod (wrap64 (a1)) (wrap64 ((l0.length : Int) + 1))))))) + (l3.length : Int)))) = true := beq_iff_eq.mpr c23
           have c23b1 : ((t205.length : Int) != (wrap64 ((wrap64 ((l0.length : Int) - (wrap64 ((wrap64 ((Int.tmod (wrap64 (a1)) (wrap64 ((l0.length : Int) + 1))) + (Int.tmod (wrap64 (a2)) (wrap64 ((wrap64 ((l0.length : Int) - (Int.tmod (wrap64 (a1)) (wrap64 ((l0.length : Int) + 1))))) + 1))))) - (Int.tmod (wrap64 (a1)) (wrap64 ((l0.length : Int) + 1))))))) + (l3.length : Int)))) = false := bne_eq_false_iff_eq.mpr c23
           clear c23
           replace H := Option.bind_eq_some_iff.mp H
           obtain ⟨t217, A240, H⟩ := H
           replace H : (furrowlaw3_EditPlain.j1 kj6 l0 l3 (Int.tmod (wrap64 (a1)) (wrap64 ((l0.length : Int) + 1))) (wrap64 ((Int.tmod (wrap64 (a1)) (wrap64 ((l0.length : Int) + 1))) + (Int.tmod (wrap64 (a2)) (wrap64 ((wrap64 ((l0.length : Int) - (Int.tmod (wrap64 (a1)) (wrap64 ((l0.length : Int) + 1))))) + 1))))) t205 (!t217)) = some true := H
           have A24 := mk0 A240
           clear A240
           have H' := mk0 H
           clear H
           (first | (have EHO210 := cmpV_no HO210.out (by with_reducible assumption)) | (have EHO210 := cmpV_yes HO210.out (by with_reducible assumption)) | skip)
           (first | (have EHO216 := cmpV_no HO216.out (by with_reducible assumption)) | (have EHO216 := cmpV_yes HO216.out (by with_reducible assumption)) | skip)
           obtain ⟨Ao25, co25, eo25⟩ := Kd.R_slice HO208.out
           subst eo25
           obtain ⟨Ao26, co26, eo26⟩ := Kd.R_slice HO214.out
           subst eo26
           go_wp2_with (first | (go_at_call 14; (with_reducible refine (furrowref4_SameLines.calls kj6 _ _ t211 _ _ l0 t217 _ ?side1 ?side2 ?side3 ?side4 A24.out).mono ?_); (case side1 => repeat (first | exact (Kd.R_reads' HO214.out).2.2 | (with_reducible refine Kd.C_alloc ?_ _) | (with_reducible refine Kd.C_drewN ?_ _) | (with_reducible refine Kd.C_drew ?_))); (case side2 => exact (Kd.R_reads' HO214.out).2.1); (case side3 => repeat (first | exact (Kd.C_below HR0.out HB.out) | (with_reducible refine Kd.C_alloc ?_ _) | (with_reducible refine Kd.C_drewN ?_ _) | (with_reducible refine Kd.C_drew ?_))); (case side4 => exact HC0.out); rintro e w' ⟨rfl, ⟨nd, rfl⟩⟩))
           go_meet
           case rel => exact ⟨_, (!t217), (by first | rfl | (simp; done) | (simp [*]; done) | (simp [bne_nil_, beq_nil_]; done)), H', ⟨by have := HJ6.out; first | omega | exact Nat.le_refl _⟩, ⟨uR (Kd.R_mono HO208.out (fun _ hk => trivial))⟩, ⟨uL HB.out⟩⟩
          ·rw [if_neg c23] at H
           have c23b0 : ((t205.length : Int) == (wrap64 ((wrap64 ((l0.length : Int) - (wrap64 ((wrap64 ((Int.tmod (wrap64 (a1)) (wrap64 ((l0.length : Int) + 1))) + (Int.tmod (wrap64 (a2)) (wrap64 ((wrap64 ((l0.length : Int) - (Int.tmod (wrap64 (a1)) (wrap64 ((l0.length : Int) + 1))))) + 1))))) - (Int.tmod (wrap64 (a1)) (wrap64 ((l0.length : Int) + 1))))))) + (l3.length : Int)))) = false := beq_eq_false_iff_ne.mpr c23
           have c23b1 : ((t205.length : Int) != (wrap64 ((wrap64 ((l0.length : Int) - (wrap64 ((wrap64 ((Int.tmod (wrap64 (a1)) (wrap64 ((l0.length : Int) + 1))) + (Int.tmod (wrap64 (a2)) (wrap64 ((wrap64 ((l0.length : Int) - (Int.tmod (wrap64 (a1)) (wrap64 ((l0.length : Int) + 1))))) + 1))))) - (Int.tmod (wrap64 (a1)) (wrap64 ((l0.length : Int) + 1))))))) + (l3.length : Int)))) = true := bne_iff_ne.mpr c23
           have H' := mk0 H
           clear H
           (first | (have EHO210 := cmpV_no HO210.out (by with_reducible assumption)) | (have EHO210 := cmpV_yes HO210.out (by with_reducible assumption)) | skip)
           (first | (have EHO216 := cmpV_no HO216.out (by with_reducible assumption)) | (have EHO216 := cmpV_yes HO216.out (by with_reducible assumption)) | skip)
           obtain ⟨Ao27, co27, eo27⟩ := Kd.R_slice HO208.out
           subst eo27
           go_wp2
           go_meet
           case rel => exact ⟨_, (true), (by first | rfl | (simp; done) | (simp [*]; done) | (simp [bne_nil_, beq_nil_]; done)), H', ⟨by have := HJ6.out; first | omega | exact Nat.le_refl _⟩, ⟨uR (Kd.R_mono HO208.out (fun _ hk => trivial))⟩, ⟨uL HB.out⟩⟩
         ·rw [if_neg c22] at H
          have c22b0 : ((t212.length : Int) == 0) = false := beq_eq_false_iff_ne.mpr c22
          have c22b1 : ((t212.length : Int) != 0) = true := bne_iff_ne.mpr c22
          have c22b2 : ¬ (t212 = []) := fun h_ => c22 (by rw [h_]; rfl)
          have H' := mk0 H
          clear H
          (first | (have EHO210 := cmpV_no HO210.out (by with_reducible assumption)) | (have EHO210 := cmpV_yes HO210.out (by with_reducible assumption)) | skip)
          (first | (have EHO216 := cmpV_no HO216.out (by with_reducible assumption)) | (have EHO216 := cmpV_yes HO216.out (by with_reducible assumption)) | skip)
          go_wp2
          go_meet
          case rel => exact ⟨_, (true), (by first | rfl | (simp; done) | (simp [*]; done) | (simp [bne_nil_, beq_nil_]; done)), H', ⟨by have := HJ6.out; first | omega | exact Nat.le_refl _⟩, ⟨uR (Kd.R_mono HO208.out (fun _ hk => trivial))⟩, ⟨uL HB.out⟩⟩
        ·rw [if_neg c21] at H
         have c21b0 : ((t206.length : Int) == 0) = false := beq_eq_false_iff_ne.mpr c21
         have c21b1 : ((t206.length : Int) != 0) = true := bne_iff_ne.mpr c21
         have c21b2 : ¬ (t206 = []) := fun h_ => c21 (by rw [h_]; rfl)
         (first | rw [c21b0] | (simp only [i64_w, i32_w]; rw [c21b0]) | skip)
         have H' := mk0 H
         clear H
         (first | (have EHO210 := cmpV_no HO210.out (by with_reducible assumption)) | (have EHO210 := cmpV_yes HO210.out (by with_reducible assumption)) | skip)
         (first | (have EHO216 := cmpV_no HO216.out (by with_reducible assumption)) | (have EHO216 := cmpV_yes HO216.out (by with_reducible assumption)) | skip)
         go_wp2
         go_meet
         case rel => exact ⟨_, (true), (by first | rfl | (simp; done) | (simp [*]; done) | (simp [bne_nil_, beq_nil_]; done)), H', ⟨by have := HJ6.out; first | omega | exact Nat.le_refl _⟩, ⟨uR (Kd.R_mono HO208.out (fun _ hk => trivial))⟩, ⟨uL HB.out⟩⟩
       case rest =>
        clear HC15
        try clear c1
        try clear c2
        try clear p2
        try clear c3
        try clear c5
        try clear c6
        try clear p6
        try clear c9
        try clear c9b0
        try clear c9b1
        try clear c10
        try clear c11
        try clear c11b0
        try clear c11b1
        try clear c12
        try clear c12b0
        try clear c12b1
        try clear c21
        try clear c21b0
        try clear c21b1
        try clear c21b2
        try clear c22
        try clear c22b0
        try clear c22b1
        try clear c22b2
        try clear c23
        try clear c23b0
        try clear c23b1
        try clear p2
        obtain ⟨kq, x81_14, rfl, HA, HJ14, HO_11, HB⟩ := hcut
        cases kq with
        | zero => exact absurd HA.out (by simp [furrowlaw3_EditPlain.j1])
        | succ kj14 =>
         have H := HA.out
         clear HA
         simp only [furrowlaw3_EditPlain.j1] at H
         by_cases c28 : x81_14 = true
         ·subst c28
          have H1 : (some false) = some true := by rw [if_pos rfl] at H; first | done | exact H
          clear H
          have H := H1
          clear H1
          exact absurd H (by simp)
         ·replace c28 := Bool.eq_false_iff.mpr c28
          subst c28
          have H1 : (if 0 ≤ (Int.tmod (wrap64 (a1)) (wrap64 ((l0.length : Int) + 1))) then (if (Int.tmod (wrap64 (a1)) (wrap64 ((l0.length : Int) + 1))) ≤ (t205.length : Int) then (if (Int.tmod (wrap64 (a1)) (wrap64 ((l0.length : Int) + 1))) ≤ (l0.length : Int) then ((furrowref4_SameLines.f kj14 (t205.take ((Int.tmod (wrap64 (a1)) (wrap64 ((l0.length : Int) + 1))) : Int).toNat) (l0.take ((Int.tmod (wrap64 (a1)) (wrap64 ((l0.length : Int) + 1))) : Int).toNat)).bind fun t223 => (if t223 = true then (if (Int.tmod (wrap64 (a1)) (wrap64 ((l0.length : Int) + 1))) ≤ (wrap64 ((Int.tmod (wrap64 (a1)) (wrap64 ((l0.length : Int) + 1))) + (l3.length : Int))) then (if (wrap64 ((Int.tmod (wrap64 (a1)) (wrap64 ((l0.length : Int) + 1))) + (l3.length : Int))) ≤ (t205.length : Int) then ((furrowref4_SameLines.f kj14 ((t205.take ((wrap64 ((Int.tmod (wrap64 (a1)) (wrap64 ((l0.length : Int) + 1))) + (l3.length : Int))) : Int).toNat).drop ((Int.tmod (wrap64 (a1)) (wrap64 ((l0.length : Int) + 1))) : Int).toNat) l3).bind fun t228 => (if t228 = true then (if 0 ≤ (wrap64 ((Int.tmod (wrap64 (a1)) (wrap64 ((l0.length : Int) + 1))) + (l3.length : Int))) then (if 0 ≤ (wrap64 ((Int.tmod (wrap64 (a1)) (wrap64 ((l0.length : Int) + 1))) + (Int.tmod (wrap64 (a2)) (wrap64 ((wrap64 ((l0.length : Int) - (Int.tmod (wrap64 (a1)) (wrap64 ((l0.length : Int) + 1))))) + 1))))) then (if (wrap64 ((Int.tmod (wrap64 (a1)) (wrap64 ((l0.length : Int) + 1))) + (Int.tmod (wrap64 (a2)) (wrap64 ((wrap64 ((l0.length : Int) - (Int.tmod (wrap64 (a1)) (wrap64 ((l0.length : Int) + 1))))) + 1))))) ≤ (l0.length : Int) then ((furrowref4_SameLines.f kj14 (t205.drop ((wrap64 ((Int.tmod (wrap64 (a1)) (wrap64 ((l0.length : Int) + 1))) + (l3.length : Int))) : Int).toNat) (l0.drop ((wrap64 ((Int.tmod (wrap64 (a1)) (wrap64 ((l0.length : Int) + 1))) + (Int.tmod (wrap64 (a2)) (wrap64 ((wrap64 ((l0.length : Int) - (Int.tmod (wrap64 (a1)) (wrap64 ((l0.length : Int) + 1))))) + 1))))) : Int).toNat)).bind fun t234 => (some t234)) else (none)) else (none)) else (none)) else (some false))) else (none)) else (none)) else (some false))) else (none)) else (none)) else (none)) = some true := by rw [if_neg (show ¬ (false = true) by decide)] at H; first | done | exact H
          clear H
          have H := H1
          clear H1
          obtain ⟨ji29, hji29⟩ : ∃ j_ : Int, (Int.tmod (wrap64 (a1)) (wrap64 ((l0.length : Int) + 1))) = j_ := ⟨_, rfl⟩
          replace H : (if 0 ≤ (ji29) then (if (ji29) ≤ (t205.length : Int) then (if (ji29) ≤ (l0.length : Int) then ((furrowref4_SameLines.f kj14 (t205.take ((ji29) : Int).toNat) (l0.take ((ji29) : Int).toNat)).bind fun t223 => (if t223 = true then (if (ji29) ≤ (wrap64 ((ji29) + (l3.length : Int))) then (if (wrap64 ((ji29) + (l3.length : Int))) ≤ (t205.length : Int) then ((furrowref4_SameLines.f kj14 ((t205.take ((wrap64 ((ji29) + (l3.length : Int))) : Int).toNat).drop ((ji29) : Int).toNat) l3).bind fun t228 => (if t228 = true then (if 0 ≤ (wrap64 ((ji29) + (l3.length : Int))) then (if 0 ≤ (wrap64 ((ji29) + (Int.tmod (wrap64 (a2)) (wrap64 ((wrap64 ((l0.length : Int) - (ji29))) + 1))))) then (if (wrap64 ((ji29) + (Int.tmod (wrap64 (a2)) (wrap64 ((wrap64 ((l0.length : Int) - (ji29))) + 1))))) ≤ (l0.length : Int) then ((furrowref4_SameLines.f kj14 (t205.drop ((wrap64 ((ji29) + (l3.length : Int))) : Int).toNat) (l0.drop ((wrap64 ((ji29) + (Int.tmod (wrap64 (a2)) (wrap64 ((wrap64 ((l0.length : Int) - (ji29))) + 1))))) : Int).toNat)).bind fun t234 => (some t234)) else (none)) else (none)) else (none)) else (some false))) else (none)) else (none)) else (some false))) else (none)) else (none)) else (none)) = some true := by first | (rw [hji29] at H; exact H) | (simp only [hji29] at H ⊢; exact H)
          (try rw [hji29] at c12b0)
          (try rw [hji29] at c12b1)
          by_cases c30 : 0 ≤ (ji29)
          ·rw [if_pos c30] at H
           have c30b0 := eq_true c30
           have c30b1 : decide (0 ≤ (ji29)) = true := decide_eq_true c30
           clear c30
           by_cases c31 : (ji29) ≤ (t205.length : Int)
           ·rw [if_pos c31] at H
            have c31b0 := eq_true c31
            have c31b1 : decide ((ji29) ≤ (t205.length : Int)) = true := decide_eq_true c31
            clear c31
            obtain ⟨y218, hy218⟩ : ∃ y_ : List ByteArray, y_ = (t205.take ((ji29) : Int).toNat) := ⟨_, rfl⟩
            replace H : (if (ji29) ≤ (l0.length : Int) then ((furrowref4_SameLines.f kj14 y218 (l0.take ((ji29) : Int).toNat)).bind fun t223 => (if t223 = true then (if (ji29) ≤ (wrap64 ((ji29) + (l3.length : Int))) then (if (wrap64 ((ji29) + (l3.length : Int))) ≤ (t205.length : Int) then ((furrowref4_SameLines.f kj14 ((t205.take ((wrap64 ((ji29) + (l3.length : Int))) : Int).toNat).drop ((ji29) : Int).toNat) l3).bind fun t228 => (if t228 = true then (if 0 ≤ (wrap64 ((ji29) + (l3.length : Int))) then (if 0 ≤ (wrap64 ((ji29) + (Int.tmod (wrap64 (a2)) (wrap64 ((wrap64 ((l0.length : Int) - (ji29))) + 1))))) then (if (wrap64 ((ji29) + (Int.tmod (wrap64 (a2)) (wrap64 ((wrap64 ((l0.length : Int) - (ji29))) + 1))))) ≤ (l0.length : Int) then ((furrowref4_SameLines.f kj14 (t205.drop ((wrap64 ((ji29) + (l3.length : Int))) : Int).toNat) (l0.drop ((wrap64 ((ji29) + (Int.tmod (wrap64 (a2)) (wrap64 ((wrap64 ((l0.length : Int) - (ji29))) + 1))))) : Int).toNat)).bind fun t234 => (some t234)) else (none)) else (none)) else (none)) else (some false))) else (none)) else (none)) else (some false))) else (none)) = some true := by first | (rw [hy218]; with_reducible exact H) | (have H2_ := (Option.bind_some _ _).symm.trans H; rw [hy218]; with_reducible exact H2_) | (have H2_ := (Option.bind_some _ _).symm.trans H; with_reducible exact H2_) | with_reducible exact H | (rw [hy218]; exact H) | exact H
            have Ny218 := mk0 hy218
            clear hy218
            have c32b0 := eq_true (of_decide_eq_true (by first | (with_reducible assumption) | assumption) : 0 ≤ (ji29))
            by_cases c33 : (ji29) ≤ (l0.length : Int)
            ·rw [if_pos c33] at H
             have c33b0 := eq_true c33
             have c33b1 : decide ((ji29) ≤ (l0.length : Int)) = true := decide_eq_true c33
             clear c33
             replace H := Option.bind_eq_some_iff.mp H
             obtain ⟨t223, A340, H⟩ := H
             replace H : (if t223 = true then (if (ji29) ≤ (wrap64 ((ji29) + (l3.length : Int))) then (if (wrap64 ((ji29) + (l3.length : Int))) ≤ (t205.length : Int) then ((furrowref4_SameLines.f kj14 ((t205.take ((wrap64 ((ji29) + (l3.length : Int))) : Int).toNat).drop ((ji29) : Int).toNat) l3).bind fun t228 => (if t228 = true then (if 0 ≤ (wrap64 ((ji29) + (l3.length : Int))) then (if 0 ≤ (wrap64 ((ji29) + (Int.tmod (wrap64 (a2)) (wrap64 ((wrap64 ((l0.length : Int) - (ji29))) + 1))))) then (if (wrap64 ((ji29) + (Int.tmod (wrap64 (a2)) (wrap64 ((wrap64 ((l0.length : Int) - (ji29))) + 1))))) ≤ (l0.length : Int) then ((furrowref4_SameLines.f kj14 (t205.drop ((wrap64 ((ji29) + (l3.length : Int))) : Int).toNat) (l0.drop ((wrap64 ((ji29) + (Int.tmod (wrap64 (a2)) (wrap64 ((wrap64 ((l0.length : Int) - (ji29))) + 1))))) : Int).toNat)).bind fun t234 => (some t234)) else (none)) else (none)) else (none)) else (some false))) else (none)) else (none)) else (some false)) = some true := H
             have A34 := mk0 A340
             clear A340
             by_cases c35 : t223 = true
             ·subst c35
              have H1 : (if (ji29) ≤ (wrap64 ((ji29) + (l3.length : Int))) then (if (wrap64 ((ji29) + (l3.length : Int))) ≤ (t205.length : Int) then ((furrowref4_SameLines.f kj14 ((t205.take ((wrap64 ((ji29) + (l3.length : Int))) : Int).toNat).drop ((ji29) : Int).toNat) l3).bind fun t228 => (if t228 = true then (if 0 ≤ (wrap64 ((ji29) + (l3.length : Int))) then (if 0 ≤ (wrap64 ((ji29) + (Int.tmod (wrap64 (a2)) (wrap64 ((wrap64 ((l0.length : Int) - (ji29))) + 1))))) then (if (wrap64 ((ji29) + (Int.tmod (wrap64 (a2)) (wrap64 ((wrap64 ((l0.length : Int) - (ji29))) + 1))))) ≤ (l0.length : Int) then ((furrowref4_SameLines.f kj14 (t205.drop ((wrap64 ((ji29) + (l3.length : Int))) : Int).toNat) (l0.drop ((wrap64 ((ji29) + (Int.tmod (wrap64 (a2)) (wrap64 ((wrap64 ((l0.length : Int) - (ji29))) + 1))))) : Int).toNat)).bind fun t234 => (some t234)) else (none)) else (none)) else (none)) else (some false))) else (none)) else (none)) = some true := by rw [if_pos rfl] at H; first | done | exact H
              clear H
              have H := H1
              clear H1
              have c36b0 := eq_true (of_decide_eq_true (by first | (with_reducible assumption) | assumption) : 0 ≤ (ji29))
              by_cases c37 : (ji29) ≤ (wrap64 ((ji29) + (l3.length : Int)))
              ·rw [if_pos c37] at H
               have c37b0 := eq_true c37
               have c37b1 : decide ((ji29) ≤ (wrap64 ((ji29) + (l3.length : Int)))) = true := decide_eq_true c37
               by_cases c38 : (wrap64 ((ji29) + (l3.length : Int))) ≤ (t205.length : Int)
               ·rw [if_pos c38] at H
                have c38b0 := eq_true c38
                have c38b1 : decide ((wrap64 ((ji29) + (l3.length : Int))) ≤ (t205.length : Int)) = true := decide_eq_true c38
                obtain ⟨y224, hy224⟩ : ∃ y_ : List ByteArray, y_ = ((t205.take ((wrap64 ((ji29) + (l3.length : Int))) : Int).toNat).drop ((ji29) : Int).toNat) := ⟨_, rfl⟩
                replace H : ((furrowref4_SameLines.f kj14 y224 l3).bind fun t228 => (if t228 = true then (if 0 ≤ (wrap64 ((ji29) + (l3.length : Int))) then (if 0 ≤ (wrap64 ((ji29) + (Int.tmod (wrap64 (a2)) (wrap64 ((wrap64 ((l0.length : Int) - (ji29))) + 1))))) then (if (wrap64 ((ji29) + (Int.tmod (wrap64 (a2)) (wrap64 ((wrap64 ((l0.length : Int) - (ji29))) + 1))))) ≤ (l0.length : Int) then ((furrowref4_SameLines.f kj14 (t205.drop ((wrap64 ((ji29) + (l3.length : Int))) : Int).toNat) (l0.drop ((wrap64 ((ji29) + (Int.tmod (wrap64 (a2)) (wrap64 ((wrap64 ((l0.length : Int) - (ji29))) + 1))))) : Int).toNat)).bind fun t234 => (some t234)) else (none)) else (none)) else (none)) else (some false))) = some true := by first | (rw [hy224]; with_reducible exact H) | (have H2_ := (Option.bind_some _ _).symm.trans H; rw [hy224]; with_reducible exact H2_) | (have H2_ := (Option.bind_some _ _).symm.trans H; with_reducible exact H2_) | with_reducible exact H | (rw [hy224]; exact H) | exact H
                have Ny224 := mk0 hy224
                clear hy224
                replace H := Option.bind_eq_some_iff.mp H
                obtain ⟨t228, A390, H⟩ := H
                replace H : (if t228 = true then (if 0 ≤ (wrap64 ((ji29) + (l3.length : Int))) then (if 0 ≤ (wrap64 ((ji29) + (Int.tmod (wrap64 (a2)) (wrap64 ((wrap64 ((l0.length : Int) - (ji29))) + 1))))) then (if (wrap64 ((ji29) + (Int.tmod (wrap64 (a2)) (wrap64 ((wrap64 ((l0.length : Int) - (ji29))) + 1))))) ≤ (l0.length : Int) then ((furrowref4_SameLines.f kj14 (t205.drop ((wrap64 ((ji29) + (l3.length : Int))) : Int).toNat) (l0.drop ((wrap64 ((ji29) + (Int.tmod (wrap64 (a2)) (wrap64 ((wrap64 ((l0.length : Int) - (ji29))) + 1))))) : Int).toNat)).bind fun t234 => (some t234)) else (none)) else (none)) else (none)) else (some false)) = some true := H
                have A39 := mk0 A390
                clear A390
                by_cases c40 : t228 = true
                ·subst c40
                 have H1 : (if 0 ≤ (wrap64 ((ji29) + (l3.length : Int))) then (if 0 ≤ (wrap64 ((ji29) + (Int.tmod (wrap64 (a2)) (wrap64 ((wrap64 ((l0.length : Int) - (ji29))) + 1))))) then (if (wrap64 ((ji29) + (Int.tmod (wrap64 (a2)) (wrap64 ((wrap64 ((l0.length : Int) - (ji29))) + 1))))) ≤ (l0.length : Int) then ((furrowref4_SameLines.f kj14 (t205.drop ((wrap64 ((ji29) + (l3.length : Int))) : Int).toNat) (l0.drop ((wrap64 ((ji29) + (Int.tmod (wrap64 (a2)) (wrap64 ((wrap64 ((l0.length : Int) - (ji29))) + 1))))) : Int).toNat)).bind fun t234 => (some t234)) else (none)) else (none)) else (none)) = some true := by rw [if_pos rfl] at H; first | done | exact H
                 clear H
                 have H := H1
                 clear H1
                 obtain ⟨ji41, hji41⟩ : ∃ j_ : Int, (wrap64 ((ji29) + (l3.length : Int))) = j_ := ⟨_, rfl⟩
                 replace H : (if 0 ≤ (ji41) then (if 0 ≤ (wrap64 ((ji29) + (Int.tmod (wrap64 (a2)) (wrap64 ((wrap64 ((l0.length : Int) - (ji29))) + 1))))) then (if (wrap64 ((ji29) + (Int.tmod (wrap64 (a2)) (wrap64 ((wrap64 ((l0.length : Int) - (ji29))) + 1))))) ≤ (l0.length : Int) then ((furrowref4_SameLines.f kj14 (t205.drop ((ji41) : Int).toNat) (l0.drop ((wrap64 ((ji29) + (Int.tmod (wrap64 (a2)) (wrap64 ((wrap64 ((l0.length : Int) - (ji29))) + 1))))) : Int).toNat)).bind fun t234 => (some t234)) else (none)) else (none)) else (none)) = some true := by first | (rw [hji41] at H; exact H) | (simp only [hji41] at H ⊢; exact H)
                 (try rw [hji41] at c37b0)
                 (try rw [hji41] at c37b1)
                 (try rw [hji41] at c37)
                 (try rw [hji41] at c38b0)
                 (try rw [hji41] at c38b1)
                 (try rw [hji41] at c38)
                 (try rw [hji41] at A34)
                 (try rw [hji41] at Ny224)
                 (try rw [hji41] at A39)
                 have hji41w : (IntKind.i64.wrap ((ji29) + (l3.length : Int))) = ji41 := (i64_w _).trans hji41
                 by_cases c42 : 0 ≤ (ji41)
                 ·rw [if_pos c42] at H
                  have c42b0 := eq_true c42
                  have c42b1 : decide (0 ≤ (ji41)) = true := decide_eq_true c42
                  clear c42
                  have c43b0 := eq_true (of_decide_eq_true (by first | (with_reducible assumption) | assumption) : (ji41) ≤ (t205.length : Int))
                  obtain ⟨y229, hy229⟩ : ∃ y_ : List ByteArray, y_ = (t205.drop ((ji41) : Int).toNat) := ⟨_, rfl⟩
                  replace H : (if 0 ≤ (wrap64 ((ji29) + (Int.tmod (wrap64 (a2)) (wrap64 ((wrap64 ((l0.length : Int) - (ji29))) + 1))))) then (if (wrap64 ((ji29) + (Int.tmod (wrap64 (a2)) (wrap64 ((wrap64 ((l0.length : Int) - (ji29))) + 1))))) ≤ (l0.length : Int) then ((furrowref4_SameLines.f kj14 y229 (l0.drop ((wrap64 ((ji29) + (Int.tmod (wrap64 (a2)) (wrap64 ((wrap64 ((l0.length : Int) - (ji29))) + 1))))) : Int).toNat)).bind fun t234 => (some t234)) else (none)) else (none)) = some true := by first | (rw [hy229]; with_reducible exact H) | (have H2_ := (Option.bind_some _ _).symm.trans H; rw [hy229]; with_reducible exact H2_) | (have H2_ := (Option.bind_some _ _).symm.trans H; with_reducible exact H2_) | with_reducible exact H | (rw [hy229]; exact H) | exact H
                  have Ny229 := mk0 hy229
                  clear hy229
                  obtain ⟨ji44, hji44⟩ : ∃ j_ : Int, (wrap64 ((ji29) + (Int.tmod (wrap64 (a2)) (wrap64 ((wrap64 ((l0.length : Int) - (ji29))) + 1))))) = j_ := ⟨_, rfl⟩
                  replace H : (if 0 ≤ (ji44) then (if (ji44) ≤ (l0.length : Int) then ((furrowref4_SameLines.f kj14 y229 (l0.drop ((ji44) : Int).toNat)).bind fun t234 => (some t234)) else (none)) else (none)) = some true := by first | (rw [hji44] at H; exact H) | (simp only [hji44] at H ⊢; exact H)
                  (try rw [hji44] at A34)
                  (try rw [hji44] at A39)
                  have hji44w : (IntKind.i64.wrap ((ji29) + (Int.tmod (wrap64 (a2)) (wrap64 ((wrap64 ((l0.length : Int) - (ji29))) + 1))))) = ji44 := (i64_w _).trans hji44
                  by_cases c45 : 0 ≤ (ji44)
                  ·rw [if_pos c45] at H
                   have c45b0 := eq_true c45
                   have c45b1 : decide (0 ≤ (ji44)) = true := decide_eq_true c45
                   clear c45
                   by_cases c46 : (ji44) ≤ (l0.length : Int)
                   ·rw [if_pos c46] at H
                    have c46b0 := eq_true c46
                    have c46b1 : decide ((ji44) ≤ (l0.length : Int)) = true := decide_eq_true c46
                    clear c46
                    replace H := Option.bind_eq_some_iff.mp H
                    obtain ⟨t234, A470, H⟩ := H
                    replace H : (some t234) = some true := H
                    have A47 := mk0 A470
                    clear A470
                    have HT := mk0 (Option.some.inj H)
                    clear H
                    try go_wp2
                    have n0_ := mk0 (Kd.R_drew HO_11.out)
                    have n1_ := mk0 (below_drew1 HB.out)
                    clear HO_11
                    clear HB
                    have HO_11 := n0_
                    have HB := n1_
                    clear n0_ n1_
                    obtain ⟨Ao50, co50, eo50⟩ := Kd.R_slice HO_11.out
                    (first | subst eo50 | (injection eo50 with f1_ f2_ f3_; have f4_ := f1_.symm; have f5_ := f3_.symm; clear f1_ f2_ f3_; subst f4_; subst f5_))
                    have q49 : ((ji29) : Int) ≤ ((t205.length : Int) : Int) := of_decide_eq_true (by first | (with_reducible assumption) | assumption)
                    obtain ⟨i049, hi049, _, hsz49, _⟩ := info_parts info9
                    have hroom49 : t205.length ≤ co50 := (Kd.R_reads' HO_11.out).2.1
                    have hC49 : Kd.C Kd.string _ Ao50 t205.length t205 := (Kd.R_reads' HO_11.out).2.2
                    have hcut49 := cut_to (P := Tryd.prog) 22 9 .i64 Tryd.underlying22 hi049 Ao50 t205.length co50 (ji29) (of_decide_eq_true (by first | (with_reducible assumption) | assumption)) q49 hroom49
                    have hr49 := Kd.C_take (m := ((ji29) : Int).toNat) hC49 (by omega)
                    have hy49 : y218.length = ((ji29) : Int).toNat := (by rw [Ny218.out, List.length_take]; omega)
                    rw [← Ny218.out] at hr49
                    rw [← hy49] at hcut49
                    have HR221 := mk0 hr49
                    have HC221 := mk0 (show y218.length ≤ co50 from by omega)
                    clear hr49 hC49 hroom49 hi049 hsz49
                    have KY49 := mk0 hy49
                    clear hy49
                    have KL49 := mk0 (show ((ji29) : Int).toNat ≤ t205.length from by omega)
                    replace q49 := eq_true q49
                    obtain ⟨i051, hi051, _, hsz51, _⟩ := info_parts info9
                    obtain ⟨hcut51, hA51, hC51⟩ := print_take_of (P := Tryd.prog) Value.string (⟨#[]⟩ : ByteArray) 22 9 .i64 Tryd.underlying22 hi051 hsz51 A0 c0 l0 (ji29) (of_decide_eq_true (by first | (with_reducible assumption) | assumption)) (of_decide_eq_true (by first | (with_reducible assumption) | assumption)) HC0.out
                    have HR222 := mk0 (Kd.C_of_reads (h1 := fun _ => rfl) (hA51 _ (Kd.reads_of_C HR0.out)))
                    have HC222 := mk0 hC51
                    clear hA51 hC51 hi051 hsz51
                    refine start_ (n := 31) (S := fun w' => True) (ds := []) #[false, false, false, false, false, false, false, false, false, false, false, false, false, false, false, false, false, false, false, false, false, false, false, false, false, false, false, false, false, false, false] (by kernel_rfl) rfl rfl trivial (fun hHeld => ?_); refine with_tabW furrowlaw3_EditPlain.tab11 furrowlaw3_EditPlain.bits11 (fun HT_ HW_ => ?_)
                    generalize wc.drew = w48 at HO_11 HB HR221 HR222 hHeld ⊢
                    refine pure_ (i := 0) (N := some 82) (v := ?_) (a' := ?_) #[true, false, false, false, false, false, false, false, false, false, false, false, false, false, false, false, false, false, false, false, false, false, false, false, false, false, false, false, false, false, false] rfl rfl (any_of HT_.out (by kernel_rfl)) (fun _ _ _ h => h) (Or.inl ⟨by rfl, ?_⟩) ?_ ?_
                    rotate_left
                    ·intro w'
                     go_simp
                     with_reducible rfl
                    rotate_left
                    ·simp only [Act.put, List.setIfInBounds_toArray, List.set_cons_zero, List.set_cons_succ, i64_w, i32_w]
                     rfl
                    refine pure_ (i := 1) (N := some 83) (v := ?_) (a' := ?_) #[true, true, false, false, false, false, false, false, false, false, false, false, false, false, false, false, false, false, false, false, false, false, false, false, false, false, false, false, false, false, false] rfl rfl (any_of HT_.out (by kernel_rfl)) (fun _ _ _ h => h) (Or.inl ⟨by rfl, ?_⟩) ?_ ?_
                    rotate_left
                    ·intro w'
                     go_simp
                     with_reducible rfl
                    rotate_left
                    ·simp only [Act.put, List.setIfInBounds_toArray, List.set_cons_zero, List.set_cons_succ, i64_w, i32_w]
                     rfl
                    refine pure_ (i := 2) (N := some 84) (v := ?_) (a' := ?_) #[true, true, true, false, false, false, false, false, false, false, false, false, false, false, false, false, false, false, false, false, false, false, false, false, false, false, false, false, false, false, false] rfl rfl (any_of HT_.out (by kernel_rfl)) (fun _ _ _ h => h) (Or.inl ⟨by rfl, ?_⟩) ?_ ?_
                    rotate_left
                    ·intro w'
                     go_simp
                     with_reducible rfl
                    rotate_left
                    ·simp only [Act.put, List.setIfInBounds_toArray, List.set_cons_zero, List.set_cons_succ, i64_w, i32_w]
                     rfl
                    refine pure_ (i := 3) (N := some 85) (v := ?_) (a' := ?_) #[true, true, true, true, false, false, false, false, false, false, false, false, false, false, false, false, false, false, false, false, false, false, false, false, false, false, false, false, false, false, false] rfl rfl (any_of HT_.out (by kernel_rfl)) (fun _ _ _ h => h) (Or.inl ⟨by rfl, ?_⟩) ?_ ?_
                    rotate_left
                    ·intro w'
                     go_simp
                     with_reducible rfl
                    rotate_left
                    ·simp only [Act.put, List.setIfInBounds_toArray, List.set_cons_zero, List.set_cons_succ, i64_w, i32_w]
                     rfl
                    refine pure_ (i := 4) (N := some 86) (v := ?_) (a' := ?_) #[true, true, true, true, true, false, false, false, false, false, false, false, false, false, false, false, false, false, false, false, false, false, false, false, false, false, false, false, false, false, false] rfl rfl (any_of HT_.out (by kernel_rfl)) (fun _ _ _ h => h) (Or.inl ⟨by rfl, ?_⟩) ?_ ?_
                    rotate_left
                    ·intro w'
                     go_simp
                     with_reducible rfl
                    rotate_left
                    ·simp only [Act.put, List.setIfInBounds_toArray, List.set_cons_zero, List.set_cons_succ, i64_w, i32_w]
                     rfl
                    refine pure_ (i := 5) (N := some 87) (v := ?_) (a' := ?_) #[true, true, true, true, true, true, false, false, false, false, false, false, false, false, false, false, false, false, false, false, false, false, false, false, false, false, false, false, false, false, false] rfl rfl (any_of HT_.out (by kernel_rfl)) (fun _ _ _ h => h) (Or.inl ⟨by rfl, ?_⟩) ?_ ?_
                    rotate_left
                    ·intro w'
                     go_simp
                     with_reducible rfl
                    rotate_left
                    ·simp only [Act.put, List.setIfInBounds_toArray, List.set_cons_zero, List.set_cons_succ, i64_w, i32_w]
                     rfl
                    refine one_ (i := 6) (N := some 88) #[true, true, true, true, true, true, true, false, false, false, false, false, false, false, false, false, false, false, false, false, false, false, false, false, false, false, false, false, false, false, false] rfl rfl (one_of HT_.out (by kernel_rfl)) (by decide) (fun K hK => ?_)
                    refine goes_ Tryd.func14 (by kernel_rfl) rfl #[.slice Ao50 y218.length co50, .slice A0 (l0.take ((ji29) : Int).toNat).length c0] (by rfl) rfl rfl (by (try simp only [List.map_toArray, List.map_cons, List.map_nil]); first | done | (rw [show (l0.take ((ji29) : Int).toNat).length = (ji29).toNat from (by rw [List.length_take]; have h_ : ((ji29) : Int) ≤ (l0.length : Int) := of_decide_eq_true (by first | (with_reducible assumption) | assumption); omega)] <;> rfl) | (simp only [hji29]; rfl) | rfl | (simp only [List.length_drop, List.length_take]; rfl)) ?_
                    with_reducible refine (furrowref4_SameLines.calls kj14 _ _ y218 _ _ (l0.take ((ji29) : Int).toNat) true _ ?side1 ?side2 ?side3 ?side4 A34.out).mono ?_
                    (case side1 => repeat (first | exact (by repeat (first | (with_reducible exact HR221.out) | (with_reducible refine Kd.C_alloc ?_ _) | (with_reducible refine Kd.C_drewN ?_ _) | (with_reducible refine Kd.C_drew ?_) | exact HR221.out)) | (with_reducible refine Kd.C_alloc ?_ _) | (with_reducible refine Kd.C_drewN ?_ _) | (with_reducible refine Kd.C_drew ?_)))
                    (case side2 => exact HC221.out)
                    (case side3 => repeat (first | exact (Kd.C_below HR222.out HB.out) | (with_reducible refine Kd.C_alloc ?_ _) | (with_reducible refine Kd.C_drewN ?_ _) | (with_reducible refine Kd.C_drew ?_)))
                    (case side4 => exact HC222.out)
                    rintro e w' ⟨rfl, ⟨nd, rfl⟩⟩
                    refine ⟨_, rfl, ?_⟩
                    have q52 : ((ji41) : Int) ≤ ((t205.length : Int) : Int) := of_decide_eq_true (by first | (with_reducible assumption) | assumption)
                    obtain ⟨i052, hi052, _, hsz52, _⟩ := info_parts info9
                    have hroom52 : t205.length ≤ co50 := (Kd.R_reads' HO_11.out).2.1
                    have hC52 : Kd.C Kd.string _ Ao50 t205.length t205 := (Kd.R_reads' HO_11.out).2.2
                    have ql52 : ((ji29) : Int) ≤ ((ji41) : Int) := of_decide_eq_true (by first | (with_reducible assumption) | assumption)
                    have q052 : (0 : Int) ≤ ((ji29) : Int) := of_decide_eq_true (by first | (with_reducible assumption) | assumption)
                    have hcut52 := cut_mid (P := Tryd.prog) 22 9 .i64 .i64 Tryd.underlying22 hi052 1 hsz52 Ao50 t205.length co50 (ji29) (ji41) q052 ql52 q52 hroom52
                    have hr52 := Kd.C_mid (lo := ((ji29) : Int).toNat) (hi := ((ji41) : Int).toNat) (c := co50) hC52 (by omega) (by omega) hroom52
                    obtain ⟨A52, hA52⟩ : ∃ A1, A1 = (if co50 = ((ji29) : Int).toNat then Ao50 else (Ao50 : Option Addr).map (·.add (((ji29) : Int).toNat * 1))) := ⟨_, rfl⟩
                    obtain ⟨c52, hc52⟩ : ∃ c1, c1 = co50 - ((ji29) : Int).toNat := ⟨_, rfl⟩
                    have hy52 : y224.length = ((ji41) : Int).toNat - ((ji29) : Int).toNat := (by rw [Ny224.out, List.length_drop, List.length_take] <;> omega)
                    rw [show ((t205).take ((ji41) : Int).toNat).drop ((ji29) : Int).toNat = y224 from Ny224.out.symm] at hr52
                    replace hr52 : Kd.C Kd.string _ A52 y224.length y224 := (by rw [hA52]; exact hr52)
                    rw [← hy52, ← hA52, ← hc52] at hcut52
                    have HR227 := mk0 hr52
                    have HC227 := mk0 (show y224.length ≤ c52 from by rw [hy52, hc52]; exact Nat.sub_le_sub_right (Nat.le_trans (by omega) hroom52) _)
                    clear hr52 hC52 hroom52 hi052 hsz52 hc52
                    have KY52 := mk0 hy52
                    have KA52 := mk0 hA52
                    clear hy52 hA52
                    have KL52 := mk0 (show ((ji41) : Int).toNat ≤ t205.length from by omega)
                    have KM52 := mk0 (show ((ji29) : Int).toNat ≤ ((ji41) : Int).toNat from by omega)
                    replace q52 := eq_true q52
                    refine hK.out _ _ trivial (fun hHeld => ?_)
                    clear hK K
                    refine norm_ (a' := ?_) ?_ ?_
                    rotate_left
                    ·show Act.put _ (some 88) _ = _
                     simp only [Act.put, List.setIfInBounds_toArray, List.set_cons_zero, List.set_cons_succ, i64_w, i32_w]
                     rfl
                    refine pure_ (i := 7) (N := some 89) (v := ?_) (a' := ?_) #[true, true, true, true, true, true, true, true, false, false, false, false, false, false, false, false, false, false, false, false, false, false, false, false, false, false, false, false, false, false, false] rfl rfl (any_of HT_.out (by kernel_rfl)) (fun _ _ _ h => h) (Or.inl ⟨by rfl, ?_⟩) ?_ ?_
                    rotate_left
                    ·intro w'
                     go_simp
                     with_reducible rfl
                    rotate_left
                    ·simp only [Act.put, List.setIfInBounds_toArray, List.set_cons_zero, List.set_cons_succ, i64_w, i32_w]
                     rfl
                    refine pure_ (i := 8) (N := some 90) (v := ?_) (a' := ?_) #[true, true, true, true, true, true, true, true, true, false, false, false, false, false, false, false, false, false, false, false, false, false, false, false, false, false, false, false, false, false, false] rfl rfl (any_of HT_.out (by kernel_rfl)) (fun _ _ _ h => h) (Or.inl ⟨by rfl, ?_⟩) ?_ ?_
                    rotate_left
                    ·intro w'
                     go_simp
                     with_reducible rfl
                    rotate_left
                    ·simp only [Act.put, List.setIfInBounds_toArray, List.set_cons_zero, List.set_cons_succ, i64_w, i32_w]
                     rfl
                    refine pure_ (i := 9) (N := some 91) (v := ?_) (a' := ?_) #[true, true, true, true, true, true, true, true, true, true, false, false, false, false, false, false, false, false, false, false, false, false, false, false, false, false, false, false, false, false, false] rfl rfl (any_of HT_.out (by kernel_rfl)) (fun _ _ _ h => h) (Or.inl ⟨by rfl, ?_⟩) ?_ ?_
                    rotate_left
                    ·intro w'
                     go_simp
                     with_reducible rfl
                    rotate_left
                    ·simp only [Act.put, List.setIfInBounds_toArray, List.set_cons_zero, List.set_cons_succ, i64_w, i32_w]
                     rfl
                    refine pure_ (i := 10) (N := some 92) (v := ?_) (a' := ?_) #[true, true, true, true, true, true, true, true, true, true, true, false, false, false, false, false, false, false, false, false, false, false, false, false, false, false, false, false, false, false, false] rfl rfl (any_of HT_.out (by kernel_rfl)) (fun _ _ _ h => h) (Or.inl ⟨by rfl, ?_⟩) ?_ ?_
                    rotate_left
                    ·intro w'
                     go_simp
                     with_reducible rfl
                    rotate_left
                    ·simp only [Act.put, List.setIfInBounds_toArray, List.set_cons_zero, List.set_cons_succ, i64_w, i32_w]
                     rfl
                    refine pure_ (i := 11) (N := some 93) (v := ?_) (a' := ?_) #[true, true, true, true, true, true, true, true, true, true, true, true, false, false, false, false, false, false, false, false, false, false, false, false, false, false, false, false, false, false, false] rfl rfl (any_of HT_.out (by kernel_rfl)) (fun _ _ _ h => h) (Or.inl ⟨by rfl, ?_⟩) ?_ ?_
                    rotate_left
                    ·intro w'
                     go_simp
                     with_reducible rfl
                    rotate_left
                    ·simp only [Act.put, List.setIfInBounds_toArray, List.set_cons_zero, List.set_cons_succ, i64_w, i32_w]
                     rfl
                    refine pure_ (i := 12) (N := some 94) (v := ?_) (a' := ?_) #[true, true, true, true, true, true, true, true, true, true, true, true, true, false, false, false, false, false, false, false, false, false, false, false, false, false, false, false, false, false, false] rfl rfl (any_of HT_.out (by kernel_rfl)) (fun _ _ _ h => h) (Or.inl ⟨by rfl, ?_⟩) ?_ ?_
                    rotate_left
                    ·intro w'
                     go_simp
                     with_reducible rfl
                    rotate_left
                    ·simp only [Act.put, List.setIfInBounds_toArray, List.set_cons_zero, List.set_cons_succ, i64_w, i32_w]
                     rfl
                    refine pure_ (i := 13) (N := some 95) (v := ?_) (a' := ?_) #[true, true, true, true, true, true, true, true, true, true, true, true, true, true, false, false, false, false, false, false, false, false, false, false, false, false, false, false, false, false, false] rfl rfl (any_of HT_.out (by kernel_rfl)) (fun _ _ _ h => h) (Or.inl ⟨by rfl, ?_⟩) ?_ ?_
                    rotate_left
                    ·intro w'
                     go_simp
                     with_reducible rfl
                    rotate_left
                    ·simp only [Act.put, List.setIfInBounds_toArray, List.set_cons_zero, List.set_cons_succ, i64_w, i32_w]
                     rfl
                    refine pure_ (i := 14) (N := some 96) (v := ?_) (a' := ?_) #[true, true, true, true, true, true, true, true, true, true, true, true, true, true, true, false, false, false, false, false, false, false, false, false, false, false, false, false, false, false, false] rfl rfl (any_of HT_.out (by kernel_rfl)) (fun _ _ _ h => h) (Or.inl ⟨by rfl, ?_⟩) ?_ ?_
                    rotate_left
                    ·intro w'
                     go_simp
                     with_reducible rfl
                    rotate_left
                    ·simp only [Act.put, List.setIfInBounds_toArray, List.set_cons_zero, List.set_cons_succ, i64_w, i32_w]
                     rfl
                    refine pure_ (i := 15) (N := some 97) (v := ?_) (a' := ?_) #[true, true, true, true, true, true, true, true, true, true, true, true, true, true, true, true, false, false, false, false, false, false, false, false, false, false, false, false, false, false, false] rfl rfl (any_of HT_.out (by kernel_rfl)) (fun _ _ _ h => h) (Or.inl ⟨by rfl, ?_⟩) ?_ ?_
                    rotate_left
                    ·intro w'
                     go_simp
                     with_reducible rfl
                    rotate_left
                    ·simp only [Act.put, List.setIfInBounds_toArray, List.set_cons_zero, List.set_cons_succ, i64_w, i32_w]
                     rfl
                    refine one_ (i := 16) (N := some 98) #[true, true, true, true, true, true, true, true, true, true, true, true, true, true, true, true, true, false, false, false, false, false, false, false, false, false, false, false, false, false, false] rfl rfl (one_of HT_.out (by kernel_rfl)) (by decide) (fun K hK => ?_)
                    refine goes_ Tryd.func14 (by kernel_rfl) rfl #[.slice A52 y224.length c52, .slice A3 l3.length c3] (by rfl) rfl rfl (by (try simp only [List.map_toArray, List.map_cons, List.map_nil]); first | done | rfl | (simp only [List.length_drop, List.length_take]; rfl)) ?_
                    with_reducible refine (furrowref4_SameLines.calls kj14 _ _ y224 _ _ l3 true _ ?side1 ?side2 ?side3 ?side4 A39.out).mono ?_
                    (case side1 => repeat (first | exact (by repeat (first | (with_reducible exact HR227.out) | (with_reducible refine Kd.C_alloc ?_ _) | (with_reducible refine Kd.C_drewN ?_ _) | (with_reducible refine Kd.C_drew ?_) | exact HR227.out)) | (with_reducible refine Kd.C_alloc ?_ _) | (with_reducible refine Kd.C_drewN ?_ _) | (with_reducible refine Kd.C_drew ?_)))
                    (case side2 => exact HC227.out)
                    (case side3 => repeat (first | exact (Kd.C_below HR3.out (uL HB.out)) | (with_reducible refine Kd.C_alloc ?_ _) | (with_reducible refine Kd.C_drewN ?_ _) | (with_reducible refine Kd.C_drew ?_)))
                    (case side4 => exact HC3.out)
                    rintro e w' ⟨rfl, ⟨nd, rfl⟩⟩
                    refine ⟨_, rfl, ?_⟩
                    have q53 : ((ji41) : Int) ≤ ((t205.length : Int) : Int) := of_decide_eq_true (by first | (with_reducible assumption) | assumption)
                    obtain ⟨i053, hi053, _, hsz53, _⟩ := info_parts info9
                    have hroom53 : t205.length ≤ co50 := (Kd.R_reads' HO_11.out).2.1
                    have hC53 : Kd.C Kd.string _ Ao50 t205.length t205 := (Kd.R_reads' HO_11.out).2.2
                    have q053 : (0 : Int) ≤ ((ji41) : Int) := of_decide_eq_true (by first | (with_reducible assumption) | assumption)
                    have hcut53 := cut_from (P := Tryd.prog) 22 9 .i64 Tryd.underlying22 hi053 1 hsz53 Ao50 t205.length co50 (ji41) q053 q53
                    have hr53 := Kd.C_drop (m := ((ji41) : Int).toNat) (c := co50) hC53 (by omega) hroom53
                    obtain ⟨A53, hA53⟩ : ∃ A1, A1 = (if co50 = ((ji41) : Int).toNat then Ao50 else (Ao50 : Option Addr).map (·.add (((ji41) : Int).toNat * 1))) := ⟨_, rfl⟩
                    obtain ⟨c53, hc53⟩ : ∃ c1, c1 = co50 - ((ji41) : Int).toNat := ⟨_, rfl⟩
                    have hy53 : y229.length = t205.length - ((ji41) : Int).toNat := (by rw [Ny229.out, List.length_drop] <;> omega)
                    rw [show (t205).drop ((ji41) : Int).toNat = y229 from Ny229.out.symm] at hr53
                    replace hr53 : Kd.C Kd.string _ A53 y229.length y229 := (by rw [hA53]; exact hr53)
                    rw [← hy53, ← hA53, ← hc53] at hcut53
                    have HR232 := mk0 hr53
                    have HC232 := mk0 (show y229.length ≤ c53 from by rw [hy53, hc53]; exact Nat.sub_le_sub_right hroom53 _)
                    clear hr53 hC53 hroom53 hi053 hsz53 hc53
                    have KY53 := mk0 hy53
                    have KA53 := mk0 hA53
                    clear hy53 hA53
                    have KL53 := mk0 (show ((ji41) : Int).toNat ≤ t205.length from by omega)
                    replace q53 := eq_true q53
                    obtain ⟨i054, hi054, _, hsz54, _⟩ := info_parts info9
                    obtain ⟨A54, hcut54, hA54, hC54⟩ := print_drop_of (P := Tryd.prog) Value.string (⟨#[]⟩ : ByteArray) 22 9 .i64 Tryd.underlying22 hi054 hsz54 A0 c0 l0 (ji44) (of_decide_eq_true (by first | (with_reducible assumption) | assumption)) (of_decide_eq_true (by first | (with_reducible assumption) | assumption)) HC0.out
                    have HR233 := mk0 (Kd.C_of_reads (h1 := fun _ => rfl) (hA54 _ (Kd.reads_of_C HR0.out)))
                    have HC233 := mk0 hC54
                    clear hA54 hC54 hi054 hsz54
                    refine hK.out _ _ trivial (fun hHeld => ?_)
                    clear hK K
                    refine norm_ (a' := ?_) ?_ ?_
                    rotate_left
                    ·show Act.put _ (some 98) _ = _
                     simp only [Act.put, List.setIfInBounds_toArray, List.set_cons_zero, List.set_cons_succ, i64_w, i32_w]
                     rfl
                    refine pure_ (i := 17) (N := some 99) (v := ?_) (a' := ?_) #[true, true, true, true, true, true, true, true, true, true, true, true, true, true, true, true, true, true, false, false, false, false, false, false, false, false, false, false, false, false, false] rfl rfl (any_of HT_.out (by kernel_rfl)) (fun _ _ _ h => h) (Or.inl ⟨by rfl, ?_⟩) ?_ ?_
                    rotate_left
                    ·intro w'
                     go_simp
                     with_reducible rfl
                    rotate_left
                    ·simp only [Act.put, List.setIfInBounds_toArray, List.set_cons_zero, List.set_cons_succ, i64_w, i32_w]
                     rfl
                    refine pure_ (i := 18) (N := some 100) (v := ?_) (a' := ?_) #[true, true, true, true, true, true, true, true, true, true, true, true, true, true, true, true, true, true, true, false, false, false, false, false, false, false, false, false, false, false, false] rfl rfl (any_of HT_.out (by kernel_rfl)) (fun _ _ _ h => h) (Or.inl ⟨by rfl, ?_⟩) ?_ ?_
                    rotate_left
                    ·intro w'
                     go_simp
                     with_reducible rfl
                    rotate_left
                    ·simp only [Act.put, List.setIfInBounds_toArray, List.set_cons_zero, List.set_cons_succ, i64_w, i32_w]
                     rfl
                    refine pure_ (i := 19) (N := some 101) (v := ?_) (a' := ?_) #[true, true, true, true, true, true, true, true, true, true, true, true, true, true, true, true, true, true, true, true, false, false, false, false, false, false, false, false, false, false, false] rfl rfl (any_of HT_.out (by kernel_rfl)) (fun _ _ _ h => h) (Or.inl ⟨by rfl, ?_⟩) ?_ ?_
                    rotate_left
                    ·intro w'
                     go_simp
                     with_reducible rfl
                    rotate_left
                    ·simp only [Act.put, List.setIfInBounds_toArray, List.set_cons_zero, List.set_cons_succ, i64_w, i32_w]
                     rfl
                    refine pure_ (i := 20) (N := some 102) (v := ?_) (a' := ?_) #[true, true, true, true, true, true, true, true, true, true, true, true, true, true, true, true, true, true, true, true, true, false, false, false, false, false, false, false, false, false, false] rfl rfl (any_of HT_.out (by kernel_rfl)) (fun _ _ _ h => h) (Or.inl ⟨by rfl, ?_⟩) ?_ ?_
                    rotate_left
                    ·intro w'
                     go_simp
                     with_reducible rfl
                    rotate_left
                    ·simp only [Act.put, List.setIfInBounds_toArray, List.set_cons_zero, List.set_cons_succ, i64_w, i32_w]
                     rfl
                    refine pure_ (i := 21) (N := some 103) (v := ?_) (a' := ?_) #[true, true, true, true, true, true, true, true, true, true, true, true, true, true, true, true, true, true, true, true, true, true, false, false, false, false, false, false, false, false, false] rfl rfl (any_of HT_.out (by kernel_rfl)) (fun _ _ _ h => h) (Or.inl ⟨by rfl, ?_⟩) ?_ ?_
                    rotate_left
                    ·intro w'
                     go_simp
                     with_reducible rfl
                    rotate_left
                    ·simp only [Act.put, List.setIfInBounds_toArray, List.set_cons_zero, List.set_cons_succ, i64_w, i32_w]
                     rfl
                    refine pure_ (i := 22) (N := some 104) (v := ?_) (a' := ?_) #[true, true, true, true, true, true, true, true, true, true, true, true, true, true, true, true, true, true, true, true, true, true, true, false, false, false, false, false, false, false, false] rfl rfl (any_of HT_.out (by kernel_rfl)) (fun _ _ _ h => h) (Or.inl ⟨by rfl, ?_⟩) ?_ ?_
                    rotate_left
                    ·intro w'
                     go_simp
                     with_reducible rfl
                    rotate_left
                    ·simp only [Act.put, List.setIfInBounds_toArray, List.set_cons_zero, List.set_cons_succ, i64_w, i32_w]
                     rfl
                    refine pure_ (i := 23) (N := some 105) (v := ?_) (a' := ?_) #[true, true, true, true, true, true, true, true, true, true, true, true, true, true, true, true, true, true, true, true, true, true, true, true, false, false, false, false, false, false, false] rfl rfl (any_of HT_.out (by kernel_rfl)) (fun _ _ _ h => h) (Or.inl ⟨by rfl, ?_⟩) ?_ ?_
                    rotate_left
                    ·intro w'
                     go_simp
                     with_reducible rfl
                    rotate_left
                    ·simp only [Act.put, List.setIfInBounds_toArray, List.set_cons_zero, List.set_cons_succ, i64_w, i32_w]
                     rfl
                    refine pure_ (i := 24) (N := some 106) (v := ?_) (a' := ?_) #[true, true, true, true, true, true, true, true, true, true, true, true, true, true, true, true, true, true, true, true, true, true, true, true, true, false, false, false, false, false, false] rfl rfl (any_of HT_.out (by kernel_rfl)) (fun _ _ _ h => h) (Or.inl ⟨by rfl, ?_⟩) ?_ ?_
                    rotate_left
                    ·intro w'
                     go_simp
                     with_reducible rfl
                    rotate_left
                    ·simp only [Act.put, List.setIfInBounds_toArray, List.set_cons_zero, List.set_cons_succ, i64_w, i32_w]
                     rfl
                    refine pure_ (i := 25) (N := some 107) (v := ?_) (a' := ?_) #[true, true, true, true, true, true, true, true, true, true, true, true, true, true, true, true, true, true, true, true, true, true, true, true, true, true, false, false, false, false, false] rfl rfl (any_of HT_.out (by kernel_rfl)) (fun _ _ _ h => h) (Or.inl ⟨by rfl, ?_⟩) ?_ ?_
                    rotate_left
                    ·intro w'
                     go_simp
                     with_reducible rfl
                    rotate_left
                    ·simp only [Act.put, List.setIfInBounds_toArray, List.set_cons_zero, List.set_cons_succ, i64_w, i32_w]
                     rfl
                    refine pure_ (i := 26) (N := some 108) (v := ?_) (a' := ?_) #[true, true, true, true, true, true, true, true, true, true, true, true, true, true, true, true, true, true, true, true, true, true, true, true, true, true, true, false, false, false, false] rfl rfl (any_of HT_.out (by kernel_rfl)) (fun _ _ _ h => h) (Or.inl ⟨by rfl, ?_⟩) ?_ ?_
                    rotate_left
                    ·intro w'
                     go_simp
                     with_reducible rfl
                    rotate_left
                    ·simp only [Act.put, List.setIfInBounds_toArray, List.set_cons_zero, List.set_cons_succ, i64_w, i32_w]
                     rfl
                    refine pure_ (i := 27) (N := some 109) (v := ?_) (a' := ?_) #[true, true, true, true, true, true, true, true, true, true, true, true, true, true, true, true, true, true, true, true, true, true, true, true, true, true, true, true, false, false, false] rfl rfl (any_of HT_.out (by kernel_rfl)) (fun _ _ _ h => h) (Or.inl ⟨by rfl, ?_⟩) ?_ ?_
                    rotate_left
                    ·intro w'
                     go_simp
                     with_reducible rfl
                    rotate_left
                    ·simp only [Act.put, List.setIfInBounds_toArray, List.set_cons_zero, List.set_cons_succ, i64_w, i32_w]
                     rfl
                    refine one_ (i := 28) (N := some 110) #[true, true, true, true, true, true, true, true, true, true, true, true, true, true, true, true, true, true, true, true, true, true, true, true, true, true, true, true, true, false, false] rfl rfl (one_of HT_.out (by kernel_rfl)) (by decide) (fun K hK => ?_)
                    refine goes_ Tryd.func14 (by kernel_rfl) rfl #[.slice A53 y229.length c53, .slice A54 (l0.drop ((ji44) : Int).toNat).length (c0 - (ji44).toNat)] (by rfl) rfl rfl (by (try simp only [List.map_toArray, List.map_cons, List.map_nil]); first | done | (rw [show (l0.drop ((ji44) : Int).toNat).length = (l0.length - (ji44).toNat) from List.length_drop] <;> rfl) | (simp only [hji44]; rfl) | rfl | (simp only [List.length_drop, List.length_take]; rfl)) ?_
                    with_reducible refine (furrowref4_SameLines.calls kj14 _ _ y229 _ _ (l0.drop ((ji44) : Int).toNat) t234 _ ?side1 ?side2 ?side3 ?side4 A47.out).mono ?_
                    (case side1 => repeat (first | exact (by repeat (first | (with_reducible exact HR232.out) | (with_reducible refine Kd.C_alloc ?_ _) | (with_reducible refine Kd.C_drewN ?_ _) | (with_reducible refine Kd.C_drew ?_) | exact HR232.out)) | (with_reducible refine Kd.C_alloc ?_ _) | (with_reducible refine Kd.C_drewN ?_ _) | (with_reducible refine Kd.C_drew ?_)))
                    (case side2 => exact HC232.out)
                    (case side3 => repeat (first | exact (Kd.C_below HR233.out (uL HB.out)) | (with_reducible refine Kd.C_alloc ?_ _) | (with_reducible refine Kd.C_drewN ?_ _) | (with_reducible refine Kd.C_drew ?_)))
                    (case side4 => exact HC233.out)
                    rintro e w' ⟨rfl, ⟨nd, rfl⟩⟩
                    refine ⟨_, rfl, ?_⟩
                    refine hK.out _ _ trivial (fun hHeld => ?_)
                    clear hK K
                    refine norm_ (a' := ?_) ?_ ?_
                    rotate_left
                    ·show Act.put _ (some 110) _ = _
                     simp only [Act.put, List.setIfInBounds_toArray, List.set_cons_zero, List.set_cons_succ, i64_w, i32_w]
                     rfl
                    refine pure_ (i := 29) (N := some 111) (v := ?_) (a' := ?_) #[true, true, true, true, true, true, true, true, true, true, true, true, true, true, true, true, true, true, true, true, true, true, true, true, true, true, true, true, true, true, false] rfl rfl (any_of HT_.out (by kernel_rfl)) (fun _ _ _ h => h) (Or.inl ⟨by rfl, ?_⟩) ?_ ?_
                    rotate_left
                    ·intro w'
                     go_simp
                     with_reducible rfl
                    rotate_left
                    ·simp only [Act.put, List.setIfInBounds_toArray, List.set_cons_zero, List.set_cons_succ, i64_w, i32_w]
                     rfl
                    refine pure_ (i := 30) (N := some 8) (v := ?_) (a' := ?_) #[true, true, true, true, true, true, true, true, true, true, true, true, true, true, true, true, true, true, true, true, true, true, true, true, true, true, true, true, true, true, true] rfl rfl (any_of HT_.out (by kernel_rfl)) (fun _ _ _ h => h) (Or.inl ⟨by rfl, ?_⟩) ?_ ?_
                    rotate_left
                    ·intro w'
                     go_simp
                     with_reducible rfl
                    rotate_left
                    ·simp only [Act.put, List.setIfInBounds_toArray, List.set_cons_zero, List.set_cons_succ, i64_w, i32_w]
                     rfl
                    refine done_ (done_of HT_.out (by kernel_rfl)) ?_
                    try go_wp2
                    go_ret
                    exact ⟨by first | rfl | (simp [errW_none, errW_some] <;> rfl) | (simp only [← hji29, ← hji41, ← hji44]; first | rfl | (simp [errW_none, errW_some] <;> rfl)) | (exact congrArg (fun b_ => Ending.returned (Value.bool b_)) HT.out) | (rw [show _ = _ from HT.out]) | (simp [HT.out]; done) | (simp [show _ = _ from HT.out]; done) | (simp [*, errW_none, errW_some] <;> rfl), uL HB.out⟩
                   ·rw [if_neg c46] at H
                    exact absurd H (by simp)
                  ·rw [if_neg c45] at H
                   exact absurd H (by simp)
                 ·rw [if_neg c42] at H
                  exact absurd H (by simp)
                ·replace c40 := Bool.eq_false_iff.mpr c40
                 subst c40
                 have H1 : (some false) = some true := by rw [if_neg (show ¬ (false = true) by decide)] at H; first | done | exact H
                 clear H
                 have H := H1
                 clear H1
                 exact absurd H (by simp)
               ·rw [if_neg c38] at H
                exact absurd H (by simp)
              ·rw [if_neg c37] at H
               exact absurd H (by simp)
             ·replace c35 := Bool.eq_false_iff.mpr c35
              subst c35
              have H1 : (some false) = some true := by rw [if_neg (show ¬ (false = true) by decide)] at H; first | done | exact H
              clear H
              have H := H1
              clear H1
              exact absurd H (by simp)
            ·rw [if_neg c33] at H
             exact absurd H (by simp)
           ·rw [if_neg c31] at H
            exact absurd H (by simp)
          ·rw [if_neg c30] at H
           exact absurd H (by simp)
 ·replace c6 := Bool.eq_false_iff.mpr c6
  subst c6
  have H1 : (some false) = some true := by rw [if_neg (show ¬ (false = true) by decide)] at H; first | done | exact H
  clear H
  have H := H1
  clear H1
  exact absurd H (by simp)

end Go.Proofs.YteeeoblpfepepaaDoor.X
