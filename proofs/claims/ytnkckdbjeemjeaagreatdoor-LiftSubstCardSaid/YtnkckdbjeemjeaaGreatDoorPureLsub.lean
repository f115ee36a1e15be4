/- Another tree in place of a name: alike on both sides. -/
import Derived.Test.YtnkckdbjeemjeaaGreatDoorPureEv1
import Derived.Test.YtnkckdbjeemjeaaGreatDoorXx2
import Derived.Test.YtnkckdbjeemjeaaGreatDoorXx14
import Derived.Laws.Bits64
namespace Go.Proofs.YtnkckdbjeemjeaaGreatDoor.Pure
open Go.RowKit Go.Proofs.YtnkckdbjeemjeaaGreatDoor.X Go.Proofs.YtnkckdbjeemjeaaGreatDoor.Flt Go.Proofs.YtnkckdbjeemjeaaGreatDoor.H Go.Proofs.YtnkckdbjeemjeaaGreatDoorW.PrintWords Go.Proofs.YtnkckdbjeemjeaaGreatDoorW.PrintLast Go.Proofs.YtnkckdbjeemjeaaGreatDoorW.PrintMore
set_option linter.unusedVariables false
set_option linter.unusedSimpArgs false
/-! another tree in place of a name: alike on both sides -/
theorem take_next {α : Type} {l : List α} {d : α} {i : Nat} (h : i < l.length) : l.take i ++ [l.getD i d] = l.take (i + 1) := by
  rw [List.take_succ_eq_append_getElem h, List.getD_eq_getElem?_getD, List.getElem?_eq_getElem h]; rfl
theorem of_rel {x : S24} {y : S30} (h : Rel x y) : Says (fun k => furrowlaw5_Of.f k x.f0 x.f1 x.f2 x.f3) (y.f0, y.f1, y.f2, y.f3) := by
  induction h with
  | mk x y e0 e1 e2 el en ek ih =>
    have loop : ∀ (n i : Nat), i + n = x.f3.length → Says (fun k => furrowlaw5_Of.l0 k (i : Int) x.f0 x.f1 x.f2 x.f3 x.f0 x.f1 x.f2 (y.f3.take i)) (x.f0, x.f1, x.f2, y.f3) := by
      intro n
      induction n with
      | zero =>
        intro i hi
        rw [List.take_of_length_le (by omega)]
        exact .step (fun k => furrowlaw5_Of.l0.eq_2 ..) (.neg (by omega) .now)
      | succ n ihn =>
        intro i hi
        have q := ihn (i + 1) (by omega)
        have sy := ih i (by omega)
        rw [← take_next (d := z30) (by omega)] at q
        refine .step (fun k => furrowlaw5_Of.l0.eq_2 ..) (.pos (by omega) (.pos (by omega) (.bind sy (.pos (by rw [List.length_take]; omega) ?_))))
        rw [wnext (n := x.f3.length) (by omega) (by omega)]
        cases hy : y.f3.getD i z30
        rw [hy] at q
        exact q
    have q := loop x.f3.length 0 (by omega)
    rw [e0, e1, e2]
    exact .step (fun k => furrowlaw5_Of.f.eq_2 ..) q
theorem subst_spec {bx : S24} {b : S30} (hb : Rel bx b) (s : ByteArray) {x : S24} {y : S30} (h : Rel x y) :
    ∃ (z : S24) (w : S30), Says (fun k => lift_Subst.f k x.f0 x.f1 x.f2 x.f3 s bx.f0 bx.f1 bx.f2 bx.f3) (z.f0, z.f1, z.f2, z.f3) ∧ Says (fun k => furrowref14_Subst.f k y.f0 y.f1 y.f2 y.f3 s b.f0 b.f1 b.f2 b.f3) (w.f0, w.f1, w.f2, w.f3) ∧ Rel z w := by
  induction h with
  | mk x y e0 e1 e2 el en ek ih =>
    have loop : ∀ (n : Nat) (a1 : List S24) (a2 : List S30), a1.length + n = x.f3.length → a2.length = a1.length → (∀ j, j < a1.length → Rel (a1.getD j z24) (a2.getD j z30)) →
        ∃ (l1 : List S24) (l2 : List S30), l1.length = x.f3.length ∧ l2.length = l1.length ∧ (∀ j, j < l1.length → Rel (l1.getD j z24) (l2.getD j z30)) ∧
          Says (fun k => lift_Subst.l0 k s x.f3 (x.f3.length : Int) (a1.length : Int) bx.f0 bx.f1 bx.f2 bx.f3 x.f0 x.f1 x.f2 a1) (x.f0, x.f1, x.f2, l1) ∧
          Says (fun k => furrowref14_Subst.l0 k s (a1.length : Int) y.f0 y.f1 y.f2 y.f3 b.f0 b.f1 b.f2 b.f3 y.f0 y.f1 y.f2 a2) (y.f0, y.f1, y.f2, l2) := by
      intro n
      induction n with
      | zero => intro a1 a2 h1 h2 h3; exact ⟨a1, a2, h1, h2, h3, .step (fun k => lift_Subst.l0.eq_2 ..) (.neg (by omega) .now), .step (fun k => furrowref14_Subst.l0.eq_2 ..) (.neg (by omega) .now)⟩
      | succ n ihn =>
        intro a1 a2 h1 h2 h3
        obtain ⟨z, w, q1, q2, q3⟩ := ih a1.length (by omega)
        obtain ⟨l1, l2, p1, p2, p3, p4, p5⟩ := ihn (a1 ++ [z]) (a2 ++ [w]) (by simp; omega) (by simp [h2]) (fun j hj => by
          by_cases c : j < a1.length
          · rw [getD_old c, getD_old (by omega)]; exact h3 j c
          · obtain rfl : j = a1.length := by simp at hj; omega
            rw [getD_new, ← h2, getD_new]; exact q3)
        rw [show (a1 ++ [z]).length = a1.length + 1 by simp] at p4 p5
        refine ⟨l1, l2, p1, p2, p3, .step (fun k => lift_Subst.l0.eq_2 ..) (.pos (by omega) (.pos (by omega) (.pos (by omega) (.bind q1 (.pos (by omega) ?_))))), .step (fun k => furrowref14_Subst.l0.eq_2 ..) (.pos (by omega) (.pos (by omega) (.bind q2 (.pos (by omega) ?_))))⟩
        · rw [wnext (n := x.f3.length) (by omega) (by omega)]; cases z; exact p4
        · rw [wnext (n := x.f3.length) (by omega) (by omega)]; cases w; exact p5
    have j0 : ∀ c : Bool, ∃ (z : S24) (w : S30), Says (fun k => lift_Subst.j0 k s c x.f0 x.f1 x.f2 x.f3 bx.f0 bx.f1 bx.f2 bx.f3) (z.f0, z.f1, z.f2, z.f3) ∧ Says (fun k => furrowref14_Subst.j0 k s c y.f0 y.f1 y.f2 y.f3 b.f0 b.f1 b.f2 b.f3) (w.f0, w.f1, w.f2, w.f3) ∧ Rel z w := by
      intro c
      cases c with
      | true => exact ⟨bx, b, .step (fun k => lift_Subst.j0.eq_2 ..) (.pos rfl .now), .step (fun k => furrowref14_Subst.j0.eq_2 ..) (.pos rfl .now), hb⟩
      | false =>
        obtain ⟨l1, l2, p1, p2, p3, p4, p5⟩ := loop x.f3.length [] [] (by simp) rfl (fun j hj => by simp at hj)
        exact ⟨⟨x.f0, x.f1, x.f2, l1⟩, ⟨y.f0, y.f1, y.f2, l2⟩, .step (fun k => lift_Subst.j0.eq_2 ..) (.neg (by simp) p4), .step (fun k => furrowref14_Subst.j0.eq_2 ..) (.neg (by simp) p5), .mk _ _ e0 e1 e2 p2 (by show l1.length ≤ _; omega) p3⟩
    by_cases c : x.f0 = 2
    · obtain ⟨z, w, q1, q2, q3⟩ := j0 (x.f2.toList == s.toList)
      refine ⟨z, w, .step (fun k => lift_Subst.f.eq_2 ..) (.pos c q1), .step (fun k => furrowref14_Subst.f.eq_2 ..) (.pos (by omega) ?_), q3⟩
      rw [e2]
      rw [e2] at q2
      exact q2
    · obtain ⟨z, w, q1, q2, q3⟩ := j0 false
      exact ⟨z, w, .step (fun k => lift_Subst.f.eq_2 ..) (.neg c q1), .step (fun k => furrowref14_Subst.f.eq_2 ..) (.neg (by omega) q2), q3⟩
theorem same_refl {x : S24} {y : S30} (h : Rel x y) : Says (fun k => furrowref10_Same.f k y.f0 y.f1 y.f2 y.f3 y.f0 y.f1 y.f2 y.f3) true := by
  induction h with
  | mk x y e0 e1 e2 el en ek ih =>
    have loop : ∀ (n i : Nat), i + n = y.f3.length → Says (fun k => furrowref10_Same.l0 k (i : Int) y.f0 y.f1 y.f2 y.f3 y.f0 y.f1 y.f2 y.f3) true := by
      intro n
      induction n with
      | zero => intro i hi; exact .step (fun k => furrowref10_Same.l0.eq_2 ..) (.neg (by omega) .now)
      | succ n ihn =>
        intro i hi
        refine .step (fun k => furrowref10_Same.l0.eq_2 ..) (.pos (by omega) (.pos (by omega) (.pos (by omega) (.bind (ih i (by omega)) (.pos rfl ?_)))))
        rw [wnext (n := y.f3.length) (by omega) (by omega)]; exact ihn (i + 1) (by omega)
    refine .step (fun k => furrowref10_Same.f.eq_2 ..) (.pos rfl (.pos rfl (.pos rfl ?_)))
    rw [show ((y.f3.length : Int) != (y.f3.length : Int)) = false by simp]
    exact .step (fun k => furrowref10_Same.j0.eq_2 ..) (.neg (by simp) (loop y.f3.length 0 (by omega)))

end Go.Proofs.YtnkckdbjeemjeaaGreatDoor.Pure
