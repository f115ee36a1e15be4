/- furrow: trees that are few, right, of known names; no conditions. -/
import Derived.Test.YtmhkijidnpihmaaDoorPureEv1
import Derived.Test.YtmhkijidnpihmaaDoorOpR
import Derived.Test.YtmhkijidnpihmaaDoorXx4
import Derived.Test.YtmhkijidnpihmaaDoorXx5
import Derived.Test.YtmhkijidnpihmaaDoorXx10
import Derived.Test.YtmhkijidnpihmaaDoorXx11
import Derived.Test.YtmhkijidnpihmaaDoorXx12
import Derived.Laws.Bits64
namespace Go.Proofs.YtmhkijidnpihmaaDoor.Pure
open Go.RowKit Go.Proofs.YtmhkijidnpihmaaDoor.X Go.Proofs.YtmhkijidnpihmaaDoor.Flt Go.Proofs.YtmhkijidnpihmaaDoor.H Go.Proofs.YtmhkijidnpihmaaDoorW.PrintWords Go.Proofs.YtmhkijidnpihmaaDoorW.PrintLast Go.Proofs.YtmhkijidnpihmaaDoorW.PrintMore
set_option linter.unusedVariables false
set_option linter.unusedSimpArgs false
/-! trees: as the program's, as the document's; which are few, right, of known names -/
theorem getD_mem {α : Type} {l : List α} {d : α} {i : Nat} (h : i < l.length) : l.getD i d ∈ l := by
  rw [List.getD_eq_getElem?_getD, List.getElem?_eq_getElem h]; exact List.getElem_mem h
theorem getD_old {α : Type} {l : List α} {d x : α} {i : Nat} (h : i < l.length) : (l ++ [x]).getD i d = l.getD i d := by
  rw [List.getD_eq_getElem?_getD, List.getD_eq_getElem?_getD, List.getElem?_append_left h]
theorem getD_new {α : Type} {l : List α} {d x : α} : (l ++ [x]).getD l.length d = x := by
  rw [List.getD_eq_getElem?_getD, List.getElem?_append_right (Nat.le_refl _)]; simp
inductive Rel : S24 → S33 → Prop
  | mk (x : S24) (y : S33) (e0 : y.f0 = x.f0) (e1 : y.f1 = x.f1) (e2 : y.f2 = x.f2) (el : y.f3.length = x.f3.length) (en : x.f3.length ≤ 2513169434843) (ek : ∀ i : Nat, i < x.f3.length → Rel (x.f3.getD i z24) (y.f3.getD i z33)) : Rel x y
theorem of_spec (x : S24) (hx : GE x) : ∃ y, Rel x y ∧ Says (fun k => furrowlaw5_Of.f k x.f0 x.f1 x.f2 x.f3) (y.f0, y.f1, y.f2, y.f3) := by
  induction hx with
  | mk x h1 h2 h3 h4 h5 ih =>
    have hn : x.f3.length ≤ 2513169434843 := by omega
    have loop : ∀ (n : Nat) (acc : List S33), acc.length + n = x.f3.length → (∀ j, j < acc.length → Rel (x.f3.getD j z24) (acc.getD j z33)) → ∃ l : List S33, l.length = x.f3.length ∧ (∀ j, j < x.f3.length → Rel (x.f3.getD j z24) (l.getD j z33)) ∧ Says (fun k => furrowlaw5_Of.l0 k (acc.length : Int) x.f0 x.f1 x.f2 x.f3 x.f0 x.f1 x.f2 acc) (x.f0, x.f1, x.f2, l) := by
      intro n
      induction n with
      | zero => intro acc ha hr; exact ⟨acc, ha, fun j hj => hr j (by omega), .step (fun k => furrowlaw5_Of.l0.eq_2 ..) (.neg (by omega) .now)⟩
      | succ n ihn =>
        intro acc ha hr
        obtain ⟨y, hy, sy⟩ := ih (x.f3.getD acc.length z24) (getD_mem (by omega))
        obtain ⟨l, hl, hj, sl⟩ := ihn (acc ++ [y]) (by simp; omega) (fun j hj => by
          by_cases z : j < acc.length
          · rw [getD_old z]; exact hr j z
          · obtain rfl : j = acc.length := by simp at hj; omega
            rw [getD_new]; exact hy)
        refine ⟨l, hl, hj, .step (fun k => furrowlaw5_Of.l0.eq_2 ..) (.pos (by omega) (.pos (by omega) (.bind sy (.pos (by omega) ?_))))⟩
        rw [wnext (n := x.f3.length) (by omega) (by omega)]
        rw [show (acc ++ [y]).length = acc.length + 1 by simp] at sl
        cases y; exact sl
    obtain ⟨l, hl, hj, sl⟩ := loop x.f3.length [] (by simp) (fun j hj => by simp at hj)
    exact ⟨⟨x.f0, x.f1, x.f2, l⟩, .mk _ _ rfl rfl rfl hl hn hj, .step (fun k => furrowlaw5_Of.f.eq_2 ..) sl⟩
inductive FewT : S24 → Prop
  | mk (x : S24) (h : x.f2.size ≤ 40) (hk : ∀ i : Nat, i < x.f3.length → FewT (x.f3.getD i z24)) : FewT x
theorem budget_spec (x : S24) (hx : GE x) : ∀ a b : Int, ∃ v : Int, Says (fun k => furrowlaw5_budget.f k x.f0 x.f1 x.f2 x.f3 a b) v ∧ (0 < v → FewT x) := by
  induction hx with
  | mk x h1 h2 h3 h4 h5 ih =>
    have hn : x.f3.length ≤ 2513169434843 := by omega
    intro a b
    have loop : ∀ (n i : Nat) (t : Int), i + n = x.f3.length → (∀ j, j < i → FewT (x.f3.getD j z24)) → ∃ v : Int, Says (fun k => furrowlaw5_budget.l0 k a t (i : Int) x.f0 x.f1 x.f2 x.f3) v ∧ (0 < v → ∀ j, j < x.f3.length → FewT (x.f3.getD j z24)) := by
      intro n
      induction n with
      | zero => intro i t hi hr; exact ⟨t, .step (fun k => furrowlaw5_budget.l0.eq_2 ..) (.neg (by omega) .now), fun _ j hj => hr j (by omega)⟩
      | succ n ihn =>
        intro i t hi hr
        by_cases ht : t > 0
        · obtain ⟨v, hv, hf⟩ := ih (x.f3.getD i z24) (getD_mem (by omega)) (wrap64 (a - 1)) t
          by_cases hp : 0 < v
          · obtain ⟨u, hu, hg⟩ := ihn (i + 1) v (by omega) (fun j hj => by
              by_cases z : j < i
              · exact hr j z
              · obtain rfl : j = i := by omega
                exact hf hp)
            refine ⟨u, .step (fun k => furrowlaw5_budget.l0.eq_2 ..) (.pos (by omega) (.pos ht (.pos (by omega) (.bind hv ?_)))), hg⟩
            rw [wnext (n := x.f3.length) (by omega) (by omega)]; exact hu
          · refine ⟨v, .step (fun k => furrowlaw5_budget.l0.eq_2 ..) (.pos (by omega) (.pos ht (.pos (by omega) (.bind hv ?_)))), fun h => absurd h hp⟩
            rw [wnext (n := x.f3.length) (by omega) (by omega)]
            refine .step (fun k => furrowlaw5_budget.l0.eq_2 ..) ?_
            by_cases z : ((i + 1 : Nat) : Int) < (x.f3.length : Int)
            · exact .pos z (.neg hp .now)
            · exact .neg z .now
        · exact ⟨t, .step (fun k => furrowlaw5_budget.l0.eq_2 ..) (.pos (by omega) (.neg ht .now)), fun h => absurd h ht⟩
    have j0 : ∀ c : Bool, (c = false → x.f2.size ≤ 40) → ∃ v : Int, Says (fun k => furrowlaw5_budget.j0 k a b c x.f0 x.f1 x.f2 x.f3) v ∧ (0 < v → FewT x) := by
      intro c hc
      cases c with
      | true => exact ⟨0, .step (fun k => furrowlaw5_budget.j0.eq_2 ..) (.pos rfl .now), fun h => by omega⟩
      | false =>
        obtain ⟨v, hv, hf⟩ := loop x.f3.length 0 (wrap64 (b - 1)) (by omega) (fun j hj => by omega)
        exact ⟨v, .step (fun k => furrowlaw5_budget.j0.eq_2 ..) (.neg (by simp) hv), fun h => .mk x (hc rfl) (hf h)⟩
    by_cases c1 : b ≤ 0
    · obtain ⟨v, hv, hf⟩ := j0 true (fun h => by cases h)
      exact ⟨v, .step (fun k => furrowlaw5_budget.f.eq_2 ..) (.pos c1 hv), hf⟩
    by_cases c2 : a ≤ 0
    · obtain ⟨v, hv, hf⟩ := j0 true (fun h => by cases h)
      exact ⟨v, .step (fun k => furrowlaw5_budget.f.eq_2 ..) (.neg c1 (.pos c2 hv)), hf⟩
    by_cases c3 : (x.f3.length : Int) > 8
    · obtain ⟨v, hv, hf⟩ := j0 true (fun h => by cases h)
      exact ⟨v, .step (fun k => furrowlaw5_budget.f.eq_2 ..) (.neg c1 (.neg c2 (.pos c3 hv))), hf⟩
    · obtain ⟨v, hv, hf⟩ := j0 (decide ((x.f2.size : Int) > 40)) (fun h => by have := of_decide_eq_false h; omega)
      exact ⟨v, .step (fun k => furrowlaw5_budget.f.eq_2 ..) (.neg c1 (.neg c2 (.neg c3 hv))), hf⟩
theorem few_spec (x : S24) (hx : GE x) : ∃ b : Bool, Says (fun k => furrowlaw5_Few.f k x.f0 x.f1 x.f2 x.f3) b ∧ (b = true → FewT x) := by
  obtain ⟨v, hv, hf⟩ := budget_spec x hx 60 300
  exact ⟨decide (v > 0), .eq (fun k => furrowlaw5_Few.f.eq_1 ..) (.bind hv .now), fun h => hf (of_decide_eq_true h)⟩
inductive R1 : S33 → Prop
  | mk (y : S33) (h : (y.f0 = 1 ∧ y.f3.length = 0) ∨ (y.f0 = 2 ∧ y.f3.length = 0) ∨ (y.f0 = 3 ∧ y.f3.length ≤ 4) ∨ (y.f0 = 4 ∧ y.f3.length = 1) ∨ ((y.f0 = 5 ∨ y.f0 = 6 ∨ y.f0 = 7 ∨ y.f0 = 8) ∧ y.f3.length = 2)) (hk : ∀ i : Nat, i < y.f3.length → R1 (y.f3.getD i z33)) : R1 y
theorem right_spec {x : S24} {y : S33} (hr : Rel x y) : FewT x → ∃ b : Bool, Says (fun k => furrowlaw5_Right.f k y.f0 y.f1 y.f2 y.f3) b ∧ (b = true → R1 y) := by
  induction hr with
  | mk x y e0 e1 e2 el en ek ih =>
    intro hf
    obtain ⟨_, hs, hk⟩ := hf
    have loop : ∀ (n i : Nat), i + n = y.f3.length → (∀ j, j < i → R1 (y.f3.getD j z33)) → ∃ b : Bool, Says (fun k => furrowlaw5_Right.l0 k (y.f3.length : Int) (i : Int) y.f0 y.f1 y.f2 y.f3) b ∧ (b = true → ∀ j, j < y.f3.length → R1 (y.f3.getD j z33)) := by
      intro n
      induction n with
      | zero => intro i hi hr; exact ⟨true, .step (fun k => furrowlaw5_Right.l0.eq_2 ..) (.neg (by omega) .now), fun _ j hj => hr j (by omega)⟩
      | succ n ihn =>
        intro i hi hr
        obtain ⟨b, hb, hp⟩ := ih i (by omega) (hk i (by omega))
        cases b with
        | false => exact ⟨false, .step (fun k => furrowlaw5_Right.l0.eq_2 ..) (.pos (by omega) (.pos (by omega) (.pos (by omega) (.bind hb (.neg (by simp) .now))))), fun h => by cases h⟩
        | true =>
          obtain ⟨u, hu, hg⟩ := ihn (i + 1) (by omega) (fun j hj => by
            by_cases z : j < i
            · exact hr j z
            · obtain rfl : j = i := by omega
              exact hp rfl)
          refine ⟨u, .step (fun k => furrowlaw5_Right.l0.eq_2 ..) (.pos (by omega) (.pos (by omega) (.pos (by omega) (.bind hb (.pos rfl ?_))))), hg⟩
          rw [wnext (n := y.f3.length) (by omega) (by omega)]; exact hu
    have j1 : ∀ c : Bool, ∃ b : Bool, Says (fun k => furrowlaw5_Right.j1 k (y.f3.length : Int) c y.f0 y.f1 y.f2 y.f3) b ∧ (b = true → ∀ j, j < y.f3.length → R1 (y.f3.getD j z33)) := by
      intro c
      cases c with
      | true => exact ⟨false, .step (fun k => furrowlaw5_Right.j1.eq_2 ..) (.pos rfl .now), fun h => by cases h⟩
      | false =>
        obtain ⟨b, hb, hp⟩ := loop y.f3.length 0 (by omega) (fun j hj => by omega)
        exact ⟨b, .step (fun k => furrowlaw5_Right.j1.eq_2 ..) (.neg (by simp) hb), hp⟩
    have j0 : ∀ n : Int, ∃ b : Bool, Says (fun k => furrowlaw5_Right.j0 k n y.f0 y.f1 y.f2 y.f3) b ∧ (b = true → (y.f3.length : Int) = n ∧ n ≠ 0 ∧ ∀ j, j < y.f3.length → R1 (y.f3.getD j z33)) := by
      intro n
      have bad : ∀ m : Int, Says (fun k => furrowlaw5_Right.j1 k m true y.f0 y.f1 y.f2 y.f3) false := fun m => .step (fun k => furrowlaw5_Right.j1.eq_2 ..) (.pos rfl .now)
      by_cases c1 : n = 0
      · exact ⟨false, .step (fun k => furrowlaw5_Right.j0.eq_2 ..) (.pos c1 (bad _)), fun h => by cases h⟩
      by_cases c2 : (y.f3.length : Int) = n
      · subst c2
        by_cases c3 : y.f1 = 0
        · by_cases c4 : y.f0 = 3
          · obtain ⟨b, hb, hp⟩ := j1 false
            exact ⟨b, .step (fun k => furrowlaw5_Right.j0.eq_2 ..) (.neg c1 (.pos rfl (.pos c3 (.pos c4 hb)))), fun h => ⟨rfl, c1, hp h⟩⟩
          · obtain ⟨b, hb, hp⟩ := j1 (y.f2.toList != ([] : List UInt8))
            exact ⟨b, .step (fun k => furrowlaw5_Right.j0.eq_2 ..) (.neg c1 (.pos rfl (.pos c3 (.neg c4 hb)))), fun h => ⟨rfl, c1, hp h⟩⟩
        · exact ⟨false, .step (fun k => furrowlaw5_Right.j0.eq_2 ..) (.neg c1 (.pos rfl (.neg c3 (bad _)))), fun h => by cases h⟩
      · exact ⟨false, .step (fun k => furrowlaw5_Right.j0.eq_2 ..) (.neg c1 (.neg c2 (bad _))), fun h => by cases h⟩
    have kids0 : y.f3.length = 0 → ∀ i, i < y.f3.length → R1 (y.f3.getD i z33) := fun h i hi => by omega
    have name := isname_tot y.f2 (by rw [e2]; exact hs)
    by_cases k1 : y.f0 = 1
    · by_cases c : y.f2.toList = ([] : List UInt8)
      · refine ⟨((y.f3.length : Int) == 0), .step (fun k => furrowlaw5_Right.f.eq_2 ..) (.pos k1 (.pos c .now)), fun h => ?_⟩
        have h : (y.f3.length : Int) = 0 := by simpa using h
        exact .mk y (.inl ⟨k1, by omega⟩) (kids0 (by omega))
      · exact ⟨false, .step (fun k => furrowlaw5_Right.f.eq_2 ..) (.pos k1 (.neg c .now)), fun h => by cases h⟩
    by_cases k2 : y.f0 = 2
    · by_cases c : y.f1 = 0
      · by_cases d : (y.f3.length : Int) = 0
        · obtain ⟨b, hb⟩ := name
          exact ⟨b, .step (fun k => furrowlaw5_Right.f.eq_2 ..) (.neg k1 (.pos k2 (.pos c (.pos d (.bind hb .now))))), fun _ => .mk y (.inr (.inl ⟨k2, by omega⟩)) (kids0 (by omega))⟩
        · exact ⟨false, .step (fun k => furrowlaw5_Right.f.eq_2 ..) (.neg k1 (.pos k2 (.pos c (.neg d .now)))), fun h => by cases h⟩
      · exact ⟨false, .step (fun k => furrowlaw5_Right.f.eq_2 ..) (.neg k1 (.pos k2 (.neg c .now))), fun h => by cases h⟩
    by_cases k3 : y.f0 = 3
    · by_cases c : y.f1 = 0
      · obtain ⟨b, hb⟩ := name
        cases b with
        | false => exact ⟨false, .step (fun k => furrowlaw5_Right.f.eq_2 ..) (.neg k1 (.neg k2 (.pos k3 (.pos c (.bind hb (.neg (by simp) .now)))))), fun h => by cases h⟩
        | true =>
          by_cases d : (y.f3.length : Int) < 1
          · exact ⟨false, .step (fun k => furrowlaw5_Right.f.eq_2 ..) (.neg k1 (.neg k2 (.pos k3 (.pos c (.bind hb (.pos rfl (.pos d .now))))))), fun h => by cases h⟩
          by_cases e : (y.f3.length : Int) > 4
          · exact ⟨false, .step (fun k => furrowlaw5_Right.f.eq_2 ..) (.neg k1 (.neg k2 (.pos k3 (.pos c (.bind hb (.pos rfl (.neg d (.pos e .now)))))))), fun h => by cases h⟩
          obtain ⟨b, hb', hp⟩ := j0 (y.f3.length : Int)
          exact ⟨b, .step (fun k => furrowlaw5_Right.f.eq_2 ..) (.neg k1 (.neg k2 (.pos k3 (.pos c (.bind hb (.pos rfl (.neg d (.neg e hb')))))))), fun h => .mk y (.inr (.inr (.inl ⟨k3, by omega⟩))) (hp h).2.2⟩
      · exact ⟨false, .step (fun k => furrowlaw5_Right.f.eq_2 ..) (.neg k1 (.neg k2 (.pos k3 (.neg c .now)))), fun h => by cases h⟩
    by_cases k4 : y.f0 = 4
    · obtain ⟨b, hb, hp⟩ := j0 1
      exact ⟨b, .step (fun k => furrowlaw5_Right.f.eq_2 ..) (.neg k1 (.neg k2 (.neg k3 (.pos k4 hb)))), fun h => .mk y (.inr (.inr (.inr (.inl ⟨k4, by have := (hp h).1; omega⟩)))) (hp h).2.2⟩
    have two : ∀ h2 : (y.f0 = 5 ∨ y.f0 = 6 ∨ y.f0 = 7 ∨ y.f0 = 8), ∀ b : Bool, (b = true → (y.f3.length : Int) = 2 ∧ (2 : Int) ≠ 0 ∧ ∀ j, j < y.f3.length → R1 (y.f3.getD j z33)) → b = true → R1 y := fun h2 b hp h => .mk y (.inr (.inr (.inr (.inr ⟨h2, by have := (hp h).1; omega⟩)))) (hp h).2.2
    by_cases k5 : y.f0 = 5
    · obtain ⟨b, hb, hp⟩ := j0 2
      exact ⟨b, .step (fun k => furrowlaw5_Right.f.eq_2 ..) (.neg k1 (.neg k2 (.neg k3 (.neg k4 (.pos k5 hb))))), two (by omega) b hp⟩
    by_cases k6 : y.f0 = 6
    · obtain ⟨b, hb, hp⟩ := j0 2
      exact ⟨b, .step (fun k => furrowlaw5_Right.f.eq_2 ..) (.neg k1 (.neg k2 (.neg k3 (.neg k4 (.neg k5 (.pos k6 hb)))))), two (by omega) b hp⟩
    by_cases k7 : y.f0 = 7
    · obtain ⟨b, hb, hp⟩ := j0 2
      exact ⟨b, .step (fun k => furrowlaw5_Right.f.eq_2 ..) (.neg k1 (.neg k2 (.neg k3 (.neg k4 (.neg k5 (.neg k6 (.pos k7 hb))))))), two (by omega) b hp⟩
    by_cases k8 : y.f0 = 8
    · obtain ⟨b, hb, hp⟩ := j0 2
      exact ⟨b, .step (fun k => furrowlaw5_Right.f.eq_2 ..) (.neg k1 (.neg k2 (.neg k3 (.neg k4 (.neg k5 (.neg k6 (.neg k7 (.pos k8 hb)))))))), two (by omega) b hp⟩
    obtain ⟨b, hb, hp⟩ := j0 0
    exact ⟨b, .step (fun k => furrowlaw5_Right.f.eq_2 ..) (.neg k1 (.neg k2 (.neg k3 (.neg k4 (.neg k5 (.neg k6 (.neg k7 (.neg k8 hb)))))))), fun h => absurd rfl (hp h).2.1⟩
/-! names in a table -/
def lookup : List S71 → ByteArray → ByteArray × List Int × Int × Int × Bool
  | [], _ => (⟨#[]⟩, [], 0, 0, false)
  | x :: xs, s => if x.f0.toList = s.toList then (x.f0, x.f1, x.f2, x.f3, true) else lookup xs s
theorem drop_at {α : Type} {l : List α} {d : α} {i : Nat} (h : i < l.length) : l.drop i = l.getD i d :: l.drop (i + 1) := by
  rw [List.drop_eq_getElem_cons h, List.getD_eq_getElem?_getD, List.getElem?_eq_getElem h]; rfl
theorem find_spec (xs : List S71) (c : Int) (s : ByteArray) (hl : xs.length ≤ 7) : ∀ (n i : Nat), i + n = xs.length → Says (fun k => furrowref10_Table_Find.l0 k s (i : Int) xs c) (lookup (xs.drop i) s)
  | 0, i, h => by
    rw [List.drop_of_length_le (by omega)]
    exact .step (fun k => furrowref10_Table_Find.l0.eq_2 ..) (.neg (by omega) .now)
  | n + 1, i, h => by
    rw [drop_at (d := z71) (by omega)]
    refine .step (fun k => furrowref10_Table_Find.l0.eq_2 ..) (.pos (by omega) (.pos (by omega) ?_))
    by_cases e : (xs.getD i z71).f0.toList = s.toList
    · rw [lookup, if_pos e]; exact .pos e .now
    · rw [lookup, if_neg e, wnext (n := 7) (by omega) (by omega)]; exact .neg e (find_spec xs c s hl n (i + 1) (by omega))
inductive R2 (xs : List S71) : S33 → Prop
  | mk (y : S33) (h : y.f0 = 2 ∨ y.f0 = 3 → (lookup xs y.f2).2.2.2.2 = true ∧ (lookup xs y.f2).2.1.length = y.f3.length) (hk : ∀ i : Nat, i < y.f3.length → R2 xs (y.f3.getD i z33)) : R2 xs y
theorem names_spec {xs : List S71} {c : Int} (hl : xs.length ≤ 7) {x : S24} {y : S33} (hr : Rel x y) : ∃ b : Bool, Says (fun k => furrowlaw9_right.f k xs c y.f0 y.f1 y.f2 y.f3) b ∧ (b = true → R2 xs y) := by
  induction hr with
  | mk x y e0 e1 e2 el en ek ih =>
    have loop : ∀ (n i : Nat), i + n = y.f3.length → (∀ j, j < i → R2 xs (y.f3.getD j z33)) → ∃ b : Bool, Says (fun k => furrowlaw9_right.l0 k (i : Int) xs c y.f0 y.f1 y.f2 y.f3) b ∧ (b = true → ∀ j, j < y.f3.length → R2 xs (y.f3.getD j z33)) := by
      intro n
      induction n with
      | zero => intro i hi hr; exact ⟨true, .step (fun k => furrowlaw9_right.l0.eq_2 ..) (.neg (by omega) .now), fun _ j hj => hr j (by omega)⟩
      | succ n ihn =>
        intro i hi hr
        obtain ⟨b, hb, hp⟩ := ih i (by omega)
        cases b with
        | false => exact ⟨false, .step (fun k => furrowlaw9_right.l0.eq_2 ..) (.pos (by omega) (.pos (by omega) (.bind hb (.neg (by simp) .now)))), fun h => by cases h⟩
        | true =>
          obtain ⟨u, hu, hg⟩ := ihn (i + 1) (by omega) (fun j hj => by
            by_cases z : j < i
            · exact hr j z
            · obtain rfl : j = i := by omega
              exact hp rfl)
          refine ⟨u, .step (fun k => furrowlaw9_right.l0.eq_2 ..) (.pos (by omega) (.pos (by omega) (.bind hb (.pos rfl ?_)))), hg⟩
          rw [wnext (n := y.f3.length) (by omega) (by omega)]; exact hu
    have j1 : ∃ b : Bool, Says (fun k => furrowlaw9_right.j1 k xs c y.f0 y.f1 y.f2 y.f3) b ∧ (b = true → ∀ j, j < y.f3.length → R2 xs (y.f3.getD j z33)) := by
      obtain ⟨b, hb, hp⟩ := loop y.f3.length 0 (by omega) (fun j hj => by omega)
      exact ⟨b, .step (fun k => furrowlaw9_right.j1.eq_2 ..) hb, hp⟩
    have find : Says (fun k => furrowref10_Table_Find.f k xs c y.f2) (lookup xs y.f2) := .eq (fun k => furrowref10_Table_Find.f.eq_1 ..) (find_spec xs c y.f2 hl xs.length 0 (by omega))
    have j0 : ∀ q : Bool, (q = false → ¬(y.f0 = 2 ∨ y.f0 = 3)) → ∃ b : Bool, Says (fun k => furrowlaw9_right.j0 k q xs c y.f0 y.f1 y.f2 y.f3) b ∧ (b = true → R2 xs y) := by
      intro q hq
      cases q with
      | false =>
        obtain ⟨b, hb, hp⟩ := j1
        exact ⟨b, .step (fun k => furrowlaw9_right.j0.eq_2 ..) (.neg (by simp) hb), fun h => .mk y (fun hh => absurd hh (hq rfl)) (hp h)⟩
      | true =>
        by_cases d : (lookup xs y.f2).2.2.2.2 = true
        · by_cases e : ((lookup xs y.f2).2.1.length : Int) = (y.f3.length : Int)
          · obtain ⟨b, hb, hp⟩ := j1
            exact ⟨b, .step (fun k => furrowlaw9_right.j0.eq_2 ..) (.pos rfl (.bind find (.pos d (.pos e hb)))), fun h => .mk y (fun _ => ⟨d, by omega⟩) (hp h)⟩
          · exact ⟨false, .step (fun k => furrowlaw9_right.j0.eq_2 ..) (.pos rfl (.bind find (.pos d (.neg e .now)))), fun h => by cases h⟩
        · exact ⟨false, .step (fun k => furrowlaw9_right.j0.eq_2 ..) (.pos rfl (.bind find (.neg d .now))), fun h => by cases h⟩
    by_cases k2 : y.f0 = 2
    · obtain ⟨b, hb, hp⟩ := j0 true (fun h => by cases h)
      exact ⟨b, .step (fun k => furrowlaw9_right.f.eq_2 ..) (.pos k2 hb), hp⟩
    · obtain ⟨b, hb, hp⟩ := j0 (y.f0 == 3) (fun h => by have := beq_eq_false_iff_ne.1 h; omega)
      exact ⟨b, .step (fun k => furrowlaw9_right.f.eq_2 ..) (.neg k2 hb), hp⟩

end Go.Proofs.YtmhkijidnpihmaaDoor.Pure
