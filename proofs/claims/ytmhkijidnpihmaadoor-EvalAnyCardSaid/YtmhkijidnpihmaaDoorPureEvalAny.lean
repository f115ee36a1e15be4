/- furrow: EvalAny's plain law; no conditions. -/
import Derived.Test.YtmhkijidnpihmaaDoorPureEv3
import Derived.Test.YtmhkijidnpihmaaDoorXx13
import Derived.Test.YtmhkijidnpihmaaDoorXx14
import Derived.Test.YtmhkijidnpihmaaDoorXx15
import Derived.Laws.Bits64
namespace Go.Proofs.YtmhkijidnpihmaaDoor.Pure
open Go.RowKit Go.Proofs.YtmhkijidnpihmaaDoor.X Go.Proofs.YtmhkijidnpihmaaDoor.Flt Go.Proofs.YtmhkijidnpihmaaDoor.H Go.Proofs.YtmhkijidnpihmaaDoorW.PrintWords Go.Proofs.YtmhkijidnpihmaaDoorW.PrintLast Go.Proofs.YtmhkijidnpihmaaDoorW.PrintMore
set_option linter.unusedVariables false
set_option linter.unusedSimpArgs false
theorem known9 : Says (fun k => furrowlaw9_known.f k) true := Says.more furrowlaw9_known.mono (K := 40) (by decide +kernel)

/-! the cells, the law -/
theorem u8_of {a : Int} (h : (Lit.int .u8 a).wf = true) : 0 ≤ a ∧ a ≤ 255 := by
  simp [Lit.wf, IntKind.min, IntKind.max, IntKind.signed, IntKind.bits] at h
  omega
theorem rd_set {st : List Int} {i j : Nat} {v : Int} (h : i < st.length) : rd (st.set i v) j = if j = i then v else rd st j := by
  show (st.set i v).getD j 0 = if j = i then v else st.getD j 0
  rw [List.getD_eq_getElem?_getD, List.getD_eq_getElem?_getD, List.getElem?_set]
  by_cases e : i = j
  · subst e; simp [h]
  · rw [if_neg e, if_neg (fun h => e h.symm)]
theorem store_spec (xs : List S71) (l : List Int) {c : Int} (hc : 0 ≤ c ∧ c ≤ 100) : ∃ st : List Int, Says (fun k => furrowlaw9_store.f k xs c l) st ∧ (st.length : Int) = c ∧ ∀ i : Nat, (i : Int) < c → rd st i = if (i : Int) < (l.length : Int) then rd l i else 0 := by
  have loop : ∀ (m i : Nat) (st : List Int), i + m = c.toNat → st.length = c.toNat → i ≤ l.length → (∀ j : Nat, j < i → rd st j = rd l j) → (∀ j : Nat, i ≤ j → rd st j = 0) →
      ∃ r : List Int, Says (fun k => furrowlaw9_store.l0 k l st (i : Int)) r ∧ r.length = c.toNat ∧ ∀ j : Nat, (j : Int) < c → rd r j = if (j : Int) < (l.length : Int) then rd l j else 0 := by
    intro m
    induction m with
    | zero =>
      intro i st h1 h2 h3 h4 h5
      refine ⟨st, .step (fun k => furrowlaw9_store.l0.eq_2 ..) (.neg (by omega) .now), h2, fun j hj => ?_⟩
      rw [if_pos (by omega)]; exact h4 j (by omega)
    | succ m ihm =>
      intro i st h1 h2 h3 h4 h5
      by_cases e : (i : Int) < (l.length : Int)
      · obtain ⟨r, r1, r2, r3⟩ := ihm (i + 1) (st.set i (rd l i)) (by omega) (by rw [List.length_set]; exact h2) (by omega)
          (fun j hj => by
            rw [rd_set (by omega)]
            by_cases z : j = i
            · rw [if_pos z, z]
            · rw [if_neg z]; exact h4 j (by omega))
          (fun j hj => by rw [rd_set (by omega), if_neg (by omega)]; exact h5 j (by omega))
        refine ⟨r, .step (fun k => furrowlaw9_store.l0.eq_2 ..) (.pos (by omega) (.pos e (.pos (by omega) ?_))), r2, r3⟩
        rw [wnext (n := 101) (by omega) (by omega)]; exact r1
      · refine ⟨st, .step (fun k => furrowlaw9_store.l0.eq_2 ..) (.pos (by omega) (.neg e .now)), h2, fun j hj => ?_⟩
        by_cases z : (j : Int) < (l.length : Int)
        · rw [if_pos z]; exact h4 j (by omega)
        · rw [if_neg z]; exact h5 j (by omega)
  obtain ⟨r, r1, r2, r3⟩ := loop c.toNat 0 (List.replicate c.toNat 0) (by omega) (by simp) (by omega) (fun j hj => by omega) (fun j _ => by
    show (List.replicate c.toNat (0 : Int)).getD j 0 = 0
    rw [List.getD_eq_getElem?_getD, List.getElem?_replicate]; split <;> rfl)
  exact ⟨r, .eq (fun k => furrowlaw9_store.f.eq_1 ..) (.pos hc.1 (.pos (by omega) r1)), by omega, r3⟩
theorem last_spec (l st : List Int) (hs : st.length ≤ 100) (h : ∀ i : Nat, i < st.length → rd st i = if (i : Int) < (l.length : Int) then rd l i else 0) : ∀ (m i : Nat), i + m = st.length → Says (fun k => furrowlaw9_EvalAny.l0 k l st (i : Int)) true
  | 0, i, hi => .step (fun k => furrowlaw9_EvalAny.l0.eq_2 ..) (.neg (by omega) .now)
  | m + 1, i, hi => by
    have q := last_spec l st hs h m (i + 1) (by omega)
    rw [← wnext (n := 100) (by omega) (by omega)] at q
    have e := h i (by omega)
    refine .step (fun k => furrowlaw9_EvalAny.l0.eq_2 ..) (.pos (by omega) ?_)
    by_cases z : (i : Int) < (l.length : Int)
    · rw [if_pos z] at e; exact .pos z (.pos (by omega) (.pos e q))
    · rw [if_neg z] at e; exact .neg z (.pos (by omega) (.pos e q))
theorem evalany_true {a0 a1 : Int} {a2 : ByteArray} {l3 : List S24} (hx : GE ⟨a0, a1, a2, l3⟩) (l : List Int) {u : Int} (hu : 0 ≤ u ∧ u ≤ 255) : ∃ k, furrowlaw9_EvalAny.f k a0 a1 a2 l3 l u = some true := by
  suffices h : Says (fun k => furrowlaw9_EvalAny.f k a0 a1 a2 l3 l u) true from h.elim fun K hK => ⟨K, hK K (Nat.le_refl _)⟩
  obtain ⟨n, hn, h19⟩ : ∃ n, wrap64 (1 + wrap64 (Int.tmod u 9)) = n ∧ 1 ≤ n ∧ n ≤ 9 := by
    refine ⟨_, rfl, ?_⟩
    rw [Int.tmod_eq_emod_of_nonneg hu.1, w64 (a := u % 9) (by omega), w64 (by omega)]; omega
  obtain ⟨y, hr, sy⟩ := of_spec _ hx
  obtain ⟨bf, hf, few⟩ := few_spec _ hx
  simp only at sy hf
  have yes : ∀ {x : Nat}, Says (fun k => furrowlaw9_EvalAny.j0 k l true a0 a1 a2 l3 (TT n) (n + 11) y.f0 y.f1 y.f2 y.f3) true := .step (fun k => furrowlaw9_EvalAny.j0.eq_2 ..) (.pos rfl .now)
  refine .eq (fun k => furrowlaw9_EvalAny.f.eq_1 ..) (.bind (v := true) known9 (.pos rfl ?_))
  rw [hn]
  refine .bind (table_spec h19) (.bind sy (.bind hf ?_))
  cases bf with
  | false => exact .neg (by simp) (yes (x := 0))
  | true =>
  refine .pos rfl ?_
  obtain ⟨br, hb, r1⟩ := right_spec hr (few rfl)
  refine .bind hb ?_
  cases br with
  | false => exact .neg (by simp) (yes (x := 0))
  | true =>
  refine .pos rfl ?_
  obtain ⟨bn, hb2, r2⟩ := names_spec (xs := TT n) (c := n + 11) (by simp [TT]) hr
  refine .bind hb2 ?_
  cases bn with
  | false => exact .neg (by simp) (yes (x := 0))
  | true =>
  refine .pos rfl ?_
  by_cases hl : (l.length : Int) > 40
  · rw [decide_eq_true hl]; exact yes (x := 0)
  rw [decide_eq_false hl]
  obtain ⟨st, ss, sl, sr⟩ := store_spec (TT n) l (c := n + 11) (by omega)
  have j3 : Says (fun k => furrowlaw9_EvalAny.j3 k l st) true := .step (fun k => furrowlaw9_EvalAny.j3.eq_2 ..) (last_spec l st (by omega) (fun i hi => sr i (by omega)) st.length 0 (by omega))
  obtain ⟨_, _, e0, e1, e2, el, en, ek⟩ := id hr
  simp only at e0 e1 e2 el en ek
  have kids : ∀ i : Nat, i < l3.length → Both n st (l3.getD i z24) (y.f3.getD i z33) := fun i hi => by
    obtain ⟨_, _, k1⟩ := r1 rfl
    obtain ⟨_, _, k2⟩ := r2 rfl
    exact eval_spec h19 sl (ek i hi) (k1 i (by omega)) (k2 i (by omega))
  have j2 : ∀ c : Bool, (c = true → y.f0 = 2 ∨ y.f0 = 3) → Says (fun k => furrowlaw9_EvalAny.j2 k l st c a0 a1 a2 l3 (TT n) (n + 11) y.f0 y.f1 y.f2 y.f3) true := by
    intro c hc
    cases c with
    | false => exact .step (fun k => furrowlaw9_EvalAny.j2.eq_2 ..) (.neg (by simp) j3)
    | true =>
      obtain ⟨_, hh, _⟩ := r2 rfl
      obtain ⟨v, fl, ps, er, q1, q2, q3, _⟩ := place_spec h19 (st := st) (x := ⟨a0, a1, a2, l3⟩) (y := y) e2 el (hh (hc rfl)) kids
      exact .step (fun k => furrowlaw9_EvalAny.j2.eq_2 ..) (.pos rfl (.bind (to_spec n _) (.bind q1 (.bind ss (.bind q2 (.pos rfl (.bind ⟨0, fun _ _ => tells_spec q3⟩ (.pos rfl j3))))))))
  have j1 : Says (fun k => furrowlaw9_EvalAny.j1 k l st false a0 a1 a2 l3 (TT n) (n + 11) y.f0 y.f1 y.f2 y.f3) true := by
    refine .step (fun k => furrowlaw9_EvalAny.j1.eq_2 ..) (.neg (by simp) ?_)
    by_cases c : a0 = 2
    · exact .pos c (j2 true (fun _ => by omega))
    · exact .neg c (j2 (a0 == 3) (fun h => by have := beq_iff_eq.1 h; omega))
  obtain ⟨v, fl, ps, er, q1, q2, q3⟩ := eval_spec h19 sl hr (r1 rfl) (r2 rfl)
  exact .step (fun k => furrowlaw9_EvalAny.j0.eq_2 ..) (.neg (by simp) (.bind ss (.bind (to_spec n _) (.bind q1 (.bind ss (.bind q2 (.pos rfl (.bind ⟨0, fun _ _ => tells_spec q3⟩ j1))))))))

end Go.Proofs.YtmhkijidnpihmaaDoor.Pure
