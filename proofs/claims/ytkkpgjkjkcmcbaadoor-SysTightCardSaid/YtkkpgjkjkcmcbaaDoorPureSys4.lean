/- Plain lemmas on systems: what the document finds wrong with them. -/
import Derived.Test.YtkkpgjkjkcmcbaaDoorPureSys3
import Derived.Test.YtkkpgjkjkcmcbaaDoorXx11
import Derived.Laws.Bits64
namespace Go.Proofs.YtkkpgjkjkcmcbaaDoor.Pure
open Go.RowKit Go.Proofs.YtkkpgjkjkcmcbaaDoor.X Go.Proofs.YtkkpgjkjkcmcbaaDoor.Flt Go.Proofs.YtkkpgjkjkcmcbaaDoor.H Go.Proofs.YtkkpgjkjkcmcbaaDoorW.PrintWords Go.Proofs.YtkkpgjkjkcmcbaaDoorW.PrintLast Go.Proofs.YtkkpgjkjkcmcbaaDoorW.PrintMore
set_option linter.unusedVariables false
set_option linter.unusedSimpArgs false
/-! may a system be: the document's check -/
theorem Few_l1 (n : Int) (eq ge : List S59) (lg : ge.length ≤ 70) : ∀ (d i k : Nat), i + d = ge.length → d < k → ∃ b, furrowlaw15_Few.l1 k (i : Int) n eq ge = some b := by
  intro d
  induction d with
  | zero =>
    intro i k hi hk
    obtain ⟨k, rfl⟩ : ∃ m, k = m + 1 := ⟨k - 1, by omega⟩
    exact ⟨true, by simp only [furrowlaw15_Few.l1]; rw [if_neg (by omega)]⟩
  | succ d ih =>
    intro i k hi hk
    obtain ⟨k, rfl⟩ : ∃ m, k = m + 1 := ⟨k - 1, by omega⟩
    simp only [furrowlaw15_Few.l1]
    rw [if_pos (by omega), if_pos (by omega), w_succ (n := ge.length) (by omega) (by omega)]
    by_cases h : (((rd_T59 ge (i : Int)).f0).length : Int) > 20
    · exact ⟨false, by rw [if_pos h]⟩
    · rw [if_neg h]; exact ih (i + 1) k (by omega) (by omega)
theorem Few_l0 (n : Int) (eq ge : List S59) (le : eq.length ≤ 70) (lg : ge.length ≤ 70) : ∀ (d i k : Nat), i + d = eq.length → 100 + d < k → ∃ b, furrowlaw15_Few.l0 k (i : Int) n eq ge = some b := by
  intro d
  induction d with
  | zero =>
    intro i k hi hk
    obtain ⟨k, rfl⟩ : ∃ m, k = m + 1 := ⟨k - 1, by omega⟩
    simp only [furrowlaw15_Few.l0]
    rw [if_neg (by omega)]
    exact Few_l1 n eq ge lg ge.length 0 k (by omega) (by omega)
  | succ d ih =>
    intro i k hi hk
    obtain ⟨k, rfl⟩ : ∃ m, k = m + 1 := ⟨k - 1, by omega⟩
    simp only [furrowlaw15_Few.l0]
    rw [if_pos (by omega), if_pos (by omega), w_succ (n := eq.length) (by omega) (by omega)]
    by_cases h : (((rd_T59 eq (i : Int)).f0).length : Int) > 20
    · exact ⟨false, by rw [if_pos h]⟩
    · rw [if_neg h]; exact ih (i + 1) k (by omega) (by omega)
theorem Few_spec (n : Int) (eq ge : List S59) (k : Nat) (hk : 300 ≤ k) : ∃ b, furrowlaw15_Few.f k n eq ge = some b ∧ (b = true → eq.length ≤ 70 ∧ ge.length ≤ 70) := by
  obtain ⟨k, rfl⟩ : ∃ m, k = m + 1 := ⟨k - 1, by omega⟩
  unfold furrowlaw15_Few.f
  by_cases h : (eq.length : Int) > 70
  · rw [if_pos h]
    exact ⟨false, by simp only [furrowlaw15_Few.j0]; simp, by simp⟩
  · rw [if_neg h]
    by_cases h2 : (ge.length : Int) > 70
    · rw [decide_eq_true h2]
      exact ⟨false, by simp only [furrowlaw15_Few.j0]; simp, by simp⟩
    · rw [decide_eq_false h2]
      simp only [furrowlaw15_Few.j0]
      rw [if_neg (by simp)]
      obtain ⟨b, hb⟩ := Few_l0 n eq ge (by omega) (by omega) eq.length 0 k (by omega) (by omega)
      exact ⟨b, hb, fun _ => by omega⟩
instance (a : Int) : Decidable (inC a) := by unfold inC; infer_instance
def okR (N : Int) (f : S65) : Prop := (f.f0.length : Int) = N ∧ (∀ c ∈ f.f0, inC c) ∧ inC f.f1
theorem beyond_spec (a : Int) : furrowref20_beyond.f a 1073741824 = some (!decide (inC a)) := by
  unfold furrowref20_beyond.f
  have hw : wrap64 (-1073741824) = -1073741824 := by decide +kernel
  rw [hw]
  by_cases h : a > 1073741824
  · rw [if_pos h, decide_eq_false (by unfold inC; omega)]; rfl
  · rw [if_neg h]
    by_cases h2 : a < -1073741824
    · rw [decide_eq_true h2, decide_eq_false (by unfold inC; omega)]; rfl
    · rw [decide_eq_false h2, decide_eq_true (by unfold inC; omega)]; rfl
theorem Check_l1 (N : Int) (E G L : List S65) (i M : Nat) (hi : i < L.length) (hL : L.length ≤ 1000) (hN : 0 ≤ N ∧ N ≤ 16) (hlen : (L[i].f0.length : Int) = N) (R : Option (List S76 × Int) → Prop)
    (hR : ∀ k', M ≤ k' → (∀ c ∈ L[i].f0, inC c) → R (furrowref20_Check.l0 k' L ((i + 1 : Nat) : Int) N E G)) (hbad : ∀ x, R (some (x, 5))) : ∀ (d j k : Nat) (t : Bool), j + d = L[i].f0.length → M + d < k → (t = false → ∀ c ∈ L[i].f0.take j, inC c) →
    R (furrowref20_Check.l1 k L (i : Int) t (j : Int) N E G) := by
  intro d
  induction d with
  | zero =>
    intro j k t hj hk ht
    obtain ⟨k, rfl⟩ : ∃ m, k = m + 1 := ⟨k - 1, by omega⟩
    simp only [furrowref20_Check.l1]
    rw [if_neg (by omega)]
    cases t with
    | true => simpa [furrowref4_At.f] using hbad _
    | false =>
      rw [if_neg (by simp), w_succ hi (by omega)]
      refine hR k (by omega) ?_
      have := ht rfl
      rwa [List.take_of_length_le (by omega)] at this
  | succ d ih =>
    intro j k t hj hk ht
    obtain ⟨k, rfl⟩ : ∃ m, k = m + 1 := ⟨k - 1, by omega⟩
    have hlt : j < L[i].f0.length := by omega
    simp only [furrowref20_Check.l1]
    rw [if_pos (by omega)]
    cases t with
    | true =>
      rw [if_pos rfl, w_succ (n := L[i].f0.length) hlt (by omega)]
      exact ih (j + 1) k true (by omega) (by omega) (fun h => Bool.noConfusion h)
    | false =>
      rw [if_neg (by simp), if_pos (by omega), if_pos (by omega), if_pos (by omega), rd65_at L i hi, if_pos (by omega), rd_at _ j hlt, beyond_spec, Option.bind_some, w_succ (n := L[i].f0.length) hlt (by omega)]
      refine ih (j + 1) k (!decide (inC L[i].f0[j])) (by omega) (by omega) (fun h c hc => ?_)
      rw [List.take_add_one, List.getElem?_eq_getElem hlt] at hc
      rcases List.mem_append.1 hc with hc | hc
      · exact ht rfl c hc
      · have : c = L[i].f0[j] := by simpa using hc
        subst this
        simpa using h
theorem Check_l0 (N : Int) (E G L : List S65) (hL : L.length ≤ 1000) (hN : 0 ≤ N ∧ N ≤ 16) : ∀ (d i k : Nat), i + d = L.length → 20 * d < k → ∃ r c, furrowref20_Check.l0 k L (i : Int) N E G = some (r, c) ∧ (c = 0 → ∀ f ∈ L.drop i, okR N f) := by
  intro d
  induction d with
  | zero =>
    intro i k hi hk
    obtain ⟨k, rfl⟩ : ∃ m, k = m + 1 := ⟨k - 1, by omega⟩
    refine ⟨[], 0, by simp only [furrowref20_Check.l0]; rw [if_neg (by omega)], fun _ => ?_⟩
    rw [List.drop_eq_nil_of_le (by omega)]
    simp
  | succ d ih =>
    intro i k hi hk
    obtain ⟨k, rfl⟩ : ∃ m, k = m + 1 := ⟨k - 1, by omega⟩
    have hlt : i < L.length := by omega
    have hd : L.drop i = L[i] :: L.drop (i + 1) := List.drop_eq_getElem_cons hlt
    simp only [furrowref20_Check.l0]
    rw [if_pos (by omega), if_pos (by omega), rd65_at L i hlt, hd]
    by_cases hl : (L[i].f0.length : Int) = N
    · rw [if_pos hl, beyond_spec, Option.bind_some]
      have h0 := Check_l1 N E G L i (20 * d + 1) hlt hL hN hl (fun o => ∃ r c, o = some (r, c) ∧ (c = 0 → (∀ c ∈ L[i].f0, inC c) ∧ ∀ f ∈ L.drop (i + 1), okR N f)) (fun k' hk' ha => by
          obtain ⟨r, c, h1, h2⟩ := ih (i + 1) k' (by omega) (by omega)
          exact ⟨r, c, h1, fun h => ⟨ha, h2 h⟩⟩) (fun x => ⟨x, 5, rfl, fun h => by omega⟩) L[i].f0.length 0 k (!decide (inC L[i].f1)) (by omega) (by omega) (fun _ => by simp)
      by_cases hK : inC L[i].f1
      · obtain ⟨r, c, h1, h2⟩ := h0
        exact ⟨r, c, h1, fun hc f hf => by
          rcases List.mem_cons.1 hf with rfl | hf
          · exact ⟨hl, (h2 hc).1, hK⟩
          · exact (h2 hc).2 f hf⟩
      · have hb : ∀ (d j k : Nat), j + d = L[i].f0.length → d < k → ∃ r, furrowref20_Check.l1 k L (i : Int) true (j : Int) N E G = some (r, 5) := by
          intro d
          induction d with
          | zero =>
            intro j k hj hk
            obtain ⟨k, rfl⟩ : ∃ m, k = m + 1 := ⟨k - 1, by omega⟩
            simp only [furrowref20_Check.l1]
            rw [if_neg (by omega)]
            exact ⟨_, rfl⟩
          | succ d ih2 =>
            intro j k hj hk
            obtain ⟨k, rfl⟩ : ∃ m, k = m + 1 := ⟨k - 1, by omega⟩
            simp only [furrowref20_Check.l1]
            rw [if_pos (by omega), if_pos trivial, w_succ (n := L[i].f0.length) (by omega) (by omega)]
            exact ih2 (j + 1) k (by omega) (by omega)
        obtain ⟨r, hr⟩ := hb L[i].f0.length 0 k (by omega) (by omega)
        rw [decide_eq_false hK]
        exact ⟨r, 5, hr, fun h => by omega⟩
    · rw [if_neg hl]
      exact ⟨_, 1, rfl, fun h => by omega⟩
theorem Check_spec (n : Int) (eq ge : List S59) (le : eq.length ≤ 70) (lg : ge.length ≤ 70) (k : Nat) (hk : 5000 ≤ k) : ∃ r c, furrowref20_Check.f k n (eq.map toR) (ge.map toR) = some (r, c) ∧ (c = 0 → (0 ≤ n ∧ n ≤ 16) ∧ (∀ f ∈ eq, okF n.toNat f) ∧ ∀ f ∈ ge, okF n.toNat f) := by
  obtain ⟨k, rfl⟩ : ∃ m, k = m + 1 := ⟨k - 1, by omega⟩
  unfold furrowref20_Check.f
  have hbad : ∃ r c, furrowref20_Check.j0 (k + 1) true n (eq.map toR) (ge.map toR) = some (r, c) ∧ c = 1 := ⟨_, _, rfl, rfl⟩
  by_cases h : n < 0
  · rw [if_pos h]
    obtain ⟨r, c, h1, h2⟩ := hbad
    exact ⟨r, c, h1, fun h => by omega⟩
  · rw [if_neg h]
    by_cases h2 : n > 16
    · rw [decide_eq_true h2]
      obtain ⟨r, c, h1, h2⟩ := hbad
      exact ⟨r, c, h1, fun h => by omega⟩
    · rw [decide_eq_false h2]
      simp only [furrowref20_Check.j0, furrowref20_all.f, Option.bind_some, List.nil_append, List.length_nil, List.length_map]
      rw [if_neg (by simp), if_pos (by omega), if_pos (by omega), Option.bind_some]
      by_cases h3 : (((eq.map toR) ++ (ge.map toR)).length : Int) > 64
      · rw [if_pos h3]
        exact ⟨_, 4, rfl, fun h => by omega⟩
      · rw [if_neg h3]
        obtain ⟨r, c, h4, h5⟩ := Check_l0 n (eq.map toR) (ge.map toR) ((eq.map toR) ++ (ge.map toR)) (by omega) (by omega) _ 0 k (Nat.zero_add _) (by omega)
        refine ⟨r, c, h4, fun hc => ⟨by omega, fun f hf => ?_, fun f hf => ?_⟩⟩
        · have := h5 hc (toR f) (by rw [List.drop_zero]; exact List.mem_append.2 (.inl (List.mem_map.2 ⟨f, hf, rfl⟩)))
          obtain ⟨a1, a2, a3⟩ := this
          have a1 : (f.f0.length : Int) = n := a1
          exact ⟨by omega, a2, a3⟩
        · have := h5 hc (toR f) (by rw [List.drop_zero]; exact List.mem_append.2 (.inr (List.mem_map.2 ⟨f, hf, rfl⟩)))
          obtain ⟨a1, a2, a3⟩ := this
          have a1 : (f.f0.length : Int) = n := a1
          exact ⟨by omega, a2, a3⟩
theorem Good_spec (n : Int) (eq ge : List S59) (k : Nat) (hk : 5000 ≤ k) : ∃ b, furrowlaw15_Good.f k n eq ge = some b ∧ (b = true → eq.length ≤ 70 ∧ ge.length ≤ 70 ∧ (0 ≤ n ∧ n ≤ 16) ∧ (∀ f ∈ eq, okF n.toNat f) ∧ ∀ f ∈ ge, okF n.toNat f) := by
  unfold furrowlaw15_Good.f
  obtain ⟨b, h1, h2⟩ := Few_spec n eq ge k (by omega)
  rw [h1, Option.bind_some]
  cases b with
  | false => exact ⟨false, by simp, by simp⟩
  | true =>
    obtain ⟨le, lg⟩ := h2 rfl
    rw [if_pos rfl, Of_spec n eq ge le lg k (by omega), Option.bind_some]
    obtain ⟨r, c, h3, h4⟩ := Check_spec n eq ge le lg k hk
    simp only []
    rw [h3, Option.bind_some]
    refine ⟨_, rfl, fun h => ?_⟩
    have hc : c = 0 := by simpa using h
    exact ⟨le, lg, h4 hc⟩

end Go.Proofs.YtkkpgjkjkcmcbaaDoor.Pure
