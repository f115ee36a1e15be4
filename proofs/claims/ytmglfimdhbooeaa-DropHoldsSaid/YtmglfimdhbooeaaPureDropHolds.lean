/- DropHolds over numbers and lists alone. -/
import Derived.Test.YtmglfimdhbooeaaPureFm2
import Derived.Test.YtmglfimdhbooeaaPureFm6
import Derived.Test.YtmglfimdhbooeaaXx9
import Derived.Test.YtmglfimdhbooeaaXx6
import Derived.Test.YtmglfimdhbooeaaXx5
import Derived.Test.YtmglfimdhbooeaaXx8
import Derived.Test.YtmglfimdhbooeaaXx7
import Derived.Test.YtmglfimdhbooeaaXx22
import Derived.Test.YtmglfimdhbooeaaXx21
import Derived.Test.YtmglfimdhbooeaaXx28
import Derived.Laws.Bits64
namespace Go.Proofs.Ytmglfimdhbooeaa.Pure
open Go.RowKit Go.Proofs.Ytmglfimdhbooeaa.X Go.Proofs.Ytmglfimdhbooeaa.Flt Go.Proofs.Ytmglfimdhbooeaa.H Go.Proofs.YtmglfimdhbooeaaW.PrintWords Go.Proofs.YtmglfimdhbooeaaW.PrintLast Go.Proofs.YtmglfimdhbooeaaW.PrintMore
set_option linter.unusedVariables false
set_option linter.unusedSimpArgs false
def inP (x : Int) : Prop := -268435456 ≤ x ∧ x ≤ 268435456
theorem mul_in {c x : Int} (hc : inC c) (hx : inP x) : -288230376151711744 ≤ c * x ∧ c * x ≤ 288230376151711744 := by
  have h1 : c.natAbs ≤ 1073741824 := by unfold inC at hc; omega
  have h2 : x.natAbs ≤ 268435456 := by unfold inP at hx; omega
  have h3 : (c * x).natAbs ≤ 1073741824 * 268435456 := by rw [Int.natAbs_mul]; exact Nat.mul_le_mul h1 h2
  omega
def inK (c : Int) : Prop := -4398046511104 ≤ c ∧ c ≤ 4398046511104
def okK (N : Nat) (f : S45) : Prop := f.f0.length = N ∧ (∀ c ∈ f.f0, inC c) ∧ inK f.f1
theorem value_l0 (C p : List Int) (K : Int) (hlen : C.length ≤ p.length) (hC : ∀ c ∈ C, inC c) (hp : ∀ x ∈ p, inP x) (hn : C.length ≤ 16) : ∀ (d i k : Nat) (s : Int), i + d = C.length → d < k → -(4398046511104 + (i : Int) * 288230376151711744) ≤ s → s ≤ 4398046511104 + (i : Int) * 288230376151711744 →
    furrowref20_value.l0 k p s (i : Int) C K = some (s + dot (C.drop i) (p.drop i)) := by
  intro d
  induction d with
  | zero =>
    intro i k s hi hk h1 h2
    obtain ⟨k, rfl⟩ : ∃ m, k = m + 1 := ⟨k - 1, by omega⟩
    simp only [furrowref20_value.l0]
    rw [List.drop_eq_nil_of_le (by omega)]
    have e : ∀ l : List Int, s + dot [] l = s := fun l => by simp [dot]
    rw [e]
    split
    · rw [if_neg (by omega)]
    · rfl
  | succ d ih =>
    intro i k s hi hk h1 h2
    obtain ⟨k, rfl⟩ : ∃ m, k = m + 1 := ⟨k - 1, by omega⟩
    have hlt : i < C.length := by omega
    have hlp : i < p.length := by omega
    have hm := mul_in (hC _ (List.getElem_mem hlt)) (hp _ (List.getElem_mem hlp))
    have hw : wrap64 ((i : Int) + 1) = ((i + 1 : Nat) : Int) := by unfold wrap64; omega
    have hdC : C.drop i = C[i] :: C.drop (i + 1) := List.drop_eq_getElem_cons hlt
    have hdp : p.drop i = p[i] :: p.drop (i + 1) := List.drop_eq_getElem_cons hlp
    simp only [furrowref20_value.l0]
    have hdot : dot (C[i] :: C.drop (i + 1)) (p[i] :: p.drop (i + 1)) = C[i] * p[i] + dot (C.drop (i + 1)) (p.drop (i + 1)) := rfl
    rw [if_pos (by omega), if_pos (by omega), if_pos (by omega), rd_at C i hlt, rd_at p i hlp, hw, hdC, hdp, hdot]
    generalize C[i] * p[i] = q at *
    have hq : wrap64 q = q := by unfold wrap64; omega
    have hs : wrap64 (s + q) = s + q := by unfold wrap64; omega
    rw [hq, hs, ih (i + 1) k (s + q) (by omega) (by omega) (by omega) (by omega), Int.add_assoc]
theorem value_spec (C p : List Int) (K : Int) (hK : inK K) (hlen : C.length ≤ p.length) (hC : ∀ c ∈ C, inC c) (hp : ∀ x ∈ p, inP x) (hn : C.length ≤ 16) (k : Nat) (hk : C.length < k) : furrowref20_value.f k C K p = some (K + dot C p) := by
  unfold inK at hK
  unfold furrowref20_value.f
  have h := value_l0 C p K hlen hC hp hn C.length 0 k K (by omega) hk (by omega) (by omega)
  rw [List.drop_zero, List.drop_zero] at h
  exact h
theorem rd50_at (l : List S50) (i : Nat) (h : i < l.length) : rd_T50 l (i : Int) = l[i] := by
  unfold rd_T50; rw [Int.toNat_natCast, List.getD_eq_getElem?_getD, List.getElem?_eq_getElem h]; rfl
/-- Does all of a system hold at a point. -/
def holdsAll (eq ge : List S45) (p : List Int) : Bool := eq.all (fun f => decide (holdsF 0 f.f0 f.f1 p)) && ge.all (fun f => decide (holdsF 1 f.f0 f.f1 p))
theorem holdsAll_iff {eq ge : List S45} {p : List Int} : holdsAll eq ge p = true ↔ (∀ f ∈ eq, holdsF 0 f.f0 f.f1 p) ∧ ∀ f ∈ ge, holdsF 1 f.f0 f.f1 p := by
  unfold holdsAll
  simp [List.all_eq_true]
def toR (f : S45) : S50 := ⟨f.f0, f.f1⟩
theorem value_ok {N : Nat} {p : List Int} (hN : N ≤ 16) (hp : p.length = N) (hp2 : ∀ x ∈ p, inP x) {k : Nat} (hk : 100 ≤ k) (f : S45) (hf : okK N f) : furrowref20_value.f k (toR f).f0 (toR f).f1 p = some (f.f1 + dot f.f0 p) :=
  value_spec f.f0 p f.f1 hf.2.2 (by rw [hf.1, hp]; omega) hf.2.1 hp2 (by rw [hf.1]; exact hN) k (by rw [hf.1]; omega)
theorem rHolds_l1 {N : Nat} (n : Int) (eq ge : List S45) (p : List Int) (hg : ∀ f ∈ ge, okK N f) (hN : N ≤ 16) (hp : p.length = N) (hp2 : ∀ x ∈ p, inP x) (lg : ge.length ≤ 600) : ∀ (d i k : Nat), i + d = ge.length → 100 + d < k →
    furrowref20_Holds.l1 k p (i : Int) n (eq.map toR) (ge.map toR) = some ((ge.drop i).all fun f => decide (holdsF 1 f.f0 f.f1 p)) := by
  intro d
  induction d with
  | zero =>
    intro i k hi hk
    obtain ⟨k, rfl⟩ : ∃ m, k = m + 1 := ⟨k - 1, by omega⟩
    simp only [furrowref20_Holds.l1, List.length_map]
    rw [if_neg (by omega), List.drop_eq_nil_of_le (by omega)]
    rfl
  | succ d ih =>
    intro i k hi hk
    obtain ⟨k, rfl⟩ : ∃ m, k = m + 1 := ⟨k - 1, by omega⟩
    have hlt : i < ge.length := by omega
    have hd : ge.drop i = ge[i] :: ge.drop (i + 1) := List.drop_eq_getElem_cons hlt
    simp only [furrowref20_Holds.l1, List.length_map]
    rw [if_pos (by omega), if_pos (by omega), rd50_at _ i (by rw [List.length_map]; exact hlt), List.getElem_map, value_ok hN hp hp2 (by omega) _ (hg _ (List.getElem_mem hlt)), Option.bind_some, hd, List.all_cons, w_succ hlt (by omega)]
    unfold holdsF
    by_cases h : ge[i].f1 + dot ge[i].f0 p < 0
    · rw [if_pos h]
      have : ¬ 0 ≤ ge[i].f1 + dot ge[i].f0 p := by omega
      simp [this]
    · rw [if_neg h, ih (i + 1) k (by omega) (by omega)]
      have : 0 ≤ ge[i].f1 + dot ge[i].f0 p := by omega
      simp [this, holdsF]
theorem rHolds_l0 {N : Nat} (n : Int) (eq ge : List S45) (p : List Int) (he : ∀ f ∈ eq, okK N f) (hg : ∀ f ∈ ge, okK N f) (hN : N ≤ 16) (hp : p.length = N) (hp2 : ∀ x ∈ p, inP x) (le : eq.length ≤ 600) (lg : ge.length ≤ 600) : ∀ (d i k : Nat), i + d = eq.length → 800 + d < k →
    furrowref20_Holds.l0 k p (i : Int) n (eq.map toR) (ge.map toR) = some (((eq.drop i).all fun f => decide (holdsF 0 f.f0 f.f1 p)) && ge.all fun f => decide (holdsF 1 f.f0 f.f1 p)) := by
  intro d
  induction d with
  | zero =>
    intro i k hi hk
    obtain ⟨k, rfl⟩ : ∃ m, k = m + 1 := ⟨k - 1, by omega⟩
    simp only [furrowref20_Holds.l0, List.length_map]
    have h := rHolds_l1 n eq ge p hg hN hp hp2 lg ge.length 0 k (by omega) (by omega)
    rw [List.drop_zero] at h
    rw [if_neg (by omega), List.drop_eq_nil_of_le (by omega)]
    simpa using h
  | succ d ih =>
    intro i k hi hk
    obtain ⟨k, rfl⟩ : ∃ m, k = m + 1 := ⟨k - 1, by omega⟩
    have hlt : i < eq.length := by omega
    have hd : eq.drop i = eq[i] :: eq.drop (i + 1) := List.drop_eq_getElem_cons hlt
    simp only [furrowref20_Holds.l0, List.length_map]
    rw [if_pos (by omega), if_pos (by omega), rd50_at _ i (by rw [List.length_map]; exact hlt), List.getElem_map, value_ok hN hp hp2 (by omega) _ (he _ (List.getElem_mem hlt)), Option.bind_some, hd, List.all_cons, w_succ hlt (by omega)]
    by_cases h : eq[i].f1 + dot eq[i].f0 p = 0
    · rw [if_pos h, ih (i + 1) k (by omega) (by omega)]
      simp [h, holdsF]
    · rw [if_neg h]
      simp [h, holdsF]
theorem rHolds_spec {N : Nat} (n : Int) (eq ge : List S45) (p : List Int) (he : ∀ f ∈ eq, okK N f) (hg : ∀ f ∈ ge, okK N f) (hN : N ≤ 16) (hp : p.length = N) (hp2 : ∀ x ∈ p, inP x) (le : eq.length ≤ 600) (lg : ge.length ≤ 600) (k : Nat) (hk : 1500 ≤ k) : furrowref20_Holds.f k n (eq.map toR) (ge.map toR) p = some (holdsAll eq ge p) := by
  unfold furrowref20_Holds.f holdsAll
  have h := rHolds_l0 n eq ge p he hg hN hp hp2 le lg eq.length 0 k (by omega) (by omega)
  rw [List.drop_zero] at h
  exact h
theorem Of_l1 (n m : Int) (eq ge : List S45) (out : List S50) (lg : ge.length ≤ 600) : ∀ (d i k : Nat) (o : List S50), i + d = ge.length → d < k → o.length = i →
    furrowlaw15_Of.l1 k (i : Int) n eq ge m out o = some (m, out, o ++ (ge.drop i).map toR) := by
  intro d
  induction d with
  | zero =>
    intro i k o hi hk ho
    obtain ⟨k, rfl⟩ : ∃ m, k = m + 1 := ⟨k - 1, by omega⟩
    simp only [furrowlaw15_Of.l1]
    rw [if_neg (by omega), List.drop_eq_nil_of_le (by omega)]
    simp
  | succ d ih =>
    intro i k o hi hk ho
    obtain ⟨k, rfl⟩ : ∃ m, k = m + 1 := ⟨k - 1, by omega⟩
    have hlt : i < ge.length := by omega
    have hd : ge.drop i = ge[i] :: ge.drop (i + 1) := List.drop_eq_getElem_cons hlt
    simp only [furrowlaw15_Of.l1, furrowlaw11_Of.f, Option.bind_some]
    rw [if_pos (by omega), if_pos (by omega), if_pos (by omega), rd45_at ge i hlt, w_succ hlt (by omega), ih (i + 1) k _ (by omega) (by omega) (by simp [ho]), hd, List.append_assoc]
    rfl
theorem Of_l0 (n m : Int) (eq ge : List S45) (le : eq.length ≤ 600) (lg : ge.length ≤ 600) : ∀ (d i k : Nat) (o : List S50), i + d = eq.length → d + 700 < k → o.length = i →
    furrowlaw15_Of.l0 k (i : Int) n eq ge m o = some (m, o ++ (eq.drop i).map toR, ge.map toR) := by
  intro d
  induction d with
  | zero =>
    intro i k o hi hk ho
    obtain ⟨k, rfl⟩ : ∃ m, k = m + 1 := ⟨k - 1, by omega⟩
    simp only [furrowlaw15_Of.l0]
    have h := Of_l1 n m eq ge o lg ge.length 0 k [] (by omega) (by omega) rfl
    rw [List.drop_zero] at h
    rw [if_neg (by omega), List.drop_eq_nil_of_le (by omega)]
    simpa using h
  | succ d ih =>
    intro i k o hi hk ho
    obtain ⟨k, rfl⟩ : ∃ m, k = m + 1 := ⟨k - 1, by omega⟩
    have hlt : i < eq.length := by omega
    have hd : eq.drop i = eq[i] :: eq.drop (i + 1) := List.drop_eq_getElem_cons hlt
    simp only [furrowlaw15_Of.l0, furrowlaw11_Of.f, Option.bind_some]
    rw [if_pos (by omega), if_pos (by omega), if_pos (by omega), rd45_at eq i hlt, w_succ hlt (by omega), ih (i + 1) k _ (by omega) (by omega) (by simp [ho]), hd, List.append_assoc]
    rfl
theorem Of_spec (n : Int) (eq ge : List S45) (le : eq.length ≤ 600) (lg : ge.length ≤ 600) (k : Nat) (hk : 1400 ≤ k) : furrowlaw15_Of.f k n eq ge = some (n, eq.map toR, ge.map toR) := by
  unfold furrowlaw15_Of.f
  have h := Of_l0 n n eq ge le lg eq.length 0 k [] (by omega) (by omega) rfl
  rw [List.drop_zero] at h
  simpa using h

/-! systems that may be, and are short -/
def okF (N : Nat) (f : S45) : Prop := f.f0.length = N ∧ (∀ c ∈ f.f0, inC c) ∧ inC f.f1
theorem Few_l1 (n : Int) (eq ge : List S45) (lg : ge.length ≤ 70) : ∀ (d i k : Nat), i + d = ge.length → d < k → ∃ b, furrowlaw15_Few.l1 k (i : Int) n eq ge = some b := by
  intro d
  induction d with
  | zero =>
    intro i k hi hk
    obtain ⟨k, rfl⟩ : ∃ m, k = m + 1 := ⟨k - 1, by omega⟩
    exact ⟨true, by simp only [furrowlaw15_Few.l1]; rw [if_neg (by omega)]⟩
  | succ d ih =>
    intro i k hi hk
    obtain ⟨k, rfl⟩ : ∃ m, k = m + 1 := ⟨k - 1, by omega⟩
    simp only [furrowlaw15_Few.l1]
    rw [if_pos (by omega), if_pos (by omega), w_succ (n := ge.length) (by omega) (by omega)]
    by_cases h : (((rd_T45 ge (i : Int)).f0).length : Int) > 20
    · exact ⟨false, by rw [if_pos h]⟩
    · rw [if_neg h]; exact ih (i + 1) k (by omega) (by omega)
theorem Few_l0 (n : Int) (eq ge : List S45) (le : eq.length ≤ 70) (lg : ge.length ≤ 70) : ∀ (d i k : Nat), i + d = eq.length → 100 + d < k → ∃ b, furrowlaw15_Few.l0 k (i : Int) n eq ge = some b := by
  intro d
  induction d with
  | zero =>
    intro i k hi hk
    obtain ⟨k, rfl⟩ : ∃ m, k = m + 1 := ⟨k - 1, by omega⟩
    simp only [furrowlaw15_Few.l0]
    rw [if_neg (by omega)]
    exact Few_l1 n eq ge lg ge.length 0 k (by omega) (by omega)
  | succ d ih =>
    intro i k hi hk
    obtain ⟨k, rfl⟩ : ∃ m, k = m + 1 := ⟨k - 1, by omega⟩
    simp only [furrowlaw15_Few.l0]
    rw [if_pos (by omega), if_pos (by omega), w_succ (n := eq.length) (by omega) (by omega)]
    by_cases h : (((rd_T45 eq (i : Int)).f0).length : Int) > 20
    · exact ⟨false, by rw [if_pos h]⟩
    · rw [if_neg h]; exact ih (i + 1) k (by omega) (by omega)
theorem Few_spec (n : Int) (eq ge : List S45) (k : Nat) (hk : 300 ≤ k) : ∃ b, furrowlaw15_Few.f k n eq ge = some b ∧ (b = true → eq.length ≤ 70 ∧ ge.length ≤ 70) := by
  obtain ⟨k, rfl⟩ : ∃ m, k = m + 1 := ⟨k - 1, by omega⟩
  unfold furrowlaw15_Few.f
  by_cases h : (eq.length : Int) > 70
  · rw [if_pos h]
    exact ⟨false, by simp only [furrowlaw15_Few.j0]; simp, by simp⟩
  · rw [if_neg h]
    by_cases h2 : (ge.length : Int) > 70
    · rw [decide_eq_true h2]
      exact ⟨false, by simp only [furrowlaw15_Few.j0]; simp, by simp⟩
    · rw [decide_eq_false h2]
      simp only [furrowlaw15_Few.j0]
      rw [if_neg (by simp)]
      obtain ⟨b, hb⟩ := Few_l0 n eq ge (by omega) (by omega) eq.length 0 k (by omega) (by omega)
      exact ⟨b, hb, fun _ => by omega⟩
instance decInC (a : Int) : Decidable (inC a) := by unfold inC; infer_instance
def okR (N : Int) (f : S50) : Prop := (f.f0.length : Int) = N ∧ (∀ c ∈ f.f0, inC c) ∧ inC f.f1
theorem beyond_spec (a : Int) : furrowref20_beyond.f a 1073741824 = some (!decide (inC a)) := by
  unfold furrowref20_beyond.f
  have hw : wrap64 (-1073741824) = -1073741824 := by decide +kernel
  rw [hw]
  by_cases h : a > 1073741824
  · rw [if_pos h, decide_eq_false (by unfold inC; omega)]; rfl
  · rw [if_neg h]
    by_cases h2 : a < -1073741824
    · rw [decide_eq_true h2, decide_eq_false (by unfold inC; omega)]; rfl
    · rw [decide_eq_false h2, decide_eq_true (by unfold inC; omega)]; rfl
theorem Check_l1 (N : Int) (E G L : List S50) (i M : Nat) (hi : i < L.length) (hL : L.length ≤ 1000) (hN : 0 ≤ N ∧ N ≤ 16) (hlen : (L[i].f0.length : Int) = N) (R : Option (List S105 × Int) → Prop)
    (hR : ∀ k', M ≤ k' → (∀ c ∈ L[i].f0, inC c) → R (furrowref20_Check.l0 k' L ((i + 1 : Nat) : Int) N E G)) (hbad : ∀ x, R (some (x, 5))) : ∀ (d j k : Nat) (t : Bool), j + d = L[i].f0.length → M + d < k → (t = false → ∀ c ∈ L[i].f0.take j, inC c) →
    R (furrowref20_Check.l1 k L (i : Int) t (j : Int) N E G) := by
  intro d
  induction d with
  | zero =>
    intro j k t hj hk ht
    obtain ⟨k, rfl⟩ : ∃ m, k = m + 1 := ⟨k - 1, by omega⟩
    simp only [furrowref20_Check.l1]
    rw [if_neg (by omega)]
    cases t with
    | true => simpa [furrowref4_At.f] using hbad _
    | false =>
      rw [if_neg (by simp), w_succ hi (by omega)]
      refine hR k (by omega) ?_
      have := ht rfl
      rwa [List.take_of_length_le (by omega)] at this
  | succ d ih =>
    intro j k t hj hk ht
    obtain ⟨k, rfl⟩ : ∃ m, k = m + 1 := ⟨k - 1, by omega⟩
    have hlt : j < L[i].f0.length := by omega
    simp only [furrowref20_Check.l1]
    rw [if_pos (by omega)]
    cases t with
    | true =>
      rw [if_pos rfl, w_succ (n := L[i].f0.length) hlt (by omega)]
      exact ih (j + 1) k true (by omega) (by omega) (fun h => Bool.noConfusion h)
    | false =>
      rw [if_neg (by simp), if_pos (by omega), if_pos (by omega), if_pos (by omega), rd50_at L i hi, if_pos (by omega), rd_at _ j hlt, beyond_spec, Option.bind_some, w_succ (n := L[i].f0.length) hlt (by omega)]
      refine ih (j + 1) k (!decide (inC L[i].f0[j])) (by omega) (by omega) (fun h c hc => ?_)
      rw [List.take_add_one, List.getElem?_eq_getElem hlt] at hc
      rcases List.mem_append.1 hc with hc | hc
      · exact ht rfl c hc
      · have : c = L[i].f0[j] := by simpa using hc
        subst this
        simpa using h
theorem Check_l0 (N : Int) (E G L : List S50) (hL : L.length ≤ 1000) (hN : 0 ≤ N ∧ N ≤ 16) : ∀ (d i k : Nat), i + d = L.length → 20 * d < k → ∃ r c, furrowref20_Check.l0 k L (i : Int) N E G = some (r, c) ∧ (c = 0 → ∀ f ∈ L.drop i, okR N f) := by
  intro d
  induction d with
  | zero =>
    intro i k hi hk
    obtain ⟨k, rfl⟩ : ∃ m, k = m + 1 := ⟨k - 1, by omega⟩
    refine ⟨[], 0, by simp only [furrowref20_Check.l0]; rw [if_neg (by omega)], fun _ => ?_⟩
    rw [List.drop_eq_nil_of_le (by omega)]
    simp
  | succ d ih =>
    intro i k hi hk
    obtain ⟨k, rfl⟩ : ∃ m, k = m + 1 := ⟨k - 1, by omega⟩
    have hlt : i < L.length := by omega
    have hd : L.drop i = L[i] :: L.drop (i + 1) := List.drop_eq_getElem_cons hlt
    simp only [furrowref20_Check.l0]
    rw [if_pos (by omega), if_pos (by omega), rd50_at L i hlt, hd]
    by_cases hl : (L[i].f0.length : Int) = N
    · rw [if_pos hl, beyond_spec, Option.bind_some]
      have h0 := Check_l1 N E G L i (20 * d + 1) hlt hL hN hl (fun o => ∃ r c, o = some (r, c) ∧ (c = 0 → (∀ c ∈ L[i].f0, inC c) ∧ ∀ f ∈ L.drop (i + 1), okR N f)) (fun k' hk' ha => by
          obtain ⟨r, c, h1, h2⟩ := ih (i + 1) k' (by omega) (by omega)
          exact ⟨r, c, h1, fun h => ⟨ha, h2 h⟩⟩) (fun x => ⟨x, 5, rfl, fun h => by omega⟩) L[i].f0.length 0 k (!decide (inC L[i].f1)) (by omega) (by omega) (fun _ => by simp)
      by_cases hK : inC L[i].f1
      · obtain ⟨r, c, h1, h2⟩ := h0
        exact ⟨r, c, h1, fun hc f hf => by
          rcases List.mem_cons.1 hf with rfl | hf
          · exact ⟨hl, (h2 hc).1, hK⟩
          · exact (h2 hc).2 f hf⟩
      · have hb : ∀ (d j k : Nat), j + d = L[i].f0.length → d < k → ∃ r, furrowref20_Check.l1 k L (i : Int) true (j : Int) N E G = some (r, 5) := by
          intro d
          induction d with
          | zero =>
            intro j k hj hk
            obtain ⟨k, rfl⟩ : ∃ m, k = m + 1 := ⟨k - 1, by omega⟩
            simp only [furrowref20_Check.l1]
            rw [if_neg (by omega)]
            exact ⟨_, rfl⟩
          | succ d ih2 =>
            intro j k hj hk
            obtain ⟨k, rfl⟩ : ∃ m, k = m + 1 := ⟨k - 1, by omega⟩
            simp only [furrowref20_Check.l1]
            rw [if_pos (by omega), if_pos trivial, w_succ (n := L[i].f0.length) (by omega) (by omega)]
            exact ih2 (j + 1) k (by omega) (by omega)
        obtain ⟨r, hr⟩ := hb L[i].f0.length 0 k (by omega) (by omega)
        rw [decide_eq_false hK]
        exact ⟨r, 5, hr, fun h => by omega⟩
    · rw [if_neg hl]
      exact ⟨_, 1, rfl, fun h => by omega⟩
theorem Check_spec (n : Int) (eq ge : List S45) (le : eq.length ≤ 70) (lg : ge.length ≤ 70) (k : Nat) (hk : 5000 ≤ k) : ∃ r c, furrowref20_Check.f k n (eq.map toR) (ge.map toR) = some (r, c) ∧ (c = 0 → (0 ≤ n ∧ n ≤ 16) ∧ (∀ f ∈ eq, okF n.toNat f) ∧ ∀ f ∈ ge, okF n.toNat f) := by
  obtain ⟨k, rfl⟩ : ∃ m, k = m + 1 := ⟨k - 1, by omega⟩
  unfold furrowref20_Check.f
  have hbad : ∃ r c, furrowref20_Check.j0 (k + 1) true n (eq.map toR) (ge.map toR) = some (r, c) ∧ c = 1 := ⟨_, _, rfl, rfl⟩
  by_cases h : n < 0
  · rw [if_pos h]
    obtain ⟨r, c, h1, h2⟩ := hbad
    exact ⟨r, c, h1, fun h => by omega⟩
  · rw [if_neg h]
    by_cases h2 : n > 16
    · rw [decide_eq_true h2]
      obtain ⟨r, c, h1, h2⟩ := hbad
      exact ⟨r, c, h1, fun h => by omega⟩
    · rw [decide_eq_false h2]
      simp only [furrowref20_Check.j0, furrowref20_all.f, Option.bind_some, List.nil_append, List.length_nil, List.length_map]
      rw [if_neg (by simp), if_pos (by omega), if_pos (by omega), Option.bind_some]
      by_cases h3 : (((eq.map toR) ++ (ge.map toR)).length : Int) > 64
      · rw [if_pos h3]
        exact ⟨_, 4, rfl, fun h => by omega⟩
      · rw [if_neg h3]
        obtain ⟨r, c, h4, h5⟩ := Check_l0 n (eq.map toR) (ge.map toR) ((eq.map toR) ++ (ge.map toR)) (by omega) (by omega) _ 0 k (Nat.zero_add _) (by omega)
        refine ⟨r, c, h4, fun hc => ⟨by omega, fun f hf => ?_, fun f hf => ?_⟩⟩
        · have := h5 hc (toR f) (by rw [List.drop_zero]; exact List.mem_append.2 (.inl (List.mem_map.2 ⟨f, hf, rfl⟩)))
          obtain ⟨a1, a2, a3⟩ := this
          have a1 : (f.f0.length : Int) = n := a1
          exact ⟨by omega, a2, a3⟩
        · have := h5 hc (toR f) (by rw [List.drop_zero]; exact List.mem_append.2 (.inr (List.mem_map.2 ⟨f, hf, rfl⟩)))
          obtain ⟨a1, a2, a3⟩ := this
          have a1 : (f.f0.length : Int) = n := a1
          exact ⟨by omega, a2, a3⟩
theorem Good_spec (n : Int) (eq ge : List S45) (k : Nat) (hk : 5000 ≤ k) : ∃ b, furrowlaw15_Good.f k n eq ge = some b ∧ (b = true → eq.length ≤ 70 ∧ ge.length ≤ 70 ∧ (0 ≤ n ∧ n ≤ 16) ∧ (∀ f ∈ eq, okF n.toNat f) ∧ ∀ f ∈ ge, okF n.toNat f) := by
  unfold furrowlaw15_Good.f
  obtain ⟨b, h1, h2⟩ := Few_spec n eq ge k (by omega)
  rw [h1, Option.bind_some]
  cases b with
  | false => exact ⟨false, by simp, by simp⟩
  | true =>
    obtain ⟨le, lg⟩ := h2 rfl
    rw [if_pos rfl, Of_spec n eq ge (by omega) (by omega) k (by omega), Option.bind_some]
    obtain ⟨r, c, h3, h4⟩ := Check_spec n eq ge le lg k hk
    simp only []
    rw [h3, Option.bind_some]
    refine ⟨_, rfl, fun h => ?_⟩
    have hc : c = 0 := by simpa using h
    exact ⟨le, lg, h4 hc⟩

/-! DropHolds -/
theorem u8_of {a : Int} (h : (Lit.int .u8 a).wf = true) : 0 ≤ a ∧ a ≤ 255 := by
  simp [Lit.wf, IntKind.min, IntKind.max, IntKind.signed, IntKind.bits] at h
  omega
theorem i8_of3 {a : Int} (h : (Lit.int .i8 a).wf = true) : -128 ≤ a ∧ a ≤ 127 := by
  simp only [Lit.wf, IntKind.min, IntKind.max, IntKind.signed, IntKind.bits, Bool.and_eq_true, decide_eq_true_eq, if_true] at h
  omega
theorem okF_B {N : Nat} {f : S45} (h : okF N f) : okB N f := ⟨h.1, fun c hc => by have := h.2.1 c hc; unfold inC at this; unfold inB; omega, by have := h.2.2; unfold inC at this; unfold inB; omega⟩
theorem okF_K {N : Nat} {f : S45} (h : okF N f) : okK N f := ⟨h.1, h.2.1, by have := h.2.2; unfold inC at this; unfold inK; omega⟩
/-- Small: numbers up to a thousand, the last one up to 2^30. -/
def smallF (N : Nat) (f : S45) : Prop := f.f0.length = N ∧ (∀ c ∈ f.f0, -1000 ≤ c ∧ c ≤ 1000) ∧ (-1073741824 ≤ f.f1 ∧ f.f1 ≤ 1073741824)
theorem Gs_small {N : Nat} {eq ge : List S45} (he : ∀ f ∈ eq, smallF N f) (hg : ∀ f ∈ ge, smallF N f) {f : S45} (hf : Gs eq ge f) : smallF N f := by
  rcases hf with hf | ⟨e, hm, rfl | ⟨h1, h2⟩⟩
  · exact hg f hf
  · exact he _ hm
  · obtain ⟨a1, a2, a3⟩ := he e hm
    refine ⟨by rw [h1]; simp [a1], fun c hc => ?_, by rw [h2]; omega⟩
    rw [h1] at hc
    obtain ⟨x, hx, rfl⟩ := List.mem_map.1 hc
    have := a2 x hx
    omega
theorem mul_small {x u : Int} {X : Int} (hx : -X ≤ x ∧ x ≤ X) (hu : 0 ≤ u ∧ u ≤ 1000) : -(1000 * X) ≤ x * u ∧ x * u ≤ 1000 * X := by
  have h0 : 0 ≤ X := by omega
  have a : x * u ≤ X * u := Int.mul_le_mul_of_nonneg_right hx.2 hu.1
  have b : -X * u ≤ x * u := Int.mul_le_mul_of_nonneg_right hx.1 hu.1
  have c : X * u ≤ X * 1000 := Int.mul_le_mul_of_nonneg_left hu.2 h0
  rw [Int.neg_mul] at b
  omega
theorem zip_small {A B : List Int} {u v : Int} (hA : ∀ c ∈ A, -1000 ≤ c ∧ c ≤ 1000) (hB : ∀ c ∈ B, -1000 ≤ c ∧ c ≤ 1000) (hu : 0 ≤ u ∧ u ≤ 1000) (hv : 0 ≤ v ∧ v ≤ 1000) : ∀ z ∈ List.zipWith (fun x y => x * u + y * v) A B, inC z := by
  induction A generalizing B with
  | nil => simp
  | cons a A ih =>
    cases B with
    | nil => simp
    | cons b B =>
      intro z hz
      rw [List.zipWith_cons_cons] at hz
      rcases List.mem_cons.1 hz with rfl | hz
      · have h1 := mul_small (X := 1000) (hA a (by simp)) hu
        have h2 := mul_small (X := 1000) (hB b (by simp)) hv
        unfold inC; omega
      · exact ih (fun c hc => hA c (by simp [hc])) (fun c hc => hB c (by simp [hc])) z hz
theorem Rs_K {N : Nat} {i : Int} (h0 : 0 ≤ i) (hi : i < N) {eq ge : List S45} (he : ∀ f ∈ eq, smallF N f) (hg : ∀ f ∈ ge, smallF N f) {f : S45} (hf : Rs N i eq ge f) : okK N f := by
  have sK : ∀ {g : S45}, smallF N g → okK N g := fun h => ⟨h.1, fun c hc => by have := h.2.1 c hc; unfold inC; omega, by have := h.2.2; unfold inK; omega⟩
  rcases hf with ⟨_, _, hg2⟩ | ⟨p, q, hp, hq, gp, gq, sp, sq, hr⟩
  · exact sK (Gs_small he hg hg2)
  · obtain ⟨p1, p2, p3⟩ := Gs_small he hg gp
    obtain ⟨q1, q2, q3⟩ := Gs_small he hg gq
    have hok := row_ok hr p1 q1
    obtain ⟨u, v, u1, v1, u2, v2, e1, e2, _⟩ := hr
    have hu := q2 _ (rd_mem h0 (show i < (q.f0.length : Int) by omega))
    have hv := p2 _ (rd_mem h0 (show i < (p.f0.length : Int) by omega))
    refine ⟨hok.1, by rw [e1]; exact zip_small p2 q2 (by omega) (by omega), ?_⟩
    have h1 := mul_small (X := 1073741824) p3 (show 0 ≤ u ∧ u ≤ 1000 by omega)
    have h2 := mul_small (X := 1073741824) q3 (show 0 ≤ v ∧ v ≤ 1000 by omega)
    rw [e2]; unfold inK; omega
theorem dot_set (v : Int) : ∀ (A y : List Int) (j : Nat), rd A (j : Int) = 0 → dot A (y.set j v) = dot A y
  | [], y, j, _ => by simp [dot]
  | a :: A, [], j, _ => by simp
  | a :: A, x :: y, 0, h => by
    have h : a = 0 := by simpa [rd] using h
    simp [dot, h]
  | a :: A, x :: y, j + 1, h => by
    have ih := dot_set v A y j (by simpa [rd] using h)
    simp [dot, ih]
theorem val_set {f : S45} {y : List Int} {i v : Int} (h0 : 0 ≤ i) (h : rd f.f0 i = 0) : valF f (y.set i.toNat v) = valF f y := by
  unfold valF
  rw [dot_set v f.f0 y i.toNat (by rw [show ((i.toNat : Nat) : Int) = i by omega]; exact h)]
theorem holdsAll_val {eq ge : List S45} {y : List Int} : holdsAll eq ge y = true ↔ SysH eq ge y := by
  rw [holdsAll_iff]
  exact ⟨fun h => ⟨fun f hf => holds0.1 (h.1 f hf), fun f hf => holds1.1 (h.2 f hf)⟩, fun h => ⟨fun f hf => holds0.2 (h.1 f hf), fun f hf => holds1.2 (h.2 f hf)⟩⟩
theorem dh_end {N : Nat} (h1 : 1 ≤ N) (hN : N ≤ 4) {a1 a3 : Int} (w1 : 0 ≤ a1 ∧ a1 ≤ 255) (w3 : -128 ≤ a3 ∧ a3 ≤ 127) (x : List Int) {y : List Int} (hy : y.length = N) (hy2 : ∀ z ∈ y, -128 ≤ z ∧ z ≤ 127) {eq ge : List S45} (oe : ∀ f ∈ eq, okF N f) (og : ∀ f ∈ ge, okF N f) (te : ∀ f ∈ eq, tameF f) (tg : ∀ f ∈ ge, tameF f) (le : eq.length ≤ 70) (lg : ge.length ≤ 70) {i : Int} (hi : ¬ i < (N : Int)) {k : Nat} (hk : 100000000000000000000 ≤ k) :
    furrowlaw16_DropHolds.l0 (k + 1) a1 x a3 y i (N : Int) eq ge = some true := by
  simp only [furrowlaw16_DropHolds.l0]
  have inPy : ∀ z ∈ y, inP z := fun z hz => by have := hy2 z hz; unfold inP; omega
  rw [if_neg hi, Of_spec (N : Int) eq ge (by omega) (by omega) k (by omega), Option.bind_some]
  dsimp only
  rw [rHolds_spec (N := N) (N : Int) eq ge y (fun f hf => okF_K (oe f hf)) (fun f hf => okF_K (og f hf)) (by omega) hy inPy (by omega) (by omega) k (by omega), Option.bind_some]
  by_cases hh : holdsAll eq ge y = true
  · rw [if_pos hh, if_neg (by omega)]
    have hS := holdsAll_val.1 hh
    have wa : wrap64 a1 = a1 := w64 (by omega)
    have hm : Int.tmod a1 (N : Int) = a1 % (N : Int) := Int.tmod_eq_emod_of_nonneg w1.1
    have m0 : 0 ≤ a1 % (N : Int) := Int.emod_nonneg _ (by omega)
    have m1 : a1 % (N : Int) < (N : Int) := Int.emod_lt_of_pos _ (by omega)
    rw [wa, hm]
    generalize a1 % (N : Int) = j at *
    have be : ∀ f ∈ eq, okB N f := fun f hf => okF_B (oe f hf)
    have bg : ∀ f ∈ ge, okB N f := fun f hf => okF_B (og f hf)
    obtain ⟨n', e', g', ok, ho, h2⟩ := drop_spec (n := (N : Int)) (i := j) 73786976294838300000 (by omega) (show N ≤ 16 by omega) m0 m1 m1 be (by omega) bg (by omega) (k := k) (by omega)
    rw [ho, Option.bind_some, never_spec 73786976294838300000 (by omega) (show N ≤ 16 by omega) be bg (by omega) (by omega) hS (by omega), Option.bind_some, if_neg (by simp)]
    dsimp only
    cases ok with
    | false => rw [if_neg (by simp)]
    | true =>
      obtain ⟨rfl, h3, h4, h5, h6⟩ := h2 rfl
      have se : ∀ f ∈ eq, smallF N f := fun f hf => ⟨(oe f hf).1, te f hf, by have := (oe f hf).2.2; unfold inC at this; omega⟩
      have sg : ∀ f ∈ ge, smallF N f := fun f hf => ⟨(og f hf).1, tg f hf, by have := (og f hf).2.2; unfold inC at this; omega⟩
      rw [if_pos rfl, if_pos m0, if_pos (by omega), Of_spec (N : Int) e' g' (by omega) (by omega) k (by omega), Option.bind_some]
      dsimp only
      have inP2 : ∀ z ∈ y.set j.toNat (wrap64 a3), inP z := by
        intro z hz
        rcases List.mem_or_eq_of_mem_set hz with hz | rfl
        · exact inPy z hz
        · rw [w64 (a := a3) (by omega)]; unfold inP; omega
      rw [rHolds_spec (N := N) (N : Int) e' g' (y.set j.toNat (wrap64 a3)) (fun f hf => okF_K (oe f (h3 f hf).1)) (fun f hf => Rs_K m0 m1 se sg (h5 f hf)) (by omega) (by simp [hy]) inP2 (by omega) (by omega) k (by omega), Option.bind_some]
      have hf : holdsAll e' g' (y.set j.toNat (wrap64 a3)) = true := holdsAll_val.2 ⟨fun f hf => by rw [val_set m0 (h3 f hf).2]; exact hS.1 f (h3 f hf).1, fun f hf => by rw [val_set m0 (Rs_rd m0 (h5 f hf))]; exact Rs_val hS (h5 f hf)⟩
      rw [hf]
  · rw [if_neg hh]
theorem dh_l0 {N : Nat} (h1 : 1 ≤ N) (hN : N ≤ 4) {a1 a3 : Int} (w1 : 0 ≤ a1 ∧ a1 ≤ 255) (w3 : -128 ≤ a3 ∧ a3 ≤ 127) (x : List Int) (hx : N ≤ x.length) (hx2 : ∀ z ∈ x, -128 ≤ z ∧ z ≤ 127) {eq ge : List S45} (oe : ∀ f ∈ eq, okF N f) (og : ∀ f ∈ ge, okF N f) (te : ∀ f ∈ eq, tameF f) (tg : ∀ f ∈ ge, tameF f) (le : eq.length ≤ 70) (lg : ge.length ≤ 70) :
    ∀ (d i k : Nat), i + d = N → 100000000000000000000 + d < k → furrowlaw16_DropHolds.l0 k a1 x a3 (x.take i) (i : Int) (N : Int) eq ge = some true := by
  intro d
  induction d with
  | zero =>
    intro i k hi hk
    obtain ⟨k, rfl⟩ : ∃ m, k = m + 1 := ⟨k - 1, by omega⟩
    exact dh_end h1 hN w1 w3 x (by rw [List.length_take]; omega) (fun z hz => hx2 z (List.mem_of_mem_take hz)) oe og te tg le lg (by omega) (by omega)
  | succ d ih =>
    intro i k hi hk
    obtain ⟨k, rfl⟩ : ∃ m, k = m + 1 := ⟨k - 1, by omega⟩
    have hlt : i < x.length := by omega
    have hz := hx2 _ (List.getElem_mem hlt)
    simp only [furrowlaw16_DropHolds.l0]
    rw [if_pos (by omega), if_pos (by omega), if_pos (by omega), if_pos (by rw [List.length_take]; omega), rd_at x i hlt, w64 (a := x[i]) (by omega), ws i (by omega), ← List.take_succ_eq_append_getElem hlt]
    exact ih (i + 1) k (by omega) (by omega)
theorem dropholds_true {n : Int} {eq ge : List S45} {a1 a3 : Int} {x : List Int} (w1 : 0 ≤ a1 ∧ a1 ≤ 255) (w3 : -128 ≤ a3 ∧ a3 ≤ 127) (hx2 : ∀ z ∈ x, -128 ≤ z ∧ z ≤ 127) : furrowlaw16_DropHolds.f 100000000000000000100 n eq ge a1 x a3 = some true := by
  generalize hK : (100000000000000000100 : Nat) = k
  have hk : 100000000000000000100 ≤ k := by omega
  clear hK
  have jt : furrowlaw16_DropHolds.j0 k a1 x a3 true n eq ge = some true := by
    obtain ⟨k, rfl⟩ : ∃ m, k = m + 1 := ⟨k - 1, by omega⟩
    rw [furrowlaw16_DropHolds.j0, if_pos rfl]
  unfold furrowlaw16_DropHolds.f
  rw [known16_more (by omega), Option.bind_some, if_pos rfl]
  obtain ⟨b, hb, hb2⟩ := Good_spec n eq ge k (by omega)
  unfold furrowlaw16_few.f
  rw [hb, Option.bind_some]
  cases b with
  | false => rw [if_neg (by simp), Option.bind_some, if_neg (by simp)]; exact jt
  | true =>
    obtain ⟨le, lg, hn, oe, og⟩ := hb2 rfl
    rw [if_pos rfl]
    by_cases c1 : n ≤ 4
    · rw [if_pos c1]
      by_cases c2 : (ge.length : Int) ≤ 12
      · rw [if_pos c2, Option.bind_some]
        by_cases c3 : (eq.length : Int) ≤ 4
        · rw [decide_eq_true c3, if_pos rfl]
          obtain ⟨N, rfl⟩ : ∃ N : Nat, n = (N : Int) := ⟨n.toNat, by omega⟩
          rw [Int.toNat_natCast] at oe og
          obtain ⟨b, t1, t2⟩ := tame_spec ge (fun f hf => by rw [(og f hf).1]; omega) (by omega) (k := k) (by omega)
          rw [t1, Option.bind_some]
          cases b with
          | false => rw [if_neg (by simp)]; exact jt
          | true =>
            rw [if_pos rfl]
            obtain ⟨b, s1, s2⟩ := tame_spec eq (fun f hf => by rw [(oe f hf).1]; omega) (by omega) (k := k) (by omega)
            rw [s1, Option.bind_some]
            cases b with
            | false => rw [if_neg (by simp)]; exact jt
            | true =>
              rw [if_pos rfl]
              by_cases c4 : (x.length : Int) < (N : Int)
              · rw [if_pos c4]; exact jt
              · rw [if_neg c4]
                by_cases c5 : (N : Int) < 1
                · rw [decide_eq_true c5]; exact jt
                · rw [decide_eq_false c5]
                  obtain ⟨k, rfl⟩ : ∃ m, k = m + 1 := ⟨k - 1, by omega⟩
                  rw [furrowlaw16_DropHolds.j0, if_neg (by simp)]
                  exact dh_l0 (by omega) (by omega) w1 w3 x (by omega) hx2 oe og (s2 rfl) (t2 rfl) le lg N 0 k (by omega) (by omega)
        · rw [decide_eq_false c3, if_neg (by simp)]; exact jt
      · rw [if_neg c2, Option.bind_some, if_neg (by simp)]; exact jt
    · rw [if_neg c1, Option.bind_some, if_neg (by simp)]; exact jt

end Go.Proofs.Ytmglfimdhbooeaa.Pure
