/- Plain lemmas: what holds a system holds it without a variable; small numbers. -/
import Derived.Test.YtmglfimdhbooeaaPureFm5
import Derived.Test.YtmglfimdhbooeaaXx26
import Derived.Test.YtmglfimdhbooeaaXx21
import Derived.Laws.Bits64
namespace Go.Proofs.Ytmglfimdhbooeaa.Pure
open Go.RowKit Go.Proofs.Ytmglfimdhbooeaa.X Go.Proofs.Ytmglfimdhbooeaa.Flt Go.Proofs.Ytmglfimdhbooeaa.H Go.Proofs.YtmglfimdhbooeaaW.PrintWords Go.Proofs.YtmglfimdhbooeaaW.PrintLast Go.Proofs.YtmglfimdhbooeaaW.PrintMore
set_option linter.unusedVariables false
set_option linter.unusedSimpArgs false
/-! what holds a system holds it without a variable; it is never known not to hold -/
def SysH (eq ge : List S45) (y : List Int) : Prop := (∀ f ∈ eq, valF f y = 0) ∧ ∀ f ∈ ge, 0 ≤ valF f y
theorem dot_neg : ∀ (A y : List Int), dot (A.map (fun z => z * (-1))) y = -(dot A y)
  | [], y => by simp [dot]
  | a :: A, [] => by simp [dot]
  | a :: A, x :: y => by
    have ih := dot_neg A y
    simp only [List.map_cons, dot, ih]
    rw [Int.mul_neg, Int.mul_one, Int.neg_mul]; omega
theorem Gs_val {eq ge : List S45} {y : List Int} (h : SysH eq ge y) {f : S45} (hf : Gs eq ge f) : 0 ≤ valF f y := by
  rcases hf with hf | ⟨e, he, rfl | ⟨h1, h2⟩⟩
  · exact h.2 f hf
  · have := h.1 f he; omega
  · have := h.1 e he
    unfold valF at this ⊢
    rw [h1, h2, dot_neg]; omega
theorem Rs_val {N : Nat} {i : Int} {eq ge : List S45} {y : List Int} (h : SysH eq ge y) {f : S45} (hf : Rs N i eq ge f) : 0 ≤ valF f y := by
  rcases hf with ⟨_, _, hg⟩ | ⟨p, q, hp, hq, gp, gq, _, _, hr⟩
  · exact Gs_val h hg
  · exact row_val hr (by rw [hp.1, hq.1]) y (Gs_val h gp) (Gs_val h gq)
theorem Rs_ok {N : Nat} {i : Int} {eq ge : List S45} {f : S45} (hf : Rs N i eq ge f) : okB N f := by
  rcases hf with ⟨h, _, _⟩ | ⟨p, q, hp, hq, _, _, _, _, hr⟩
  · exact h
  · exact row_ok hr hp.1 hq.1
theorem Rs_rd {N : Nat} {i : Int} (h0 : 0 ≤ i) {eq ge : List S45} {f : S45} (hf : Rs N i eq ge f) : rd f.f0 i = 0 := by
  rcases hf with ⟨_, h, _⟩ | ⟨p, q, hp, hq, _, _, _, _, hr⟩
  · exact h
  · exact row_rd hr (by rw [hp.1, hq.1]) h0
theorem holds0 {f : S45} {y : List Int} : holdsF 0 f.f0 f.f1 y ↔ valF f y = 0 := by unfold holdsF valF; simp
theorem holds1 {f : S45} {y : List Int} : holdsF 1 f.f0 f.f1 y ↔ 0 ≤ valF f y := by unfold holdsF valF; simp
theorem never_l0 (B : Nat) (hB : 73786976294838300000 ≤ B) {N : Nat} (hN : N ≤ 16) (y : List Int) : ∀ (d i k : Nat) (eq ge : List S45), i + d = N + 1 → B + 60000000 + d < k → (∀ f ∈ eq, okB N f) → (∀ f ∈ ge, okB N f) → eq.length ≤ 600 → ge.length ≤ 600 → SysH eq ge y →
    fm_Never.l0 k ((N + 1 : Nat) : Int) (i : Int) (N : Int) eq ge = some false := by
  intro d
  induction d with
  | zero =>
    intro i k eq ge hi hk he hg le lg hh
    obtain ⟨k, rfl⟩ : ∃ m, k = m + 1 := ⟨k - 1, by omega⟩
    simp only [fm_Never.l0]
    rw [if_neg (by omega)]
  | succ d ih =>
    intro i k eq ge hi hk he hg le lg hh
    obtain ⟨k, rfl⟩ : ∃ m, k = m + 1 := ⟨k - 1, by omega⟩
    simp only [fm_Never.l0]
    rw [if_pos (by omega), Tight_spec (N : Int) eq ge he hg hN le lg k (by omega), Option.bind_some]
    obtain ⟨a, ha, ha2⟩ := (rowsS_holds (kind := 0) (.inl rfl) y eq).1 (fun f hf => holds0.2 (hh.1 f hf))
    obtain ⟨b, hb, hb2⟩ := (rowsS_holds (kind := 1) (.inr rfl) y ge).1 (fun f hf => holds1.2 (hh.2 f hf))
    have hT : tightS (N : Int) eq ge = ((N : Int), a, b, true) := by unfold tightS; rw [ha, hb]
    obtain ⟨oa, la⟩ := rowsS_ok eq a he ha
    obtain ⟨ob, lb⟩ := rowsS_ok ge b hg hb
    have hh2 : SysH a b y := ⟨fun f hf => holds0.1 (ha2 f hf), fun f hf => holds1.1 (hb2 f hf)⟩
    rw [hT, if_pos rfl]
    dsimp only
    by_cases c : i < N
    · obtain ⟨n', e', g', ok, ho, h2⟩ := drop_spec (n := (N : Int)) (i := (i : Int)) B hB hN (by omega) (by omega) (by omega) oa (by omega) ob (by omega) (k := k) (by omega)
      rw [ho, Option.bind_some]
      dsimp only
      cases ok with
      | false => rw [if_neg (by simp)]
      | true =>
        obtain ⟨rfl, h3, h4, h5, h6⟩ := h2 rfl
        rw [if_pos rfl, ws i (by omega)]
        exact ih (i + 1) k e' g' (by omega) (by omega) (fun f hf => oa f (h3 f hf).1) (fun f hf => Rs_ok (h5 f hf)) (by omega) (by omega) ⟨fun f hf => hh2.1 f (h3 f hf).1, fun f hf => Rs_val hh2 (h5 f hf)⟩
    · have hd : fm_Drop.f k (N : Int) a b (i : Int) = some ((N : Int), a, b, true) := by
        obtain ⟨k, rfl⟩ : ∃ m, k = m + 1 := ⟨k - 1, by omega⟩
        unfold fm_Drop.f
        rw [if_neg (by omega), decide_eq_true (by omega), fm_Drop.j0, if_pos rfl]
      rw [hd, Option.bind_some, if_pos rfl, ws i (by omega)]
      exact ih (i + 1) k a b (by omega) (by omega) oa ob (by omega) (by omega) hh2
theorem never_spec (B : Nat) (hB : 73786976294838300000 ≤ B) {N : Nat} (hN : N ≤ 16) {y : List Int} {eq ge : List S45} (he : ∀ f ∈ eq, okB N f) (hg : ∀ f ∈ ge, okB N f) (le : eq.length ≤ 600) (lg : ge.length ≤ 600) (hh : SysH eq ge y) {k : Nat} (hk : B + 70000000 ≤ k) : fm_Never.f k (N : Int) eq ge = some false := by
  unfold fm_Never.f
  rw [ws N (by omega)]
  exact never_l0 B hB hN y (N + 1) 0 k eq ge (by omega) (by omega) he hg le lg hh
/-! small numbers -/
def tameF (f : S45) : Prop := ∀ c ∈ f.f0, -1000 ≤ c ∧ c ≤ 1000
theorem tame_l1 (l : List S45) (j : Nat) (hj : j < l.length) (lj : l[j].f0.length ≤ 16) (ll : l.length ≤ 600) (M : Nat) (Q : Prop) (hc : ∀ k', M ≤ k' → ∃ b, furrowlaw16_tame.l0 k' l (wrap64 ((j : Int) + 1)) = some b ∧ (b = true → Q)) :
    ∀ (d i k : Nat), i + d = l[j].f0.length → M + d < k → ∃ b, furrowlaw16_tame.l1 k l (j : Int) (i : Int) = some b ∧ (b = true → Q ∧ ∀ c ∈ l[j].f0.drop i, -1000 ≤ c ∧ c ≤ 1000) := by
  intro d
  induction d with
  | zero =>
    intro i k hi hk
    obtain ⟨k, rfl⟩ : ∃ m, k = m + 1 := ⟨k - 1, by omega⟩
    simp only [furrowlaw16_tame.l1]
    rw [if_pos (by omega), if_pos (by omega), rd45_at l j hj, if_neg (by omega)]
    obtain ⟨b, h1, h2⟩ := hc k (by omega)
    exact ⟨b, h1, fun h => ⟨h2 h, by rw [List.drop_of_length_le (by omega)]; intro c hc; cases hc⟩⟩
  | succ d ih =>
    intro i k hi hk
    obtain ⟨k, rfl⟩ : ∃ m, k = m + 1 := ⟨k - 1, by omega⟩
    have hlt : i < l[j].f0.length := by omega
    simp only [furrowlaw16_tame.l1]
    rw [if_pos (by omega), if_pos (by omega), rd45_at l j hj, if_pos (by omega), if_pos (by omega), rd_at _ i hlt, ws i (by omega)]
    by_cases c1 : l[j].f0[i] > 1000
    · rw [if_pos c1]; exact ⟨false, rfl, fun h => by cases h⟩
    · rw [if_neg c1]
      by_cases c2 : l[j].f0[i] < -1000
      · rw [if_pos c2]; exact ⟨false, rfl, fun h => by cases h⟩
      · rw [if_neg c2]
        obtain ⟨b, h1, h2⟩ := ih (i + 1) k (by omega) (by omega)
        refine ⟨b, h1, fun h => ⟨(h2 h).1, ?_⟩⟩
        rw [List.drop_eq_getElem_cons hlt]
        intro c hc
        rcases List.mem_cons.1 hc with rfl | hc
        · omega
        · exact (h2 h).2 c hc
theorem tame_l0 (l : List S45) (hl : ∀ f ∈ l, f.f0.length ≤ 16) (ll : l.length ≤ 600) : ∀ (d j k : Nat), j + d = l.length → 20 * d < k → ∃ b, furrowlaw16_tame.l0 k l (j : Int) = some b ∧ (b = true → ∀ f ∈ l.drop j, tameF f) := by
  intro d
  induction d with
  | zero =>
    intro j k hj hk
    obtain ⟨k, rfl⟩ : ∃ m, k = m + 1 := ⟨k - 1, by omega⟩
    simp only [furrowlaw16_tame.l0]
    rw [if_neg (by omega), List.drop_of_length_le (by omega)]
    exact ⟨true, rfl, fun _ f hf => by cases hf⟩
  | succ d ih =>
    intro j k hj hk
    obtain ⟨k, rfl⟩ : ∃ m, k = m + 1 := ⟨k - 1, by omega⟩
    have hlt : j < l.length := by omega
    have hm := hl _ (List.getElem_mem hlt)
    simp only [furrowlaw16_tame.l0]
    rw [if_pos (by omega)]
    obtain ⟨b, h1, h2⟩ := tame_l1 l j hlt hm ll (20 * d + 1) (∀ f ∈ l.drop (j + 1), tameF f) (fun k' hk' => by rw [ws j (by omega)]; exact ih (j + 1) k' (by omega) (by omega)) l[j].f0.length 0 k (by omega) (by omega)
    refine ⟨b, h1, fun h => ?_⟩
    rw [List.drop_eq_getElem_cons hlt]
    intro f hf
    rcases List.mem_cons.1 hf with rfl | hf
    · have := (h2 h).2; rw [List.drop_zero] at this; exact this
    · exact (h2 h).1 f hf
theorem tame_spec (l : List S45) (hl : ∀ f ∈ l, f.f0.length ≤ 16) (ll : l.length ≤ 600) {k : Nat} (hk : 20000 ≤ k) : ∃ b, furrowlaw16_tame.f k l = some b ∧ (b = true → ∀ f ∈ l, tameF f) := by
  unfold furrowlaw16_tame.f
  obtain ⟨b, h1, h2⟩ := tame_l0 l hl ll l.length 0 k (by omega) (by omega)
  exact ⟨b, h1, fun h f hf => h2 h f (by rwa [List.drop_zero])⟩

end Go.Proofs.Ytmglfimdhbooeaa.Pure
