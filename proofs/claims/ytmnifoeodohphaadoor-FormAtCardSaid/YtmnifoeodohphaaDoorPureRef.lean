/- Plain lemmas on the reference forms. -/
import Derived.Test.YtmnifoeodohphaaDoorPureLin
import Derived.Test.YtmnifoeodohphaaDoorXx7
import Derived.Test.YtmnifoeodohphaaDoorXx6
import Derived.Test.YtmnifoeodohphaaDoorHandE
import Derived.Laws.Bits64
namespace Go.Proofs.YtmnifoeodohphaaDoor.Pure
open Go.RowKit Go.Proofs.YtmnifoeodohphaaDoor.X Go.Proofs.YtmnifoeodohphaaDoor.Flt Go.Proofs.YtmnifoeodohphaaDoor.H Go.Proofs.YtmnifoeodohphaaDoorW.PrintWords Go.Proofs.YtmnifoeodohphaaDoorW.PrintLast Go.Proofs.YtmnifoeodohphaaDoorW.PrintMore
set_option linter.unusedVariables false
set_option linter.unusedSimpArgs false
theorem radd_spec {a b : Int} (ha : inR a) (hb : inR b) : furrowref4_Add.f a b = some (chk (a + b)) := by
  unfold furrowref4_Add.f
  have hd : inR (a + b) ∧ wrap64 (a + b) = a + b ∨ ¬ inR (a + b) ∧ (0 < b ∧ wrap64 (a + b) = a + b - 18446744073709551616 ∨ b < 0 ∧ wrap64 (a + b) = a + b + 18446744073709551616) := by unfold wrap64 inR at *; omega
  rcases hd with ⟨hr, e⟩ | ⟨hr, ⟨hb0, e⟩ | ⟨hb0, e⟩⟩
  · rw [chk_yes hr, e]; unfold inR at *
    repeat' split
    all_goals first | rfl | (exfalso; omega)
  all_goals
    rw [chk_no hr, e]; unfold inR at *
    repeat' split
    all_goals first | rfl | (exfalso; omega)
theorem tdiv_in {c b : Int} (hc : inR c) : Int.natAbs (c.tdiv b) ≤ 9223372036854775808 := by
  rw [Int.natAbs_tdiv]; exact Nat.le_trans (Nat.div_le_self _ _) (by unfold inR at hc; omega)
theorem rmul1 {k : Nat} {a b : Int} (ha : inR a) (hb : inR b) (h0 : b ≠ 0) (hx : ¬ (a = -9223372036854775808 ∧ b = -1)) (hy : ¬ (b = -9223372036854775808 ∧ a = -1)) :
    furrowref4_Mul.j1 (k + 1) a b false = some (chk (a * b)) := by
  simp only [furrowref4_Mul.j1]
  rw [if_neg (by simp), if_neg h0]
  by_cases hr : inR (a * b)
  · rw [chk_yes hr, w64 hr, Int.mul_tdiv_cancel _ h0, if_pos (w64 ha)]
  · rw [chk_no hr, if_neg]
    intro e
    have hc : inR (wrap64 (a * b)) := by unfold inR wrap64; omega
    have hm : ∃ m : Int, a * b = wrap64 (a * b) + m * 18446744073709551616 ∧ m ≠ 0 := by
      refine ⟨(a * b - wrap64 (a * b)) / 18446744073709551616, ?_, ?_⟩
      · unfold wrap64; omega
      · intro e0; apply hr; unfold inR wrap64 at *; omega
    obtain ⟨m, e1, hm⟩ := hm
    have e2 := Int.mul_tdiv_add_tmod (wrap64 (a * b)) b
    have e3 : (Int.tmod (wrap64 (a * b)) b).natAbs < b.natAbs := by
      rw [Int.natAbs_tmod]; exact Nat.mod_lt _ (by omega)
    have e4 := @tdiv_in (wrap64 (a * b)) b hc
    have e5 : (wrap64 (a * b)).tdiv b = a := by
      by_cases h9 : (wrap64 (a * b)).tdiv b = 9223372036854775808
      · exfalso
        rw [h9] at e
        have ha' : a = -9223372036854775808 := by rw [← e]; unfold wrap64; omega
        rw [h9] at e2
        apply hx
        refine ⟨ha', ?_⟩
        unfold inR at *
        omega
      · exact (w64 (by omega)).symm.trans e
    rw [e5, Int.mul_comm b a] at e2
    unfold inR at *
    omega
theorem rmul_spec {k : Nat} {a b : Int} (hk : 2 ≤ k) (ha : inR a) (hb : inR b) : furrowref4_Mul.f k a b = some (chk (a * b)) := by
  obtain ⟨k, rfl⟩ : ∃ m, k = m + 2 := ⟨k - 2, by omega⟩
  unfold furrowref4_Mul.f
  by_cases h0 : a = 0
  · subst h0; rw [if_pos rfl, Int.zero_mul]; simp only [furrowref4_Mul.j0, if_true]; rfl
  · rw [if_neg h0]
    by_cases h1 : b = 0
    · subst h1; simp only [Int.mul_zero, furrowref4_Mul.j0]; rfl
    · have h1' : (b == 0) = false := by simpa using h1
      rw [h1']; simp only [furrowref4_Mul.j0]; rw [if_neg (by simp)]
      by_cases h2 : a = -1
      · rw [if_pos h2]
        by_cases h3 : b = -9223372036854775808
        · rw [if_pos h3]; subst h2 h3; rfl
        · rw [if_neg h3, rmul1 ha hb h1 (by omega) (by omega)]
          have h4 : (a == -9223372036854775808) = false := by subst h2; rfl
          rw [h4, rmul1 ha hb h1 (by omega) (by omega)]; split <;> rfl
      · rw [if_neg h2]
        by_cases h3 : b = -1
        · rw [if_pos h3]
          by_cases h4 : a = -9223372036854775808
          · subst h3 h4; rfl
          · rw [show (a == -9223372036854775808) = false by simpa using h4]
            exact rmul1 ha hb h1 (by omega) (by omega)
        · rw [if_neg h3]; exact rmul1 ha hb h1 (by omega) (by omega)

/-! the document's forms at points -/
def refE (c : Int) : List S86 × Int := ([⟨⟨#[102, 111, 114, 109]⟩, 0⟩], c)
theorem over_eq : furrowref14_over.f = some (refE 5) := rfl
theorem unlike_eq : furrowref14_unlike.f = some (refE 1) := rfl
def errR (f : List Flt) : List S86 × Int := if f.isEmpty = true then ([], 0) else refE 5
theorem errR_nil : errR [] = ([], 0) := rfl
theorem errR_flt (c : Int) : errR (fltE c) = refE 5 := rfl
theorem rat_l {l x : List Int} {K : Int} (hx : l.length = x.length) (hl : ∀ z ∈ l, inR z) (hxx : ∀ z ∈ x, inR z) (hK : inR K) (hlen : l.length < 9223372036854775807) (d : Nat) :
    ∀ (k : Nat) (i s : Int), 0 ≤ i → (l.length : Int) - i = d → d + 2 < k → inR s → furrowref14_At.l0 k x s i l K = some ((atS (l.drop i.toNat) (x.drop i.toNat) s K).1, errR (atS (l.drop i.toNat) (x.drop i.toNat) s K).2) := by
  induction d with
  | zero =>
    intro k i s h0 hd hk hs
    obtain ⟨k, rfl⟩ : ∃ m, k = m + 1 := ⟨k - 1, by omega⟩
    rw [furrowref14_At.l0, if_neg (by omega), radd_spec hs hK, drop_end (by omega), drop_end (by omega)]
    simp only [Option.bind_some, atS]
    by_cases h : inR (s + K)
    · rw [chk_yes h, if_pos h]; rfl
    · rw [chk_no h, if_neg h, over_eq]; rfl
  | succ d ih =>
    intro k i s h0 hd hk hs
    obtain ⟨k, rfl⟩ : ∃ m, k = m + 1 := ⟨k - 1, by omega⟩
    have hi : i < (l.length : Int) := by omega
    have hi' : i < (x.length : Int) := by omega
    rw [furrowref14_At.l0, if_pos hi', if_pos h0, if_pos hi, rmul_spec (by omega) (hl _ (rd_mem h0 hi)) (hxx _ (rd_mem h0 hi')), rd_drop h0 hi, rd_drop h0 hi']
    simp only [Option.bind_some, atS]
    by_cases h : inR (rd l i * rd x i)
    · rw [chk_yes h, if_pos h, if_pos rfl, radd_spec hs h]
      simp only [Option.bind_some]
      by_cases h2 : inR (s + rd l i * rd x i)
      · rw [chk_yes h2, if_pos h2, if_pos rfl, w64 (by omega)]
        exact ih k (i + 1) _ (by omega) (by omega) (by omega) h2
      · rw [chk_no h2, if_neg h2, over_eq]; rfl
    · rw [chk_no h, if_neg h, over_eq]; rfl
theorem rat_spec {l x : List Int} {K : Int} {k : Nat} (hx : l.length = x.length) (hl : ∀ z ∈ l, inR z) (hxx : ∀ z ∈ x, inR z) (hK : inR K) (hlen : l.length < 9223372036854775807) (hk : l.length + 2 < k) :
    furrowref14_At.f k l K x = some ((atS l x 0 K).1, errR (atS l x 0 K).2) := by
  unfold furrowref14_At.f
  rw [if_pos (by omega), rat_l hx hl hxx hK hlen l.length k 0 0 (by omega) (by omega) hk (by unfold inR; omega)]
  rfl
theorem rat_no {l x : List Int} {K : Int} {k : Nat} (hx : l.length ≠ x.length) : furrowref14_At.f k l K x = some (0, refE 1) := by
  unfold furrowref14_At.f
  rw [if_neg (by omega), unlike_eq]; rfl
/-- what a form comes to is told, or 0 beside the one error -/
theorem atS_two : ∀ (l x : List Int) (s K : Int), (atS l x s K).2 = [] ∨ atS l x s K = (0, fltE 5)
  | [], _, s, K => by simp only [atS]; split <;> simp
  | _ :: _, [], s, K => by simp only [atS]; split <;> simp
  | c :: l, x :: xs, s, K => by
    simp only [atS]
    split
    · split
      · exact atS_two l xs _ K
      · simp
    · simp
def endR (l : List Int) (K : Int) (x y : List Int) : Int × Int × List S86 × Int := ((endS l K x y).1, (endS l K x y).2.1, errR (endS l K x y).2.2)
theorem rrange_l1 {l lo hi : List Int} {K : Int} (h1 : l.length = lo.length) (h2 : l.length = hi.length) (hl : ∀ z ∈ l, inR z) (hlo : ∀ z ∈ lo, inR z) (hhi : ∀ z ∈ hi, inR z) (hK : inR K) (hlen : l.length < 17592186044416) (d : Nat) :
    ∀ (k : Nat) (i : Int) (p q : List Int), 0 ≤ i → (l.length : Int) - i = d → d + l.length + 3 < k → p ++ lows (l.drop i.toNat) (lo.drop i.toNat) (hi.drop i.toNat) = lows l lo hi → q ++ highs (l.drop i.toNat) (lo.drop i.toNat) (hi.drop i.toNat) = highs l lo hi → (p.length : Int) = i → (q.length : Int) = i →
      furrowref14_Range.l1 k lo hi p q i l K = some (endR l K (lows l lo hi) (highs l lo hi)) := by
  induction d with
  | zero =>
    intro k i p q h0 hd hk hp hq hpl hql
    obtain ⟨k, rfl⟩ : ∃ m, k = m + 1 := ⟨k - 1, by omega⟩
    have e0 : l.drop i.toNat = [] := drop_end (by omega)
    rw [e0] at hp hq
    simp only [lows, highs, List.append_nil] at hp hq
    subst hp hq
    rw [furrowref14_Range.l1, if_neg (by omega), rat_spec (lows_length h1 h2).symm hl (lows_in hlo hhi) hK (by omega) (by omega)]
    simp only [Option.bind_some]
    rw [rat_spec (highs_length h1 h2).symm hl (highs_in hlo hhi) hK (by omega) (by omega)]
    simp only [Option.bind_some, endR, endS]
    rcases atS_two l (lows l lo hi) 0 K with e | e
    · rcases atS_two l (highs l lo hi) 0 K with e' | e'
      · rw [e, e']; rfl
      · rw [e, e']; rfl
    · rw [e]; rfl
  | succ d ih =>
    intro k i p q h0 hd hk hp hq hpl hql
    obtain ⟨k, rfl⟩ : ∃ m, k = m + 1 := ⟨k - 1, by omega⟩
    have a1 : i < (l.length : Int) := by omega
    have a2 : i < (lo.length : Int) := by omega
    have a3 : i < (hi.length : Int) := by omega
    rw [rd_drop h0 a1, rd_drop h0 a2, rd_drop h0 a3] at hp hq
    simp only [lows, highs] at hp hq
    have z1 : p.length < 17592186044416 := by omega
    have z2 : q.length < 17592186044416 := by omega
    rw [furrowref14_Range.l1, if_pos a2, if_pos h0, if_pos a3, if_pos a1, w64 (by omega)]
    by_cases hc : rd l i < 0
    · rw [if_pos hc] at hp hq ⊢
      rw [if_pos z1, if_pos z2]
      exact ih k (i + 1) (p ++ [rd hi i]) (q ++ [rd lo i]) (by omega) (by omega) (by omega) (by rw [List.append_assoc]; exact hp) (by rw [List.append_assoc]; exact hq) (by simp; omega) (by simp; omega)
    · rw [if_neg hc] at hp hq ⊢
      rw [if_pos z1, if_pos z2]
      exact ih k (i + 1) (p ++ [rd lo i]) (q ++ [rd hi i]) (by omega) (by omega) (by omega) (by rw [List.append_assoc]; exact hp) (by rw [List.append_assoc]; exact hq) (by simp; omega) (by simp; omega)
theorem rrange_l0 {l lo hi : List Int} {K : Int} (h1 : l.length = lo.length) (h2 : l.length = hi.length) (hl : ∀ z ∈ l, inR z) (hlo : ∀ z ∈ lo, inR z) (hhi : ∀ z ∈ hi, inR z) (hK : inR K) (hlen : l.length < 17592186044416) (d : Nat) :
    ∀ (k : Nat) (i : Int), 0 ≤ i → (l.length : Int) - i = d → d + l.length + l.length + 5 < k →
      furrowref14_Range.l0 k lo hi i l K = some (if badS (lo.drop i.toNat) (hi.drop i.toNat) = true then (0, 0, refE 1) else endR l K (lows l lo hi) (highs l lo hi)) := by
  induction d with
  | zero =>
    intro k i h0 hd hk
    obtain ⟨k, rfl⟩ : ∃ m, k = m + 1 := ⟨k - 1, by omega⟩
    rw [furrowref14_Range.l0, if_neg (by omega), drop_end (by omega : (lo.length : Int) ≤ i)]
    rw [rrange_l1 h1 h2 hl hlo hhi hK hlen l.length k 0 [] [] (by omega) (by omega) (by omega) rfl rfl rfl rfl]
    simp [badS]
  | succ d ih =>
    intro k i h0 hd hk
    obtain ⟨k, rfl⟩ : ∃ m, k = m + 1 := ⟨k - 1, by omega⟩
    have a2 : i < (lo.length : Int) := by omega
    have a3 : i < (hi.length : Int) := by omega
    rw [furrowref14_Range.l0, if_pos (by omega), if_pos h0, if_pos a3, rd_drop h0 a2, rd_drop h0 a3]
    by_cases hb : rd lo i > rd hi i
    · have e : badS (rd lo i :: lo.drop (i + 1).toNat) (rd hi i :: hi.drop (i + 1).toNat) = true := by simp only [badS]; rw [decide_eq_true hb]; rfl
      rw [if_pos hb, e, unlike_eq]; rfl
    · have e : badS (rd lo i :: lo.drop (i + 1).toNat) (rd hi i :: hi.drop (i + 1).toNat) = badS (lo.drop (i + 1).toNat) (hi.drop (i + 1).toNat) := by simp only [badS]; rw [decide_eq_false hb]; rfl
      rw [if_neg hb, e, w64 (by omega)]
      exact ih k (i + 1) (by omega) (by omega) (by omega)
theorem rrange_spec {l lo hi : List Int} {K : Int} {k : Nat} (h1 : l.length = lo.length) (h2 : l.length = hi.length) (hl : ∀ z ∈ l, inR z) (hlo : ∀ z ∈ lo, inR z) (hhi : ∀ z ∈ hi, inR z) (hK : inR K) (hlen : l.length < 17592186044416) (hk : 3 * l.length + 7 < k) :
    furrowref14_Range.f k l K lo hi = some (if badS lo hi = true then (0, 0, refE 1) else endR l K (lows l lo hi) (highs l lo hi)) := by
  unfold furrowref14_Range.f
  obtain ⟨k, rfl⟩ : ∃ m, k = m + 1 := ⟨k - 1, by omega⟩
  have e : ((lo.length : Int) != (hi.length : Int)) = false := bne_eq_false_iff_eq.mpr (by omega)
  rw [if_pos (by omega), e, furrowref14_Range.j0, if_neg (by simp), rrange_l0 h1 h2 hl hlo hhi hK hlen l.length k 0 (by omega) (by omega) (by omega)]
  rfl
theorem rrange_no {l lo hi : List Int} {K : Int} {k : Nat} (h : ¬ (l.length = lo.length ∧ l.length = hi.length)) (hk : 0 < k) : furrowref14_Range.f k l K lo hi = some (0, 0, refE 1) := by
  unfold furrowref14_Range.f
  obtain ⟨k, rfl⟩ : ∃ m, k = m + 1 := ⟨k - 1, by omega⟩
  have t : furrowref14_Range.j0 (k + 1) lo hi true l K = some (0, 0, refE 1) := by rw [furrowref14_Range.j0, if_pos rfl, unlike_eq]; rfl
  by_cases c : l.length = lo.length
  · have e : ((lo.length : Int) != (hi.length : Int)) = true := bne_iff_ne.mpr (by omega)
    rw [if_pos (by omega), e, t]
  · rw [if_neg (by omega), t]
theorem range_no {l lo hi : List Int} {K : Int} {k : Nat} (h : ¬ (l.length = lo.length ∧ l.length = hi.length)) (hk : 0 < k) : lin_Range.f k l K lo hi = some (0, 0, fltE 1) := by
  unfold lin_Range.f
  obtain ⟨k, rfl⟩ : ∃ m, k = m + 1 := ⟨k - 1, by omega⟩
  have t : lin_Range.j0 (k + 1) lo hi true l K = some (0, 0, fltE 1) := by rw [lin_Range.j0, if_pos rfl, fault_eq]; rfl
  by_cases c : l.length = lo.length
  · have e : ((l.length : Int) != (hi.length : Int)) = true := bne_iff_ne.mpr (by omega)
    rw [if_pos (by omega), e, t]
  · rw [if_neg (by omega), t]
theorem tells_nil : furrowlaw2_Tells.f [] [] 0 = some true := rfl
theorem tells_flt (c : Int) (h : c = 1 ∨ c = 5) : furrowlaw2_Tells.f (fltE c) (refE c).1 (refE c).2 = some true := by rcases h with rfl | rfl <;> decide +kernel
theorem tells_at (l x : List Int) (s K : Int) : furrowlaw2_Tells.f (atS l x s K).2 (errR (atS l x s K).2).1 (errR (atS l x s K).2).2 = some true := by
  rcases atS_two l x s K with e | e
  · rw [e]; rfl
  · rw [e]; exact tells_flt 5 (.inr rfl)
theorem endS_two (l : List Int) (K : Int) (x y : List Int) : (endS l K x y).2.2 = [] ∨ endS l K x y = (0, 0, fltE 5) := by
  unfold endS
  rcases atS_two l x 0 K with e | e
  · rcases atS_two l y 0 K with e' | e'
    · left; simp [e, e']
    · right; simp [e, e', fltE]
  · right; simp [e, fltE]
theorem tells_end (l : List Int) (K : Int) (x y : List Int) : furrowlaw2_Tells.f (endS l K x y).2.2 (errR (endS l K x y).2.2).1 (errR (endS l K x y).2.2).2 = some true := by
  rcases endS_two l K x y with e | e
  · rw [e]; rfl
  · rw [e]; exact tells_flt 5 (.inr rfl)

end Go.Proofs.YtmnifoeodohphaaDoor.Pure
