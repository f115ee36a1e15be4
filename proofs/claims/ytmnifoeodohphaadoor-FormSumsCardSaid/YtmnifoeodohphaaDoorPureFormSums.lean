/- FormSums over numbers and lists alone. -/
import Derived.Test.YtmnifoeodohphaaDoorPureKnown
import Derived.Test.YtmnifoeodohphaaDoorPureRef
import Derived.Test.YtmnifoeodohphaaDoorXx5
import Derived.Test.YtmnifoeodohphaaDoorXx3
import Derived.Test.YtmnifoeodohphaaDoorXx10
import Derived.Laws.Bits64
namespace Go.Proofs.YtmnifoeodohphaaDoor.Pure
open Go.RowKit Go.Proofs.YtmnifoeodohphaaDoor.X Go.Proofs.YtmnifoeodohphaaDoor.Flt Go.Proofs.YtmnifoeodohphaaDoor.H Go.Proofs.YtmnifoeodohphaaDoorW.PrintWords Go.Proofs.YtmnifoeodohphaaDoorW.PrintLast Go.Proofs.YtmnifoeodohphaaDoorW.PrintMore
set_option linter.unusedVariables false
set_option linter.unusedSimpArgs false
/-! the document's sums, number by number -/
theorem const_ref {n : Nat} (hn : n < 35184372088832) : furrowref14_Const.f (n : Int) 0 = some (List.replicate n 0, 0) := by
  unfold furrowref14_Const.f
  rw [if_neg (by omega), if_pos (by omega), Int.toNat_natCast, if_pos (by omega)]
def eachR (v : Int → Int) (n : Nat) : List Int × Int × List S86 × Int := ((eachS v n).1, (eachS v n).2.1, errR (eachS v n).2.2)
theorem radd_l {l m : List Int} {a b : Int} {n : Nat} (hn : n < 35184372088832) (hl0 : l.length = n) (hm0 : m.length = n) (hl : ∀ z ∈ l, inR z) (hm : ∀ z ∈ m, inR z) (ha : inR a) (hb : inR b) (d : Nat) :
    ∀ (k j : Nat), j + d = n → d < k → furrowref14_Add.l0 k (j : Int) l a m b (made (fun i => partS l a i + partS m b i) j ++ List.replicate d 0) 0
      = some (if allB (fun i => partS l a i + partS m b i) (j : Int) (d + 1) = true then (made (fun i => partS l a i + partS m b i) n, partS l a (n : Int) + partS m b (n : Int), [], 0) else ([], 0, refE 5)) := by
  induction d with
  | zero =>
    intro k j hj hk
    obtain ⟨k, rfl⟩ : ∃ m, k = m + 1 := ⟨k - 1, by omega⟩
    obtain rfl : j = n := by omega
    have e1 : partS l a (j : Int) = a := part_ge (by omega)
    have e2 : partS m b (j : Int) = b := part_ge (by omega)
    simp only [furrowref14_Add.l0]
    rw [if_neg (by omega), radd_spec ha hb, Option.bind_some, e1, e2]
    by_cases h : inR (a + b)
    · have e : allB (fun i => partS l a i + partS m b i) (j : Int) (0 + 1) = true := by simp [allB, e1, e2, h]
      rw [chk_yes h, e, if_pos rfl, if_pos rfl]
      simp
    · have e : allB (fun i => partS l a i + partS m b i) (j : Int) (0 + 1) = false := by simp [allB, e1, e2, h]
      rw [chk_no h, e, if_neg (by simp), if_neg (by simp), over_eq]
      rfl
  | succ d ih =>
    intro k j hj hk
    obtain ⟨k, rfl⟩ : ∃ m, k = m + 1 := ⟨k - 1, by omega⟩
    have e1 : partS l a (j : Int) = rd l (j : Int) := part_lt (by omega)
    have e2 : partS m b (j : Int) = rd m (j : Int) := part_lt (by omega)
    simp only [furrowref14_Add.l0]
    rw [if_pos (by omega), if_pos (by omega), if_pos (by omega), radd_spec (hl _ (rd_mem (by omega) (by omega))) (hm _ (rd_mem (by omega) (by omega))), Option.bind_some]
    by_cases h : inR (rd l (j : Int) + rd m (j : Int))
    · have r := ih k (j + 1) (by omega) (by omega)
      have e : allB (fun i => partS l a i + partS m b i) (j : Int) (d + 1 + 1) = allB (fun i => partS l a i + partS m b i) ((j : Int) + 1) (d + 1) := by rw [allB]; simp only [e1, e2]; rw [decide_eq_true h, Bool.true_and]
      rw [chk_yes h, e, if_pos rfl, if_pos (by simp [made_length]; omega), w64 (by omega)]
      have e3 : ((j : Int) + 1) = ((j + 1 : Nat) : Int) := by omega
      have e4 : rd l (j : Int) + rd m (j : Int) = (fun i => partS l a i + partS m b i) (j : Int) := by simp only [e1, e2]
      rw [show (((j : Int)).toNat) = j from rfl]
      dsimp only
      rw [set_made, e4, ← made_succ, e3, r]
    · have e : allB (fun i => partS l a i + partS m b i) (j : Int) (d + 1 + 1) = false := by rw [allB]; simp only [e1, e2]; rw [decide_eq_false h, Bool.false_and]
      rw [chk_no h, e, if_neg (by simp), if_neg (by simp), over_eq]
      rfl
theorem eachR_eq (v : Int → Int) (n : Nat) : (if allB v 0 (n + 1) = true then (made v n, v (n : Int), ([] : List S86), (0 : Int)) else ([], 0, refE 5)) = eachR v n := by
  unfold eachR eachS
  by_cases h : allB v 0 (n + 1) = true
  · rw [if_pos h, if_pos h]; rfl
  · rw [if_neg h, if_neg h]; rfl
theorem radd {l m : List Int} {a b : Int} {k : Nat} (h : l.length = m.length) (hl : ∀ z ∈ l, inR z) (hm : ∀ z ∈ m, inR z) (ha : inR a) (hb : inR b) (hlen : l.length < 35184372088832) (hk : l.length < k) :
    furrowref14_Add.f k l a m b = some (eachR (fun i => partS l a i + partS m b i) l.length) := by
  unfold furrowref14_Add.f
  rw [if_pos (by omega), const_ref hlen, Option.bind_some]
  have r := radd_l (a := a) (b := b) hlen rfl h.symm hl hm ha hb l.length k 0 (by omega) hk
  simp only [made, List.range_zero, List.map_nil, List.nil_append] at r
  rw [← eachR_eq]
  exact r
theorem radd_no {l m : List Int} {a b : Int} {k : Nat} (h : l.length ≠ m.length) : furrowref14_Add.f k l a m b = some ([], 0, refE 1) := by
  unfold furrowref14_Add.f
  rw [if_neg (by omega), unlike_eq]; rfl
theorem rscale_l {l : List Int} {a c : Int} {n : Nat} (hn : n < 35184372088832) (hl0 : l.length = n) (hl : ∀ z ∈ l, inR z) (ha : inR a) (hc : inR c) (d : Nat) :
    ∀ (k j : Nat), j + d = n → d + 5 < k → furrowref14_Scale.l0 k c (j : Int) l a (made (fun i => partS l a i * c) j ++ List.replicate d 0) 0
      = some (if allB (fun i => partS l a i * c) (j : Int) (d + 1) = true then (made (fun i => partS l a i * c) n, partS l a (n : Int) * c, [], 0) else ([], 0, refE 5)) := by
  induction d with
  | zero =>
    intro k j hj hk
    obtain ⟨k, rfl⟩ : ∃ m, k = m + 1 := ⟨k - 1, by omega⟩
    obtain rfl : j = n := by omega
    have e1 : partS l a (j : Int) = a := part_ge (by omega)
    simp only [furrowref14_Scale.l0]
    rw [if_neg (by omega), rmul_spec (by omega) ha hc, Option.bind_some, e1]
    by_cases h : inR (a * c)
    · have e : allB (fun i => partS l a i * c) (j : Int) (0 + 1) = true := by simp [allB, e1, h]
      rw [chk_yes h, e, if_pos rfl, if_pos rfl]
      simp
    · have e : allB (fun i => partS l a i * c) (j : Int) (0 + 1) = false := by simp [allB, e1, h]
      rw [chk_no h, e, if_neg (by simp), if_neg (by simp), over_eq]
      rfl
  | succ d ih =>
    intro k j hj hk
    obtain ⟨k, rfl⟩ : ∃ m, k = m + 1 := ⟨k - 1, by omega⟩
    have e1 : partS l a (j : Int) = rd l (j : Int) := part_lt (by omega)
    simp only [furrowref14_Scale.l0]
    rw [if_pos (by omega), if_pos (by omega), rmul_spec (by omega) (hl _ (rd_mem (by omega) (by omega))) hc, Option.bind_some]
    by_cases h : inR (rd l (j : Int) * c)
    · have r := ih k (j + 1) (by omega) (by omega)
      have e : allB (fun i => partS l a i * c) (j : Int) (d + 1 + 1) = allB (fun i => partS l a i * c) ((j : Int) + 1) (d + 1) := by rw [allB]; simp only [e1]; rw [decide_eq_true h, Bool.true_and]
      rw [chk_yes h, e, if_pos rfl, if_pos (by simp [made_length]; omega), w64 (by omega)]
      have e3 : ((j : Int) + 1) = ((j + 1 : Nat) : Int) := by omega
      have e4 : rd l (j : Int) * c = (fun i => partS l a i * c) (j : Int) := by simp only [e1]
      rw [show (((j : Int)).toNat) = j from rfl]
      dsimp only
      rw [set_made, e4, ← made_succ, e3, r]
    · have e : allB (fun i => partS l a i * c) (j : Int) (d + 1 + 1) = false := by rw [allB]; simp only [e1]; rw [decide_eq_false h, Bool.false_and]
      rw [chk_no h, e, if_neg (by simp), if_neg (by simp), over_eq]
      rfl
theorem rscale {l : List Int} {a c : Int} {k : Nat} (hl : ∀ z ∈ l, inR z) (ha : inR a) (hc : inR c) (hlen : l.length < 35184372088832) (hk : l.length + 5 < k) :
    furrowref14_Scale.f k l a c = some (eachR (fun i => partS l a i * c) l.length) := by
  unfold furrowref14_Scale.f
  rw [const_ref hlen, Option.bind_some]
  have r := rscale_l (a := a) hlen rfl hl ha hc l.length k 0 (by omega) hk
  simp only [made, List.range_zero, List.map_nil, List.nil_append] at r
  rw [← eachR_eq]
  exact r
theorem coef_lt {l : List Int} {a i : Int} (h0 : 0 ≤ i) (h : i < (l.length : Int)) : furrowref14_coef.f l a i = some (rd l i) := by
  unfold furrowref14_coef.f
  rw [if_neg (by omega), if_pos h0, if_pos h]
theorem coef_ge {l : List Int} {a i : Int} (h : (l.length : Int) ≤ i) : furrowref14_coef.f l a i = some 0 := by
  unfold furrowref14_coef.f
  rw [if_pos (by omega)]
theorem rsame_l {l m : List Int} {a b n : Int} (hn : n = mx (l.length : Int) (m.length : Int)) (hl : l.length < 4611686018427387904) (hm : m.length < 4611686018427387904) (d : Nat) :
    ∀ (k : Nat) (i : Int), 0 ≤ i → n - i = d → 2 * d + 1 < k → furrowref14_Same.l0 k i l a m b = some (sameS (l.drop i.toNat) (m.drop i.toNat) && (a == b)) := by
  have e : ((l.length : Int) ≤ n ∧ (m.length : Int) ≤ n) ∧ (n = (l.length : Int) ∨ n = (m.length : Int)) := by rw [hn]; unfold mx; split <;> omega
  induction d with
  | zero =>
    intro k i h0 hd hk
    obtain ⟨k, rfl⟩ : ∃ m, k = m + 2 := ⟨k - 2, by omega⟩
    simp only [furrowref14_Same.l0]
    rw [if_neg (by omega), decide_eq_false (by omega)]
    simp only [furrowref14_Same.j1]
    rw [if_neg (by simp), drop_end (by omega), drop_end (by omega)]
    simp [sameS]
  | succ d ih =>
    intro k i h0 hd hk
    obtain ⟨k, rfl⟩ : ∃ m, k = m + 2 := ⟨k - 2, by omega⟩
    have r := ih k (i + 1) (by omega) (by omega) (by omega)
    have hj : furrowref14_Same.l0 (k + 2) i l a m b = furrowref14_Same.j1 (k + 1) i true l a m b := by
      simp only [furrowref14_Same.l0]
      by_cases c1 : i < (l.length : Int)
      · rw [if_pos c1]
      · rw [if_neg c1, decide_eq_true (by omega)]
    rw [hj]
    simp only [furrowref14_Same.j1, if_true]
    by_cases c1 : i < (l.length : Int)
    · rw [coef_lt h0 c1, Option.bind_some, rd_drop h0 c1]
      by_cases c2 : i < (m.length : Int)
      · rw [coef_lt h0 c2, Option.bind_some, rd_drop h0 c2, w64 (by omega)]
        by_cases c : rd l i = rd m i
        · rw [if_pos c, r]; simp [sameS, c]
        · rw [if_neg c]; simp [sameS, c]
      · rw [coef_ge (l := m) (by omega), Option.bind_some, drop_end (l := m) (by omega), w64 (by omega)]
        rw [drop_end (l := m) (i := i + 1) (by omega)] at r
        by_cases c : rd l i = 0
        · rw [if_pos c, r]; simp [sameS, c]
        · rw [if_neg c]; simp [sameS, c]
    · have c2 : i < (m.length : Int) := by omega
      rw [coef_ge (l := l) (by omega), Option.bind_some, coef_lt h0 c2, Option.bind_some, drop_end (l := l) (by omega), rd_drop h0 c2, w64 (by omega)]
      rw [drop_end (l := l) (i := i + 1) (by omega)] at r
      by_cases c : 0 = rd m i
      · rw [if_pos c, r]; simp [sameS, ← c]
      · rw [if_neg c]; simp [sameS, c]
theorem rsame_spec {l m : List Int} {a b : Int} {k : Nat} (hl : l.length < 4611686018427387904) (hm : m.length < 4611686018427387904) (hk : 2 * (l.length + m.length) + 2 < k) : furrowref14_Same.f k l a m b = some (sameS l m && (a == b)) := by
  unfold furrowref14_Same.f
  have e : mx (l.length : Int) (m.length : Int) = ((if l.length < m.length then m.length else l.length : Nat) : Int) := by unfold mx; split <;> split <;> omega
  rw [rsame_l rfl hl hm (if l.length < m.length then m.length else l.length) k 0 (by omega) (by rw [e]; omega) (by split <;> omega)]
  rfl
theorem tells_each (v : Int → Int) (n : Nat) : furrowlaw2_Tells.f (eachS v n).2.2 (eachR v n).2.2.1 (eachR v n).2.2.2 = some true := by
  unfold eachR eachS
  by_cases h : allB v 0 (n + 1) = true
  · rw [if_pos h]; exact tells_nil
  · rw [if_neg h]; exact tells_flt 5 (.inr rfl)
theorem each_len (v : Int → Int) (n : Nat) : (eachS v n).1.length ≤ n := by
  unfold eachS
  by_cases h : allB v 0 (n + 1) = true
  · rw [if_pos h]; simp [made_length]
  · rw [if_neg h]; simp
theorem i64s {l : List Int} (h : ∀ x ∈ l, (Lit.int .i64 x).wf = true) : ∀ z ∈ l, inR z := fun z hz => by have := i64_of (h z hz); unfold inR; exact this
/-- both sums, as they are compared -/
theorem add_pair {l m : List Int} {a b : Int} {k : Nat} (hl : ∀ z ∈ l, inR z) (hm : ∀ z ∈ m, inR z) (ha : inR a) (hb : inR b) (hlen : l.length ≤ 20) (hk : 90 ≤ k) :
    ∃ s t e r c, lin_Add.f l a m b = some (s, t, e) ∧ furrowref14_Add.f k l a m b = some (s, t, r, c) ∧ furrowlaw2_Tells.f e r c = some true ∧ s.length ≤ 20 := by
  by_cases h : l.length = m.length
  · exact ⟨_, _, _, _, _, add_l h hl hm ha hb (by omega), radd h hl hm ha hb (by omega) (by omega), tells_each _ _, Nat.le_trans (each_len _ _) hlen⟩
  · exact ⟨_, _, _, _, _, add_no h, radd_no h, tells_flt 1 (.inl rfl), by simp⟩
theorem formsums_true {l m : List Int} {a b c : Int} (hl : ∀ z ∈ l, inR z) (hm : ∀ z ∈ m, inR z) (ha : inR a) (hb : inR b) (hc : inR c) : furrowlaw11_FormSums.f 200 l a m b c = some true := by
  have j : ∀ q : Bool, (q = false → l.length ≤ 20 ∧ m.length ≤ 20) → furrowlaw11_FormSums.j0 200 c q l a m b = some true := by
    intro q hq
    rw [furrowlaw11_FormSums.j0]
    cases q with
    | true => rw [if_pos rfl]
    | false =>
      obtain ⟨h1, h2⟩ := hq rfl
      obtain ⟨s, t, e, r, x, f1, f2, f3, f4⟩ := add_pair (k := 199) hl hm ha hb h1 (by omega)
      have g1 := scale_l hl ha hc (show l.length < 35184372088832 by omega)
      have g2 := rscale (k := 199) hl ha hc (show l.length < 35184372088832 by omega) (by omega)
      have g3 := tells_each (fun i => partS l a i * c) l.length
      have g4 := each_len (fun i => partS l a i * c) l.length
      have g5 : (eachR (fun i => partS l a i * c) l.length).1 = (eachS (fun i => partS l a i * c) l.length).1 := rfl
      have g6 : (eachR (fun i => partS l a i * c) l.length).2.1 = (eachS (fun i => partS l a i * c) l.length).2.1 := rfl
      rw [if_neg (by simp), f1]
      simp only [Option.bind_some, furrowlaw11_Of.f]
      rw [f2]
      simp only [Option.bind_some]
      rw [g1]
      simp only [Option.bind_some]
      rw [g2]
      simp only [Option.bind_some]
      rw [f3]
      simp only [Option.bind_some, if_true]
      rw [rsame_spec (by omega) (by omega) (by omega), sameS_refl]
      simp only [Option.bind_some, Bool.true_and, beq_self_eq_true, if_true]
      rw [g3]
      simp only [Option.bind_some, if_true]
      rw [g5, g6, rsame_spec (by omega) (by omega) (by omega), sameS_refl]
      simp only [Option.bind_some, Bool.true_and, beq_self_eq_true, if_true]
      rw [same_spec (by omega) (by omega) (by omega), rsame_spec (by omega) (by omega) (by omega)]
      simp
  unfold furrowlaw11_FormSums.f
  rw [known_more (by omega)]
  simp only [Option.bind_some, if_true, furrowlaw11_few.f]
  by_cases h1 : (l.length : Int) ≤ 20
  · rw [decide_eq_true h1, if_pos rfl]
    by_cases h2 : (m.length : Int) ≤ 20
    · rw [decide_eq_true h2]; exact j _ (fun _ => ⟨by omega, by omega⟩)
    · rw [decide_eq_false h2]; exact j true (by simp)
  · rw [decide_eq_false h1, if_neg (by simp)]
    exact j true (by simp)

end Go.Proofs.YtmnifoeodohphaaDoor.Pure
