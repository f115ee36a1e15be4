/- Plain lemmas: numbers, forms, one variable less; no program in sight. -/
import Derived.Test.YtmglfimdhbooeaaXx1
import Derived.Test.YtmglfimdhbooeaaXx2
import Derived.Test.YtmglfimdhbooeaaHandL
import Derived.Test.YtmglfimdhbooeaaHandI2
import Derived.Test.YtmglfimdhbooeaaXx23
import Derived.Test.YtmglfimdhbooeaaXx24
import Derived.Laws.Bits64
namespace Go.Proofs.Ytmglfimdhbooeaa.Pure
open Go.RowKit Go.Proofs.Ytmglfimdhbooeaa.X Go.Proofs.Ytmglfimdhbooeaa.Flt Go.Proofs.Ytmglfimdhbooeaa.H Go.Proofs.YtmglfimdhbooeaaW.PrintWords Go.Proofs.YtmglfimdhbooeaaW.PrintLast Go.Proofs.YtmglfimdhbooeaaW.PrintMore
set_option linter.unusedVariables false
set_option linter.unusedSimpArgs false
theorem i64_of {a : Int} (h : (Lit.int .i64 a).wf = true) : -9223372036854775808 ≤ a ∧ a ≤ 9223372036854775807 := by
  simp only [Lit.wf, IntKind.min, IntKind.max, IntKind.signed, IntKind.bits, Bool.and_eq_true, decide_eq_true_eq, if_true] at h
  omega
theorem w64 {a : Int} (h : -9223372036854775808 ≤ a ∧ a ≤ 9223372036854775807) : wrap64 a = a := by unfold wrap64; omega
theorem size_spec {a : Int} (h : -9223372036854775808 ≤ a ∧ a ≤ 9223372036854775807) : num_size.f a = some (a.natAbs : Int) := by
  unfold num_size.f; simp only [IntKind.wrap_u64]; split <;> (congr 1; omega)

def inR (a : Int) : Prop := -9223372036854775808 ≤ a ∧ a ≤ 9223372036854775807
instance inRd (a : Int) : Decidable (inR a) := by unfold inR; infer_instance
def chk (a : Int) : Int × Bool := if inR a then (a, true) else (0, false)
theorem chk_yes {a : Int} (h : inR a) : chk a = (a, true) := if_pos h
theorem chk_no {a : Int} (h : ¬ inR a) : chk a = (0, false) := if_neg h
theorem add_spec {a b : Int} (ha : inR a) (hb : inR b) : num_Add.f a b = some (chk (a + b)) := by
  unfold num_Add.f
  by_cases hr : inR (a + b)
  · rw [chk_yes hr, w64 hr]; unfold inR at *
    by_cases h1 : a < 0 <;> by_cases h2 : b < 0 <;> by_cases h3 : a + b < 0 <;> first | (simp [h1, h2, h3]; done) | (exfalso; omega)
  · rw [chk_no hr]
    have e : wrap64 (a + b) = if a < 0 then a + b + 18446744073709551616 else a + b - 18446744073709551616 := by unfold wrap64 inR at *; split <;> omega
    rw [e]; unfold inR at *
    by_cases h1 : a < 0 <;> by_cases h2 : b < 0 <;> first | (exfalso; omega) | skip
    · have h3 : ¬ a + b + 18446744073709551616 < 0 := by omega
      simp [h1, h2, h3]
    · have h3 : a + b - 18446744073709551616 < 0 := by omega
      simp [h1, h2, h3]
theorem and_low (a : Nat) (h : a < 18446744073709551616) : Go.bits .and .u64 (a : Int) 4294967295 = ((a % 4294967296 : Nat) : Int) := by
  have h1 : (BitVec.ofInt 64 (a : Int)).toNat = a := by
    rw [BitVec.ofInt_natCast, BitVec.toNat_ofNat]; exact Nat.mod_eq_of_lt (by omega)
  have h2 : (BitVec.ofInt 64 (4294967295 : Int)).toNat = 2 ^ 32 - 1 := rfl
  show IntKind.u64.wrap ((BitVec.ofInt 64 (a : Int) &&& BitVec.ofInt 64 4294967295).toNat : Int) = _
  rw [BitVec.toNat_and, h1, h2, Nat.and_two_pow_sub_one_eq_mod, IntKind.wrap_u64]
  omega
theorem mul64_spec (x y : Nat) (hx : x < 18446744073709551616) (hy : y < 18446744073709551616) :
    bits_Mul64.f (x : Int) (y : Int) = some (((x * y / 18446744073709551616 : Nat) : Int), ((x * y % 18446744073709551616 : Nat) : Int)) := by
  unfold bits_Mul64.f
  rw [and_low x hx, and_low y hy]
  simp only [IntKind.wrap_u64]
  have dx : x = (x / 4294967296) * 4294967296 + x % 4294967296 := by omega
  have dy : y = (y / 4294967296) * 4294967296 + y % 4294967296 := by omega
  have bx1 : x / 4294967296 ≤ 4294967295 := by omega
  have by1 : y / 4294967296 ≤ 4294967295 := by omega
  have bx0 : x % 4294967296 ≤ 4294967295 := by omega
  have by0 : y % 4294967296 ≤ 4294967295 := by omega
  have ex : (x : Int) / 4294967296 = ((x / 4294967296 : Nat) : Int) := by omega
  have ey : (y : Int) / 4294967296 = ((y / 4294967296 : Nat) : Int) := by omega
  rw [ex, ey]
  have hp : x * y = (x / 4294967296) * (y / 4294967296) * 18446744073709551616 + ((x / 4294967296) * (y % 4294967296) + (x % 4294967296) * (y / 4294967296)) * 4294967296 + (x % 4294967296) * (y % 4294967296) := by
    have e : x * y = ((x / 4294967296) * 4294967296 + x % 4294967296) * ((y / 4294967296) * 4294967296 + y % 4294967296) := by rw [← dx, ← dy]
    rw [e]
    generalize x / 4294967296 = p
    generalize x % 4294967296 = q
    generalize y / 4294967296 = r
    generalize y % 4294967296 = s
    simp only [Nat.add_mul, Nat.mul_add]
    have a1 : p * 4294967296 * (r * 4294967296) = p * r * 18446744073709551616 := by rw [Nat.mul_mul_mul_comm]
    have a2 : p * 4294967296 * s = p * s * 4294967296 := by rw [Nat.mul_right_comm]
    have a3 : q * (r * 4294967296) = q * r * 4294967296 := by rw [Nat.mul_assoc]
    rw [a1, a2, a3]; omega
  have hpi : (x : Int) * (y : Int) = ((x * y : Nat) : Int) := by exact_mod_cast rfl
  rw [hpi, hp]
  generalize x / 4294967296 = p at *
  generalize x % 4294967296 = q at *
  generalize y / 4294967296 = r at *
  generalize y % 4294967296 = s at *
  have c1 : (p : Int) * (r : Int) = ((p * r : Nat) : Int) := by exact_mod_cast rfl
  have c2 : (p : Int) * (s : Int) = ((p * s : Nat) : Int) := by exact_mod_cast rfl
  have c3 : (q : Int) * (r : Int) = ((q * r : Nat) : Int) := by exact_mod_cast rfl
  have c4 : (q : Int) * (s : Int) = ((q * s : Nat) : Int) := by exact_mod_cast rfl
  rw [c1, c2, c3, c4]
  have l1 : p * r ≤ 4294967295 * 4294967295 := Nat.mul_le_mul bx1 by1
  have l2 : p * s ≤ 4294967295 * 4294967295 := Nat.mul_le_mul bx1 by0
  have l3 : q * r ≤ 4294967295 * 4294967295 := Nat.mul_le_mul bx0 by1
  have l4 : q * s ≤ 4294967295 * 4294967295 := Nat.mul_le_mul bx0 by0
  clear hp hpi c1 c2 c3 c4 dx dy ex ey hx hy
  generalize p * r = A at *
  generalize p * s = B at *
  generalize q * r = C at *
  generalize q * s = D at *
  rw [show ((B : Int) % 18446744073709551616 + (D : Int) % 18446744073709551616 / 4294967296) % 18446744073709551616 = ((B + D / 4294967296 : Nat) : Int) by omega]
  have t1 : (Go.bits .and .u64 (((B + D / 4294967296 : Nat)) : Int) 4294967295) = (((B + D / 4294967296) % 4294967296 : Nat) : Int) := and_low _ (by omega)
  rw [t1]
  congr 1
  refine Prod.ext ?_ ?_
  · show _ = _
    simp only []
    omega
  · show _ = _
    simp only []
    omega
theorem mul_sign (a b : Int) : a * b = if (decide (a < 0) != decide (b < 0)) = true then -((a.natAbs * b.natAbs : Nat) : Int) else ((a.natAbs * b.natAbs : Nat) : Int) := by
  have h : ((a.natAbs * b.natAbs : Nat) : Int) = (a.natAbs : Int) * (b.natAbs : Int) := by exact_mod_cast rfl
  rw [h]
  by_cases h1 : a < 0 <;> by_cases h2 : b < 0
  · rw [if_neg (by simp [h1, h2]), show (a.natAbs : Int) = -a by omega, show (b.natAbs : Int) = -b by omega, Int.neg_mul_neg]
  · rw [if_pos (by simp [h1, h2]), show (a.natAbs : Int) = -a by omega, show (b.natAbs : Int) = b by omega, Int.neg_mul, Int.neg_neg]
  · rw [if_pos (by simp [h1, h2]), show (a.natAbs : Int) = a by omega, show (b.natAbs : Int) = -b by omega, Int.mul_neg, Int.neg_neg]
  · rw [if_neg (by simp [h1, h2]), show (a.natAbs : Int) = a by omega, show (b.natAbs : Int) = b by omega]
theorem mul_spec {k : Nat} {a b : Int} (hk : 2 ≤ k) (ha : inR a) (hb : inR b) : num_Mul.f k a b = some (chk (a * b)) := by
  obtain ⟨k, rfl⟩ : ∃ m, k = m + 2 := ⟨k - 2, by omega⟩
  unfold num_Mul.f
  rw [size_spec ha, size_spec hb]; simp only [Option.bind_some]
  rw [mul64_spec _ _ (by unfold inR at ha; omega) (by unfold inR at hb; omega)]; simp only [Option.bind_some]
  have hs := mul_sign a b
  generalize a.natAbs * b.natAbs = P at *
  by_cases hd : (decide (a < 0) != decide (b < 0)) = true
  · rw [if_pos hd] at hs
    rw [if_pos hd, hd, hs]
    by_cases h0 : (((P / 18446744073709551616 : Nat)) : Int) > 0
    · simp only [num_Mul.j0, if_pos h0, num_Mul.j1, if_true]
      rw [chk_no (by unfold inR; omega)]
    · simp only [num_Mul.j0, if_neg h0, num_Mul.j1]
      by_cases h1 : ((P % 18446744073709551616 : Nat) : Int) > 9223372036854775807 + 1
      · rw [if_pos (decide_eq_true h1), chk_no (by unfold inR; omega)]
      · rw [if_neg (by simpa using h1), if_pos trivial, chk_yes (by unfold inR; omega), IntKind.wrap_u64]
        congr 2; unfold wrap64; omega
  · rw [if_neg hd] at hs
    rw [if_neg hd, Bool.eq_false_iff.2 hd, hs]
    by_cases h0 : (((P / 18446744073709551616 : Nat)) : Int) > 0
    · simp only [num_Mul.j0, if_pos h0, num_Mul.j1, if_true]
      rw [chk_no (by unfold inR; omega)]
    · simp only [num_Mul.j0, if_neg h0, num_Mul.j1]
      by_cases h1 : ((P % 18446744073709551616 : Nat) : Int) > 9223372036854775807
      · rw [if_pos (decide_eq_true h1), chk_no (by unfold inR; omega)]
      · rw [if_neg (by simpa using h1), if_neg (by simp), chk_yes (by unfold inR; omega)]
        congr 2; unfold wrap64; omega

theorem rd_drop {l : List Int} {i : Int} (h0 : 0 ≤ i) (h : i < (l.length : Int)) : l.drop i.toNat = rd l i :: l.drop (i + 1).toNat := by
  have hn : i.toNat < l.length := by omega
  have e : (i + 1).toNat = i.toNat + 1 := by omega
  rw [List.drop_eq_getElem_cons hn, e]
  congr 1
  simp [rd, List.getD, hn]
theorem rd_mem {l : List Int} {i : Int} (h0 : 0 ≤ i) (h : i < (l.length : Int)) : rd l i ∈ l := by
  have hn : i.toNat < l.length := by omega
  have e : rd l i = l[i.toNat] := by simp [rd, List.getD, hn]
  rw [e]; exact List.getElem_mem hn
theorem drop_end {l : List Int} {i : Int} (h : (l.length : Int) ≤ i) : l.drop i.toNat = [] := List.drop_of_length_le (by omega)
def fltE (c : Int) : List Flt := [⟨⟨#[102, 111, 114, 109]⟩, 0, some c⟩]
theorem fault_eq (c : Int) : lin_fault.f c = some (fltE c) := rfl

/-- are all numbers from a place on in range? -/
def allB (v : Int → Int) : Int → Nat → Bool
  | _, 0 => true
  | i, d + 1 => decide (inR (v i)) && allB v (i + 1) d
/-- a list number by number -/
def made (v : Int → Int) (n : Nat) : List Int := (List.range n).map fun (j : Nat) => v (j : Int)
theorem made_length (v : Int → Int) (n : Nat) : (made v n).length = n := by simp [made]
theorem made_succ (v : Int → Int) (n : Nat) : made v (n + 1) = made v n ++ [v (n : Int)] := by simp [made, List.range_succ]
def eachS (v : Int → Int) (n : Nat) : List Int × Int × List Flt := if allB v 0 (n + 1) = true then (made v n, v (n : Int), []) else ([], 0, fltE 5)
theorem set_made (v : Int → Int) (j r : Nat) (x : Int) : (made v j ++ List.replicate (r + 1) 0).set j x = made v j ++ [x] ++ List.replicate r 0 := by
  rw [List.set_append]
  simp [made_length, List.replicate_succ]
theorem each_l {GG : CloA} {v : Int → Int} {n : Nat} (hn : n < 35184372088833) (hg : ∀ i : Int, 0 ≤ i → i ≤ n → GG.f i = some (chk (v i))) (d : Nat) :
    ∀ (k : Nat) (j : Nat), j + d = n → d + 2 < k → lin_each.l0 GG k (n : Int) ((n : Int) + 1) (j : Int) (made v j ++ List.replicate d 0) 0 = some (if allB v (j : Int) (d + 1) = true then (made v n, v (n : Int), []) else ([], 0, fltE 5)) := by
  induction d with
  | zero =>
    intro k j hj hk
    obtain ⟨k, rfl⟩ : ∃ m, k = m + 1 := ⟨k - 1, by omega⟩
    obtain ⟨k, rfl⟩ : ∃ m, k = m + 1 := ⟨k - 1, by omega⟩
    obtain rfl : j = n := by omega
    rw [lin_each.l0, if_pos (by omega), hg _ (by omega) (by omega)]
    simp only [Option.bind_some]
    by_cases h : inR (v (j : Int))
    · have e : allB v (j : Int) (0 + 1) = true := by simp [allB, h]
      rw [chk_yes h, e, if_pos rfl, if_pos rfl, if_neg (by omega), w64 (by omega), lin_each.l0, if_neg (by omega)]
      simp
    · have e : allB v (j : Int) (0 + 1) = false := by simp [allB, h]
      rw [chk_no h, e, if_neg (by simp), if_neg (by simp), fault_eq]
      rfl
  | succ d ih =>
    intro k j hj hk
    obtain ⟨k, rfl⟩ : ∃ m, k = m + 1 := ⟨k - 1, by omega⟩
    rw [lin_each.l0, if_pos (by omega), hg _ (by omega) (by omega)]
    simp only [Option.bind_some]
    by_cases h : inR (v (j : Int))
    · have r := ih k (j + 1) (by omega) (by omega)
      have e : allB v (j : Int) (d + 1 + 1) = allB v ((j : Int) + 1) (d + 1) := by rw [allB, decide_eq_true h, Bool.true_and]
      rw [chk_yes h, e, if_pos rfl, if_pos (by omega), if_pos (by omega), if_pos (by simp [made_length]; omega), w64 (by omega)]
      have e2 : ((j : Int) + 1) = ((j + 1 : Nat) : Int) := by omega
      rw [show (((j : Int)).toNat) = j from rfl, set_made, ← made_succ, e2, r]
    · have e : allB v (j : Int) (d + 1 + 1) = false := by rw [allB, decide_eq_false h, Bool.false_and]
      rw [chk_no h, e, if_neg (by simp), if_neg (by simp), fault_eq]
      rfl
theorem each_spec {GG : CloA} {v : Int → Int} {n k : Nat} (hn : n < 35184372088832) (hg : ∀ i : Int, 0 ≤ i → i ≤ n → GG.f i = some (chk (v i))) (hk : n + 2 < k) : lin_each.f GG k (n : Int) = some (eachS v n) := by
  unfold lin_each.f
  rw [if_pos (by omega), if_pos (by omega), w64 (by omega)]
  have r := each_l (GG := GG) (v := v) (n := n) (by omega) hg n k 0 (by omega) hk
  simp only [made, List.range_zero, List.map_nil, List.nil_append] at r
  exact r
/-- a form's numbers; behind them its last -/
def partS (l : List Int) (K : Int) (i : Int) : Int := if i < (l.length : Int) then rd l i else K
theorem part_spec {l : List Int} {K i : Int} (h : 0 ≤ i) : lin_Form_part.f l K i = some (partS l K i) := by
  unfold lin_Form_part.f partS
  by_cases c : i < (l.length : Int)
  · rw [if_pos c, if_pos h, if_pos c]
  · rw [if_neg c, if_neg c]
theorem part_in {l : List Int} {K i : Int} (h0 : 0 ≤ i) (hl : ∀ z ∈ l, inR z) (hK : inR K) : inR (partS l K i) := by
  unfold partS; split
  · exact hl _ (rd_mem h0 ‹_›)
  · exact hK
theorem add_l {l m : List Int} {a b : Int} (h : l.length = m.length) (hl : ∀ z ∈ l, inR z) (hm : ∀ z ∈ m, inR z) (ha : inR a) (hb : inR b) (hlen : l.length < 35184372088832) :
    lin_Add.f l a m b = some (eachS (fun i => partS l a i + partS m b i) l.length) := by
  unfold lin_Add.f addE
  rw [if_pos (by omega), each_spec (v := fun i => partS l a i + partS m b i) hlen (fun i h0 hi => ?_) (by omega)]
  · rfl
  · simp only [part_spec h0, Option.bind_some]
    exact add_spec (part_in h0 hl ha) (part_in h0 hm hb)
theorem add_no {l m : List Int} {a b : Int} (h : l.length ≠ m.length) : lin_Add.f l a m b = some ([], 0, fltE 1) := by
  unfold lin_Add.f
  rw [if_neg (by omega)]; rfl
theorem scale_l {l : List Int} {a c : Int} (hl : ∀ z ∈ l, inR z) (ha : inR a) (hc : inR c) (hlen : l.length < 35184372088832) :
    lin_Scale.f l a c = some (eachS (fun i => partS l a i * c) l.length) := by
  unfold lin_Scale.f scaleE
  rw [each_spec (v := fun i => partS l a i * c) hlen (fun i h0 hi => ?_) (by omega)]
  · rfl
  · simp only [part_spec h0, Option.bind_some]
    exact mul_spec (by omega) (part_in h0 hl ha) hc
theorem allB_iff (v : Int → Int) (d : Nat) : ∀ i : Int, allB v i d = true ↔ ∀ j : Int, i ≤ j → j < i + d → inR (v j) := by
  induction d with
  | zero => intro i; simp [allB]; omega
  | succ d ih =>
    intro i
    simp only [allB, Bool.and_eq_true, decide_eq_true_eq, ih]
    constructor
    · rintro ⟨h1, h2⟩ j hj hj'
      by_cases e : i = j
      · subst e; exact h1
      · exact h2 j (by omega) (by omega)
    · intro h
      exact ⟨h i (by omega) (by omega), fun j hj hj' => h j (by omega) (by omega)⟩
theorem rd_get {l : List Int} {j : Nat} (h : j < l.length) : rd l (j : Int) = l[j] := by simp [rd, List.getD, h]
theorem made_get (v : Int → Int) {n j : Nat} (h : j < n) : rd (made v n) (j : Int) = v (j : Int) := by
  rw [rd_get (by rw [made_length]; exact h)]; simp [made]
theorem made_congr {v u : Int → Int} {n : Nat} (h : ∀ j : Int, 0 ≤ j → j < n → v j = u j) : made v n = made u n := by
  simp only [made]
  apply List.map_congr_left
  intro j hj
  exact h _ (by omega) (by simpa using hj)

theorem each_ok {v : Int → Int} {n : Nat} (h : ∀ j : Int, 0 ≤ j → j ≤ n → inR (v j)) : eachS v n = (made v n, v (n : Int), []) := by
  unfold eachS
  rw [if_pos ((allB_iff v (n + 1) 0).2 fun j h0 h1 => h j h0 (by omega))]
theorem made_zip (f : Int → Int → Int) {A B : List Int} {n : Nat} (hA : A.length = n) (hB : B.length = n) : made (fun j => f (rd A j) (rd B j)) n = List.zipWith f A B := by
  apply List.ext_getElem
  · simp [made_length, hA, hB]
  · intro j h1 h2
    rw [made_length] at h1
    simp [made, rd_get (show j < A.length by omega), rd_get (show j < B.length by omega)]
theorem made_rd {A : List Int} {n : Nat} (hA : A.length = n) : made (fun j => rd A j) n = A := by
  apply List.ext_getElem
  · simp [made_length, hA]
  · intro j h1 h2
    simp [made, rd_get h2]
theorem part_lt {l : List Int} {K i : Int} (h : i < (l.length : Int)) : partS l K i = rd l i := if_pos h
theorem part_ge {l : List Int} {K i : Int} (h : (l.length : Int) ≤ i) : partS l K i = K := if_neg (by omega)

def inC (c : Int) : Prop := -1073741824 ≤ c ∧ c ≤ 1073741824

/-! numbers beyond the bound; the sum of two forms, one variable less -/
def big (n : Int) : Bool := decide (4611686018427387904 < n) || decide (n < -4611686018427387904)
theorem big_spec (n : Int) : fm_large_1.f n = some (big n) := by
  unfold fm_large_1.f big
  by_cases h : n > 4611686018427387904
  · rw [if_pos h, decide_eq_true h, Bool.true_or]
  · rw [if_neg h, decide_eq_false (show ¬ 4611686018427387904 < n from h), Bool.false_or]
theorem index_l0 (l : List Int) (hl : l.length < 4611686018427387904) : ∀ (d j k : Nat), j + d = l.length → d < k → ∃ r, slices_IndexFunc_int64_int64.l0 largeG k l (l.length : Int) (j : Int) = some r ∧ decide (r ≥ 0) = (l.drop j).any big := by
  intro d
  induction d with
  | zero =>
    intro j k hj hk
    obtain ⟨k, rfl⟩ : ∃ m, k = m + 1 := ⟨k - 1, by omega⟩
    refine ⟨-1, ?_, ?_⟩
    · simp only [slices_IndexFunc_int64_int64.l0]
      rw [if_neg (by omega)]
    · rw [List.drop_of_length_le (by omega)]; rfl
  | succ d ih =>
    intro j k hj hk
    obtain ⟨k, rfl⟩ : ∃ m, k = m + 1 := ⟨k - 1, by omega⟩
    have hlt : j < l.length := by omega
    simp only [slices_IndexFunc_int64_int64.l0]
    rw [if_pos (by omega), if_pos (by omega), if_pos (by omega)]
    have e : largeG.f (rd l (j : Int)) = some (big l[j]) := by rw [rd_get hlt]; exact big_spec _
    rw [e, Option.bind_some, List.drop_eq_getElem_cons hlt, List.any_cons]
    cases hb : big l[j] with
    | true => exact ⟨(j : Int), by rw [if_pos rfl], by simp⟩
    | false =>
      rw [if_neg (by simp), show wrap64 ((j : Int) + 1) = ((j + 1 : Nat) : Int) from by unfold wrap64; omega]
      obtain ⟨r, h1, h2⟩ := ih (j + 1) k (by omega) (by omega)
      exact ⟨r, h1, by rw [h2]; simp⟩
theorem large_spec {k : Nat} {l : List Int} {a : Int} (hl : l.length < 1000) (hk : l.length + 1 < k) : fm_large.f k l a = some ((a :: l).any big) := by
  unfold fm_large.f slices_ContainsFunc_int64_int64.f slices_IndexFunc_int64_int64.f
  rw [Option.bind_some, if_pos (by simp; omega)]
  obtain ⟨r, h1, h2⟩ := index_l0 ([a] ++ l) (by simp; omega) (l.length + 1) 0 k (by simp) hk
  rw [show ((0 : Nat) : Int) = 0 from rfl] at h1
  rw [h1, Option.bind_some, Option.bind_some, h2]
  rfl
theorem small_no {l : List Int} {a : Int} (hl : ∀ z ∈ l, -4611686018427387904 ≤ z ∧ z ≤ 4611686018427387904) (ha : -4611686018427387904 ≤ a ∧ a ≤ 4611686018427387904) : (a :: l).any big = false := by
  rw [List.any_eq_false]
  intro x hx
  have h : -4611686018427387904 ≤ x ∧ x ≤ 4611686018427387904 := by
    rcases List.mem_cons.1 hx with rfl | h
    · exact ha
    · exact hl x h
  simp [big]; omega
theorem inC_R {c : Int} (h : inC c) : inR c := by unfold inC at h; unfold inR; omega
theorem scale_one {l : List Int} {a : Int} (hl : ∀ z ∈ l, inR z) (ha : inR a) (hn : l.length < 35184372088832) : lin_Scale.f l a 1 = some (l, a, []) := by
  rw [scale_l hl ha (show inR 1 by unfold inR; omega) hn, each_ok]
  · have e : made (fun i => partS l a i * 1) l.length = l := by
      rw [made_congr (u := fun j => rd l j) (fun j h0 h1 => by rw [part_lt h1, Int.mul_one]), made_rd rfl]
    rw [e, part_ge (Int.le_refl _), Int.mul_one]
  · intro j h0 h1
    rw [Int.mul_one]; exact part_in h0 hl ha
theorem zip_in {l m : List Int} (hl : ∀ z ∈ l, inC z) (hm : ∀ z ∈ m, inC z) : ∀ z ∈ List.zipWith (fun a b => a + b) l m, -2147483648 ≤ z ∧ z ≤ 2147483648 := by
  induction l generalizing m with
  | nil => simp
  | cons x l ih =>
    cases m with
    | nil => simp
    | cons y m =>
      intro z hz
      rw [List.zipWith_cons_cons] at hz
      rcases List.mem_cons.1 hz with rfl | h
      · have h1 := hl x (by simp)
        have h2 := hm y (by simp)
        unfold inC at h1 h2; omega
      · exact ih (fun z hz => hl z (by simp [hz])) (fun z hz => hm z (by simp [hz])) z h
theorem add_two {l m : List Int} {a b : Int} (h : l.length = m.length) (hl : ∀ z ∈ l, inC z) (hm : ∀ z ∈ m, inC z) (ha : inC a) (hb : inC b) (hn : l.length < 35184372088832) : lin_Add.f l a m b = some (List.zipWith (fun a b => a + b) l m, a + b, []) := by
  rw [add_l h (fun z hz => inC_R (hl z hz)) (fun z hz => inC_R (hm z hz)) (inC_R ha) (inC_R hb) hn, each_ok]
  · have e : made (fun i => partS l a i + partS m b i) l.length = List.zipWith (fun a b => a + b) l m := by
      rw [made_congr (u := fun j => rd l j + rd m j) (fun j h0 h1 => by rw [part_lt h1, part_lt (show j < (m.length : Int) by omega)]), made_zip (fun a b => a + b) rfl h.symm]
    rw [e, part_ge (Int.le_refl _), part_ge (show (m.length : Int) ≤ (l.length : Int) by omega)]
  · intro j h0 h1
    by_cases c : j < (l.length : Int)
    · rw [part_lt c, part_lt (show j < (m.length : Int) by omega)]
      have h1 := hl _ (rd_mem h0 c)
      have h2 := hm _ (rd_mem h0 (show j < (m.length : Int) by omega))
      unfold inC at h1 h2; unfold inR; omega
    · rw [part_ge (by omega), part_ge (by omega)]
      unfold inC at ha hb; unfold inR; omega
theorem gcd_11 {k : Nat} (hk : 5 ≤ k) : num_Gcd.f k 1 1 = some 1 := by
  obtain ⟨k, rfl⟩ : ∃ m, k = m + 5 := ⟨k - 5, by omega⟩
  rfl
theorem row_one {k : Nat} {l m : List Int} {a b : Int} {i : Int} (hk : 30 ≤ k) (h : l.length = m.length) (h0 : 0 ≤ i) (hi : i < (l.length : Int)) (hn : l.length ≤ 16) (h1 : rd l i = 1) (h2 : rd m i = -1) (hl : ∀ z ∈ l, inC z) (hm : ∀ z ∈ m, inC z) (ha : inC a) (hb : inC b) :
    fm_row.f k l a m b i = some (List.zipWith (fun a b => a + b) l m, a + b, true) := by
  unfold fm_row.f
  rw [if_pos h0, if_pos hi, if_pos (show i < (m.length : Int) by omega), h1, h2]
  rw [show wrap64 (-(-1)) = 1 from by unfold wrap64; omega, gcd_11 (by omega), Option.bind_some]
  have e1 : wrap64 1 = 1 := by unfold wrap64; omega
  rw [e1, if_neg (by omega), show Int.tdiv 1 1 = 1 from rfl, e1]
  rw [scale_one (fun z hz => inC_R (hl z hz)) (inC_R ha) (by omega), Option.bind_some]
  rw [if_pos (by simp), scale_one (fun z hz => inC_R (hm z hz)) (inC_R hb) (by omega), Option.bind_some]
  rw [if_pos (by simp)]
  dsimp only
  rw [add_two h hl hm ha hb (by omega), Option.bind_some, if_pos (by simp)]
  dsimp only
  have hs : ∀ {z : Int}, inC z → -4611686018427387904 ≤ z ∧ z ≤ 4611686018427387904 := fun h => by unfold inC at h; omega
  have hz := zip_in hl hm
  rw [large_spec (by omega) (by omega), small_no (fun z hz => hs (hl z hz)) (hs ha), Option.bind_some, if_neg (by simp)]
  rw [large_spec (by omega) (by omega), small_no (fun z hz => hs (hm z hz)) (hs hb), Option.bind_some, if_neg (by simp)]
  rw [large_spec (by simp; omega) (by simp; omega), small_no (fun z h => by have := hz z h; omega) (by unfold inC at ha hb; omega), Option.bind_some]
  rfl

end Go.Proofs.Ytmglfimdhbooeaa.Pure
