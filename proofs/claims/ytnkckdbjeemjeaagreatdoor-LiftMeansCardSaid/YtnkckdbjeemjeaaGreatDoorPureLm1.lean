/- Forms of two names, of any numbers; no conditions. -/
import Derived.Test.YtnkckdbjeemjeaaGreatDoorPureEv1
import Derived.Test.YtnkckdbjeemjeaaGreatDoorXx3
import Derived.Test.YtnkckdbjeemjeaaGreatDoorXx24
import Derived.Test.YtnkckdbjeemjeaaGreatDoorHandL
import Derived.Test.YtnkckdbjeemjeaaGreatDoorHandC
import Derived.Test.YtnkckdbjeemjeaaGreatDoorXx1
import Derived.Test.YtnkckdbjeemjeaaGreatDoorXx14
import Derived.Test.YtnkckdbjeemjeaaGreatDoorXx21
import Derived.Laws.Bits64
namespace Go.Proofs.YtnkckdbjeemjeaaGreatDoor.Pure
open Go.RowKit Go.Proofs.YtnkckdbjeemjeaaGreatDoor.X Go.Proofs.YtnkckdbjeemjeaaGreatDoor.Flt Go.Proofs.YtnkckdbjeemjeaaGreatDoor.H Go.Proofs.YtnkckdbjeemjeaaGreatDoorW.PrintWords Go.Proofs.YtnkckdbjeemjeaaGreatDoorW.PrintLast Go.Proofs.YtnkckdbjeemjeaaGreatDoorW.PrintMore
set_option linter.unusedVariables false
set_option linter.unusedSimpArgs false
theorem size_spec {a : Int} (h : -9223372036854775808 ≤ a ∧ a ≤ 9223372036854775807) : num_size.f a = some (a.natAbs : Int) := by
  unfold num_size.f; simp only [IntKind.wrap_u64]; split <;> (congr 1; omega)

def inR (a : Int) : Prop := -9223372036854775808 ≤ a ∧ a ≤ 9223372036854775807
instance inRd (a : Int) : Decidable (inR a) := by unfold inR; infer_instance
def chk (a : Int) : Int × Bool := if inR a then (a, true) else (0, false)
theorem chk_yes {a : Int} (h : inR a) : chk a = (a, true) := if_pos h
theorem chk_no {a : Int} (h : ¬ inR a) : chk a = (0, false) := if_neg h
theorem add_spec {a b : Int} (ha : inR a) (hb : inR b) : num_Add.f a b = some (chk (a + b)) := by
  unfold num_Add.f
  by_cases hr : inR (a + b)
  · rw [chk_yes hr, w64 hr]; unfold inR at *
    by_cases h1 : a < 0 <;> by_cases h2 : b < 0 <;> by_cases h3 : a + b < 0 <;> first | (simp [h1, h2, h3]; done) | (exfalso; omega)
  · rw [chk_no hr]
    have e : wrap64 (a + b) = if a < 0 then a + b + 18446744073709551616 else a + b - 18446744073709551616 := by unfold wrap64 inR at *; split <;> omega
    rw [e]; unfold inR at *
    by_cases h1 : a < 0 <;> by_cases h2 : b < 0 <;> first | (exfalso; omega) | skip
    · have h3 : ¬ a + b + 18446744073709551616 < 0 := by omega
      simp [h1, h2, h3]
    · have h3 : a + b - 18446744073709551616 < 0 := by omega
      simp [h1, h2, h3]
theorem sub_spec {a b : Int} (ha : inR a) (hb : inR b) : num_Sub.f a b = some (chk (a - b)) := by
  unfold num_Sub.f
  by_cases hr : inR (a - b)
  · rw [chk_yes hr, w64 hr]; unfold inR at *
    by_cases h1 : a < 0 <;> by_cases h2 : b < 0 <;> by_cases h3 : a - b < 0 <;> first | (simp [h1, h2, h3]; done) | (exfalso; omega)
  · rw [chk_no hr]
    have e : wrap64 (a - b) = if a < 0 then a - b + 18446744073709551616 else a - b - 18446744073709551616 := by unfold wrap64 inR at *; split <;> omega
    rw [e]; unfold inR at *
    by_cases h1 : a < 0 <;> by_cases h2 : b < 0 <;> first | (exfalso; omega) | skip
    · have h3 : ¬ a - b + 18446744073709551616 < 0 := by omega
      simp [h1, h2, h3]
    · have h3 : a - b - 18446744073709551616 < 0 := by omega
      simp [h1, h2, h3]
theorem and_low (a : Nat) (h : a < 18446744073709551616) : Go.bits .and .u64 (a : Int) 4294967295 = ((a % 4294967296 : Nat) : Int) := by
  have h1 : (BitVec.ofInt 64 (a : Int)).toNat = a := by
    rw [BitVec.ofInt_natCast, BitVec.toNat_ofNat]; exact Nat.mod_eq_of_lt (by omega)
  have h2 : (BitVec.ofInt 64 (4294967295 : Int)).toNat = 2 ^ 32 - 1 := rfl
  show IntKind.u64.wrap ((BitVec.ofInt 64 (a : Int) &&& BitVec.ofInt 64 4294967295).toNat : Int) = _
  rw [BitVec.toNat_and, h1, h2, Nat.and_two_pow_sub_one_eq_mod, IntKind.wrap_u64]
  omega
theorem mul64_spec (x y : Nat) (hx : x < 18446744073709551616) (hy : y < 18446744073709551616) :
    bits_Mul64.f (x : Int) (y : Int) = some (((x * y / 18446744073709551616 : Nat) : Int), ((x * y % 18446744073709551616 : Nat) : Int)) := by
  unfold bits_Mul64.f
  rw [and_low x hx, and_low y hy]
  simp only [IntKind.wrap_u64]
  have dx : x = (x / 4294967296) * 4294967296 + x % 4294967296 := by omega
  have dy : y = (y / 4294967296) * 4294967296 + y % 4294967296 := by omega
  have bx1 : x / 4294967296 ≤ 4294967295 := by omega
  have by1 : y / 4294967296 ≤ 4294967295 := by omega
  have bx0 : x % 4294967296 ≤ 4294967295 := by omega
  have by0 : y % 4294967296 ≤ 4294967295 := by omega
  have ex : (x : Int) / 4294967296 = ((x / 4294967296 : Nat) : Int) := by omega
  have ey : (y : Int) / 4294967296 = ((y / 4294967296 : Nat) : Int) := by omega
  rw [ex, ey]
  have hp : x * y = (x / 4294967296) * (y / 4294967296) * 18446744073709551616 + ((x / 4294967296) * (y % 4294967296) + (x % 4294967296) * (y / 4294967296)) * 4294967296 + (x % 4294967296) * (y % 4294967296) := by
    have e : x * y = ((x / 4294967296) * 4294967296 + x % 4294967296) * ((y / 4294967296) * 4294967296 + y % 4294967296) := by rw [← dx, ← dy]
    rw [e]
    generalize x / 4294967296 = p
    generalize x % 4294967296 = q
    generalize y / 4294967296 = r
    generalize y % 4294967296 = s
    simp only [Nat.add_mul, Nat.mul_add]
    have a1 : p * 4294967296 * (r * 4294967296) = p * r * 18446744073709551616 := by rw [Nat.mul_mul_mul_comm]
    have a2 : p * 4294967296 * s = p * s * 4294967296 := by rw [Nat.mul_right_comm]
    have a3 : q * (r * 4294967296) = q * r * 4294967296 := by rw [Nat.mul_assoc]
    rw [a1, a2, a3]; omega
  have hpi : (x : Int) * (y : Int) = ((x * y : Nat) : Int) := by exact_mod_cast rfl
  rw [hpi, hp]
  generalize x / 4294967296 = p at *
  generalize x % 4294967296 = q at *
  generalize y / 4294967296 = r at *
  generalize y % 4294967296 = s at *
  have c1 : (p : Int) * (r : Int) = ((p * r : Nat) : Int) := by exact_mod_cast rfl
  have c2 : (p : Int) * (s : Int) = ((p * s : Nat) : Int) := by exact_mod_cast rfl
  have c3 : (q : Int) * (r : Int) = ((q * r : Nat) : Int) := by exact_mod_cast rfl
  have c4 : (q : Int) * (s : Int) = ((q * s : Nat) : Int) := by exact_mod_cast rfl
  rw [c1, c2, c3, c4]
  have l1 : p * r ≤ 4294967295 * 4294967295 := Nat.mul_le_mul bx1 by1
  have l2 : p * s ≤ 4294967295 * 4294967295 := Nat.mul_le_mul bx1 by0
  have l3 : q * r ≤ 4294967295 * 4294967295 := Nat.mul_le_mul bx0 by1
  have l4 : q * s ≤ 4294967295 * 4294967295 := Nat.mul_le_mul bx0 by0
  clear hp hpi c1 c2 c3 c4 dx dy ex ey hx hy
  generalize p * r = A at *
  generalize p * s = B at *
  generalize q * r = C at *
  generalize q * s = D at *
  rw [show ((B : Int) % 18446744073709551616 + (D : Int) % 18446744073709551616 / 4294967296) % 18446744073709551616 = ((B + D / 4294967296 : Nat) : Int) by omega]
  have t1 : (Go.bits .and .u64 (((B + D / 4294967296 : Nat)) : Int) 4294967295) = (((B + D / 4294967296) % 4294967296 : Nat) : Int) := and_low _ (by omega)
  rw [t1]
  congr 1
  refine Prod.ext ?_ ?_
  · show _ = _
    simp only []
    omega
  · show _ = _
    simp only []
    omega
theorem mul_sign (a b : Int) : a * b = if (decide (a < 0) != decide (b < 0)) = true then -((a.natAbs * b.natAbs : Nat) : Int) else ((a.natAbs * b.natAbs : Nat) : Int) := by
  have h : ((a.natAbs * b.natAbs : Nat) : Int) = (a.natAbs : Int) * (b.natAbs : Int) := by exact_mod_cast rfl
  rw [h]
  by_cases h1 : a < 0 <;> by_cases h2 : b < 0
  · rw [if_neg (by simp [h1, h2]), show (a.natAbs : Int) = -a by omega, show (b.natAbs : Int) = -b by omega, Int.neg_mul_neg]
  · rw [if_pos (by simp [h1, h2]), show (a.natAbs : Int) = -a by omega, show (b.natAbs : Int) = b by omega, Int.neg_mul, Int.neg_neg]
  · rw [if_pos (by simp [h1, h2]), show (a.natAbs : Int) = a by omega, show (b.natAbs : Int) = -b by omega, Int.mul_neg, Int.neg_neg]
  · rw [if_neg (by simp [h1, h2]), show (a.natAbs : Int) = a by omega, show (b.natAbs : Int) = b by omega]
theorem mul_spec {k : Nat} {a b : Int} (hk : 2 ≤ k) (ha : inR a) (hb : inR b) : num_Mul.f k a b = some (chk (a * b)) := by
  obtain ⟨k, rfl⟩ : ∃ m, k = m + 2 := ⟨k - 2, by omega⟩
  unfold num_Mul.f
  rw [size_spec ha, size_spec hb]; simp only [Option.bind_some]
  rw [mul64_spec _ _ (by unfold inR at ha; omega) (by unfold inR at hb; omega)]; simp only [Option.bind_some]
  have hs := mul_sign a b
  generalize a.natAbs * b.natAbs = P at *
  by_cases hd : (decide (a < 0) != decide (b < 0)) = true
  · rw [if_pos hd] at hs
    rw [if_pos hd, hd, hs]
    by_cases h0 : (((P / 18446744073709551616 : Nat)) : Int) > 0
    · simp only [num_Mul.j0, if_pos h0, num_Mul.j1, if_true]
      rw [chk_no (by unfold inR; omega)]
    · simp only [num_Mul.j0, if_neg h0, num_Mul.j1]
      by_cases h1 : ((P % 18446744073709551616 : Nat) : Int) > 9223372036854775807 + 1
      · rw [if_pos (decide_eq_true h1), chk_no (by unfold inR; omega)]
      · rw [if_neg (by simpa using h1), if_pos trivial, chk_yes (by unfold inR; omega), IntKind.wrap_u64]
        congr 2; unfold wrap64; omega
  · rw [if_neg hd] at hs
    rw [if_neg hd, Bool.eq_false_iff.2 hd, hs]
    by_cases h0 : (((P / 18446744073709551616 : Nat)) : Int) > 0
    · simp only [num_Mul.j0, if_pos h0, num_Mul.j1, if_true]
      rw [chk_no (by unfold inR; omega)]
    · simp only [num_Mul.j0, if_neg h0, num_Mul.j1]
      by_cases h1 : ((P % 18446744073709551616 : Nat) : Int) > 9223372036854775807
      · rw [if_pos (decide_eq_true h1), chk_no (by unfold inR; omega)]
      · rw [if_neg (by simpa using h1), if_neg (by simp), chk_yes (by unfold inR; omega)]
        congr 2; unfold wrap64; omega
theorem radd_spec {a b : Int} (ha : inR a) (hb : inR b) : furrowref4_Add.f a b = some (chk (a + b)) := by
  unfold furrowref4_Add.f
  have hd : inR (a + b) ∧ wrap64 (a + b) = a + b ∨ ¬ inR (a + b) ∧ (0 < b ∧ wrap64 (a + b) = a + b - 18446744073709551616 ∨ b < 0 ∧ wrap64 (a + b) = a + b + 18446744073709551616) := by unfold wrap64 inR at *; omega
  rcases hd with ⟨hr, e⟩ | ⟨hr, ⟨hb0, e⟩ | ⟨hb0, e⟩⟩
  · rw [chk_yes hr, e]; unfold inR at *
    repeat' split
    all_goals first | rfl | (exfalso; omega)
  all_goals
    rw [chk_no hr, e]; unfold inR at *
    repeat' split
    all_goals first | rfl | (exfalso; omega)
theorem rsub_spec {a b : Int} (ha : inR a) (hb : inR b) : furrowref4_Sub.f a b = some (chk (a - b)) := by
  unfold furrowref4_Sub.f
  have hd : inR (a - b) ∧ wrap64 (a - b) = a - b ∨ ¬ inR (a - b) ∧ (b < 0 ∧ wrap64 (a - b) = a - b - 18446744073709551616 ∨ 0 < b ∧ wrap64 (a - b) = a - b + 18446744073709551616) := by unfold wrap64 inR at *; omega
  rcases hd with ⟨hr, e⟩ | ⟨hr, ⟨hb0, e⟩ | ⟨hb0, e⟩⟩
  · rw [chk_yes hr, e]; unfold inR at *
    repeat' split
    all_goals first | rfl | (exfalso; omega)
  all_goals
    rw [chk_no hr, e]; unfold inR at *
    repeat' split
    all_goals first | rfl | (exfalso; omega)
theorem tdiv_in {c b : Int} (hc : inR c) : Int.natAbs (c.tdiv b) ≤ 9223372036854775808 := by
  rw [Int.natAbs_tdiv]; exact Nat.le_trans (Nat.div_le_self _ _) (by unfold inR at hc; omega)
theorem rmul1 {k : Nat} {a b : Int} (ha : inR a) (hb : inR b) (h0 : b ≠ 0) (hx : ¬ (a = -9223372036854775808 ∧ b = -1)) (hy : ¬ (b = -9223372036854775808 ∧ a = -1)) :
    furrowref4_Mul.j1 (k + 1) a b false = some (chk (a * b)) := by
  simp only [furrowref4_Mul.j1]
  rw [if_neg (by simp), if_neg h0]
  by_cases hr : inR (a * b)
  · rw [chk_yes hr, w64 hr, Int.mul_tdiv_cancel _ h0, if_pos (w64 ha)]
  · rw [chk_no hr, if_neg]
    intro e
    have hc : inR (wrap64 (a * b)) := by unfold inR wrap64; omega
    have hm : ∃ m : Int, a * b = wrap64 (a * b) + m * 18446744073709551616 ∧ m ≠ 0 := by
      refine ⟨(a * b - wrap64 (a * b)) / 18446744073709551616, ?_, ?_⟩
      · unfold wrap64; omega
      · intro e0; apply hr; unfold inR wrap64 at *; omega
    obtain ⟨m, e1, hm⟩ := hm
    have e2 := Int.mul_tdiv_add_tmod (wrap64 (a * b)) b
    have e3 : (Int.tmod (wrap64 (a * b)) b).natAbs < b.natAbs := by
      rw [Int.natAbs_tmod]; exact Nat.mod_lt _ (by omega)
    have e4 := @tdiv_in (wrap64 (a * b)) b hc
    have e5 : (wrap64 (a * b)).tdiv b = a := by
      by_cases h9 : (wrap64 (a * b)).tdiv b = 9223372036854775808
      · exfalso
        rw [h9] at e
        have ha' : a = -9223372036854775808 := by rw [← e]; unfold wrap64; omega
        rw [h9] at e2
        apply hx
        refine ⟨ha', ?_⟩
        unfold inR at *
        omega
      · exact (w64 (by omega)).symm.trans e
    rw [e5, Int.mul_comm b a] at e2
    unfold inR at *
    omega
theorem rmul_spec {k : Nat} {a b : Int} (hk : 2 ≤ k) (ha : inR a) (hb : inR b) : furrowref4_Mul.f k a b = some (chk (a * b)) := by
  obtain ⟨k, rfl⟩ : ∃ m, k = m + 2 := ⟨k - 2, by omega⟩
  unfold furrowref4_Mul.f
  by_cases h0 : a = 0
  · subst h0; rw [if_pos rfl, Int.zero_mul]; simp only [furrowref4_Mul.j0, if_true]; rfl
  · rw [if_neg h0]
    by_cases h1 : b = 0
    · subst h1; simp only [Int.mul_zero, furrowref4_Mul.j0]; rfl
    · have h1' : (b == 0) = false := by simpa using h1
      rw [h1']; simp only [furrowref4_Mul.j0]; rw [if_neg (by simp)]
      by_cases h2 : a = -1
      · rw [if_pos h2]
        by_cases h3 : b = -9223372036854775808
        · rw [if_pos h3]; subst h2 h3; rfl
        · rw [if_neg h3, rmul1 ha hb h1 (by omega) (by omega)]
          have h4 : (a == -9223372036854775808) = false := by subst h2; rfl
          rw [h4, rmul1 ha hb h1 (by omega) (by omega)]; split <;> rfl
      · rw [if_neg h2]
        by_cases h3 : b = -1
        · rw [if_pos h3]
          by_cases h4 : a = -9223372036854775808
          · subst h3 h4; rfl
          · rw [show (a == -9223372036854775808) = false by simpa using h4]
            exact rmul1 ha hb h1 (by omega) (by omega)
        · rw [if_neg h3]; exact rmul1 ha hb h1 (by omega) (by omega)

theorem rd_drop {l : List Int} {i : Int} (h0 : 0 ≤ i) (h : i < (l.length : Int)) : l.drop i.toNat = rd l i :: l.drop (i + 1).toNat := by
  have hn : i.toNat < l.length := by omega
  have e : (i + 1).toNat = i.toNat + 1 := by omega
  rw [List.drop_eq_getElem_cons hn, e]
  congr 1
  simp [rd, List.getD, hn]
theorem rd_mem {l : List Int} {i : Int} (h0 : 0 ≤ i) (h : i < (l.length : Int)) : rd l i ∈ l := by
  have hn : i.toNat < l.length := by omega
  have e : rd l i = l[i.toNat] := by simp [rd, List.getD, hn]
  rw [e]; exact List.getElem_mem hn
theorem drop_end {l : List Int} {i : Int} (h : (l.length : Int) ≤ i) : l.drop i.toNat = [] := List.drop_of_length_le (by omega)
def fltE (c : Int) : List Flt := [⟨⟨#[102, 111, 114, 109]⟩, 0, some c⟩]
theorem fault_eq (c : Int) : lin_fault.f c = some (fltE c) := rfl

def sameS : List Int → List Int → Bool
  | [], [] => true
  | a :: l, [] => a == 0 && sameS l []
  | [], b :: m => 0 == b && sameS [] m
  | a :: l, b :: m => a == b && sameS l m
theorem same_l {l m : List Int} {a b n : Int} (hn : n = mx (l.length : Int) (m.length : Int)) (hl : l.length < 4611686018427387904) (hm : m.length < 4611686018427387904) (d : Nat) :
    ∀ (k : Nat) (i : Int), 0 ≤ i → n - i = d → 2 * d + 1 < k → lin_Same.l0 k n i l a m b = some (sameS (l.drop i.toNat) (m.drop i.toNat) && (a == b)) := by
  have e : ((l.length : Int) ≤ n ∧ (m.length : Int) ≤ n) ∧ (n = (l.length : Int) ∨ n = (m.length : Int)) := by rw [hn]; unfold mx; split <;> omega
  induction d with
  | zero =>
    intro k i h0 hd hk
    obtain ⟨k, rfl⟩ : ∃ m, k = m + 1 := ⟨k - 1, by omega⟩
    simp only [lin_Same.l0]
    rw [if_neg (by omega), drop_end (by omega), drop_end (by omega)]
    simp [sameS]
  | succ d ih =>
    intro k i h0 hd hk
    obtain ⟨k, rfl⟩ : ∃ m, k = m + 1 := ⟨k - 1, by omega⟩
    obtain ⟨k, rfl⟩ : ∃ m, k = m + 1 := ⟨k - 1, by omega⟩
    have r := ih k (i + 1) (by omega) (by omega) (by omega)
    simp only [lin_Same.l0]
    rw [if_pos (by omega)]
    by_cases c1 : i < (l.length : Int)
    · rw [if_pos c1, if_pos h0, rd_drop h0 c1]
      simp only [lin_Same.j1]
      by_cases c2 : i < (m.length : Int)
      · rw [if_pos c2, if_pos h0, rd_drop h0 c2, w64 (by omega)]
        by_cases c : rd l i = rd m i
        · rw [if_pos c, r]; simp [sameS, c]
        · rw [if_neg c]; simp [sameS, c]
      · rw [if_neg c2, drop_end (l := m) (by omega), w64 (by omega)]
        rw [drop_end (l := m) (i := i + 1) (by omega)] at r
        by_cases c : rd l i = 0
        · rw [if_pos c, r]; simp [sameS, c]
        · rw [if_neg c]; simp [sameS, c]
    · have c2 : i < (m.length : Int) := by omega
      rw [if_neg c1, drop_end (l := l) (by omega), rd_drop h0 c2]
      rw [drop_end (l := l) (i := i + 1) (by omega)] at r
      simp only [lin_Same.j1]
      rw [if_pos c2, if_pos h0, w64 (by omega)]
      by_cases c : 0 = rd m i
      · rw [if_pos c, r]; simp [sameS, ← c]
      · rw [if_neg c]; simp [sameS, c]
theorem same_spec {l m : List Int} {a b : Int} {k : Nat} (hl : l.length < 4611686018427387904) (hm : m.length < 4611686018427387904) (hk : 2 * (l.length + m.length) + 2 < k) : lin_Same.f k l a m b = some (sameS l m && (a == b)) := by
  unfold lin_Same.f
  have e : mx (l.length : Int) (m.length : Int) = ((if l.length < m.length then m.length else l.length : Nat) : Int) := by unfold mx; split <;> split <;> omega
  rw [same_l rfl hl hm (if l.length < m.length then m.length else l.length) k 0 (by omega) (by rw [e]; omega) (by split <;> omega)]
  rfl
theorem sameS_refl : ∀ l : List Int, sameS l l = true
  | [] => by simp [sameS]
  | a :: l => by simp [sameS, sameS_refl l]
def allB (v : Int → Int) : Int → Nat → Bool
  | _, 0 => true
  | i, d + 1 => decide (inR (v i)) && allB v (i + 1) d
def made (v : Int → Int) (n : Nat) : List Int := (List.range n).map fun (j : Nat) => v (j : Int)
theorem made_length (v : Int → Int) (n : Nat) : (made v n).length = n := by simp [made]
theorem made_succ (v : Int → Int) (n : Nat) : made v (n + 1) = made v n ++ [v (n : Int)] := by simp [made, List.range_succ]
def eachS (v : Int → Int) (n : Nat) : List Int × Int × List Flt := if allB v 0 (n + 1) = true then (made v n, v (n : Int), []) else ([], 0, fltE 5)
theorem set_made (v : Int → Int) (j r : Nat) (x : Int) : (made v j ++ List.replicate (r + 1) 0).set j x = made v j ++ [x] ++ List.replicate r 0 := by
  rw [List.set_append]
  simp [made_length, List.replicate_succ]
theorem each_l {GG : CloA} {v : Int → Int} {n : Nat} (hn : n < 35184372088833) (hg : ∀ i : Int, 0 ≤ i → i ≤ n → GG.f i = some (chk (v i))) (d : Nat) :
    ∀ (k : Nat) (j : Nat), j + d = n → d + 2 < k → lin_each.l0 GG k (n : Int) ((n : Int) + 1) (j : Int) (made v j ++ List.replicate d 0) 0 = some (if allB v (j : Int) (d + 1) = true then (made v n, v (n : Int), []) else ([], 0, fltE 5)) := by
  induction d with
  | zero =>
    intro k j hj hk
    obtain ⟨k, rfl⟩ : ∃ m, k = m + 1 := ⟨k - 1, by omega⟩
    obtain ⟨k, rfl⟩ : ∃ m, k = m + 1 := ⟨k - 1, by omega⟩
    obtain rfl : j = n := by omega
    rw [lin_each.l0, if_pos (by omega), hg _ (by omega) (by omega)]
    simp only [Option.bind_some]
    by_cases h : inR (v (j : Int))
    · have e : allB v (j : Int) (0 + 1) = true := by simp [allB, h]
      rw [chk_yes h, e, if_pos rfl, if_pos rfl, if_neg (by omega), w64 (by omega), lin_each.l0, if_neg (by omega)]
      simp
    · have e : allB v (j : Int) (0 + 1) = false := by simp [allB, h]
      rw [chk_no h, e, if_neg (by simp), if_neg (by simp), fault_eq]
      rfl
  | succ d ih =>
    intro k j hj hk
    obtain ⟨k, rfl⟩ : ∃ m, k = m + 1 := ⟨k - 1, by omega⟩
    rw [lin_each.l0, if_pos (by omega), hg _ (by omega) (by omega)]
    simp only [Option.bind_some]
    by_cases h : inR (v (j : Int))
    · have r := ih k (j + 1) (by omega) (by omega)
      have e : allB v (j : Int) (d + 1 + 1) = allB v ((j : Int) + 1) (d + 1) := by rw [allB, decide_eq_true h, Bool.true_and]
      rw [chk_yes h, e, if_pos rfl, if_pos (by omega), if_pos (by omega), if_pos (by simp [made_length]; omega), w64 (by omega)]
      have e2 : ((j : Int) + 1) = ((j + 1 : Nat) : Int) := by omega
      rw [show (((j : Int)).toNat) = j from rfl, set_made, ← made_succ, e2, r]
    · have e : allB v (j : Int) (d + 1 + 1) = false := by rw [allB, decide_eq_false h, Bool.false_and]
      rw [chk_no h, e, if_neg (by simp), if_neg (by simp), fault_eq]
      rfl
theorem each_spec {GG : CloA} {v : Int → Int} {n k : Nat} (hn : n < 35184372088832) (hg : ∀ i : Int, 0 ≤ i → i ≤ n → GG.f i = some (chk (v i))) (hk : n + 2 < k) : lin_each.f GG k (n : Int) = some (eachS v n) := by
  unfold lin_each.f
  rw [if_pos (by omega), if_pos (by omega), w64 (by omega)]
  have r := each_l (GG := GG) (v := v) (n := n) (by omega) hg n k 0 (by omega) hk
  simp only [made, List.range_zero, List.map_nil, List.nil_append] at r
  exact r
def partS (l : List Int) (K : Int) (i : Int) : Int := if i < (l.length : Int) then rd l i else K
theorem part_spec {l : List Int} {K i : Int} (h : 0 ≤ i) : lin_Form_part.f l K i = some (partS l K i) := by
  unfold lin_Form_part.f partS
  by_cases c : i < (l.length : Int)
  · rw [if_pos c, if_pos h, if_pos c]
  · rw [if_neg c, if_neg c]
theorem part_in {l : List Int} {K i : Int} (h0 : 0 ≤ i) (hl : ∀ z ∈ l, inR z) (hK : inR K) : inR (partS l K i) := by
  unfold partS; split
  · exact hl _ (rd_mem h0 ‹_›)
  · exact hK
theorem add_l {l m : List Int} {a b : Int} (h : l.length = m.length) (hl : ∀ z ∈ l, inR z) (hm : ∀ z ∈ m, inR z) (ha : inR a) (hb : inR b) (hlen : l.length < 35184372088832) :
    lin_Add.f l a m b = some (eachS (fun i => partS l a i + partS m b i) l.length) := by
  unfold lin_Add.f addE
  rw [if_pos (by omega), each_spec (v := fun i => partS l a i + partS m b i) hlen (fun i h0 hi => ?_) (by omega)]
  · rfl
  · simp only [part_spec h0, Option.bind_some]
    exact add_spec (part_in h0 hl ha) (part_in h0 hm hb)
theorem scale_l {l : List Int} {a c : Int} (hl : ∀ z ∈ l, inR z) (ha : inR a) (hc : inR c) (hlen : l.length < 35184372088832) :
    lin_Scale.f l a c = some (eachS (fun i => partS l a i * c) l.length) := by
  unfold lin_Scale.f scaleE
  rw [each_spec (v := fun i => partS l a i * c) hlen (fun i h0 hi => ?_) (by omega)]
  · rfl
  · simp only [part_spec h0, Option.bind_some]
    exact mul_spec (by omega) (part_in h0 hl ha) hc
theorem allB_iff (v : Int → Int) (d : Nat) : ∀ i : Int, allB v i d = true ↔ ∀ j : Int, i ≤ j → j < i + d → inR (v j) := by
  induction d with
  | zero => intro i; simp [allB]; omega
  | succ d ih =>
    intro i
    simp only [allB, Bool.and_eq_true, decide_eq_true_eq, ih]
    constructor
    · rintro ⟨h1, h2⟩ j hj hj'
      by_cases e : i = j
      · subst e; exact h1
      · exact h2 j (by omega) (by omega)
    · intro h
      exact ⟨h i (by omega) (by omega), fun j hj hj' => h j (by omega) (by omega)⟩
theorem each_ok {v : Int → Int} {n : Nat} (h : ∀ j : Int, 0 ≤ j → j ≤ n → inR (v j)) : eachS v n = (made v n, v (n : Int), []) := by
  unfold eachS
  rw [if_pos ((allB_iff v (n + 1) 0).2 fun j h0 h1 => h j h0 (by omega))]
theorem part_lt {l : List Int} {K i : Int} (h : i < (l.length : Int)) : partS l K i = rd l i := if_pos h
theorem part_ge {l : List Int} {K i : Int} (h : (l.length : Int) ≤ i) : partS l K i = K := if_neg (by omega)

def refE (c : Int) : List S90 × Int := ([⟨⟨#[102, 111, 114, 109]⟩, 0⟩], c)
theorem over_eq : furrowref14_over.f = some (refE 5) := rfl
def errR (f : List Flt) : List S90 × Int := if f.isEmpty = true then ([], 0) else refE 5
theorem const_ref {n : Nat} (hn : n < 35184372088832) : furrowref14_Const.f (n : Int) 0 = some (List.replicate n 0, 0) := by
  unfold furrowref14_Const.f
  rw [if_neg (by omega), if_pos (by omega), Int.toNat_natCast, if_pos (by omega)]
def eachR (v : Int → Int) (n : Nat) : List Int × Int × List S90 × Int := ((eachS v n).1, (eachS v n).2.1, errR (eachS v n).2.2)
theorem radd_l {l m : List Int} {a b : Int} {n : Nat} (hn : n < 35184372088832) (hl0 : l.length = n) (hm0 : m.length = n) (hl : ∀ z ∈ l, inR z) (hm : ∀ z ∈ m, inR z) (ha : inR a) (hb : inR b) (d : Nat) :
    ∀ (k j : Nat), j + d = n → d < k → furrowref14_Add.l0 k (j : Int) l a m b (made (fun i => partS l a i + partS m b i) j ++ List.replicate d 0) 0
      = some (if allB (fun i => partS l a i + partS m b i) (j : Int) (d + 1) = true then (made (fun i => partS l a i + partS m b i) n, partS l a (n : Int) + partS m b (n : Int), [], 0) else ([], 0, refE 5)) := by
  induction d with
  | zero =>
    intro k j hj hk
    obtain ⟨k, rfl⟩ : ∃ m, k = m + 1 := ⟨k - 1, by omega⟩
    obtain rfl : j = n := by omega
    have e1 : partS l a (j : Int) = a := part_ge (by omega)
    have e2 : partS m b (j : Int) = b := part_ge (by omega)
    simp only [furrowref14_Add.l0]
    rw [if_neg (by omega), radd_spec ha hb, Option.bind_some, e1, e2]
    by_cases h : inR (a + b)
    · have e : allB (fun i => partS l a i + partS m b i) (j : Int) (0 + 1) = true := by simp [allB, e1, e2, h]
      rw [chk_yes h, e, if_pos rfl, if_pos rfl]
      simp
    · have e : allB (fun i => partS l a i + partS m b i) (j : Int) (0 + 1) = false := by simp [allB, e1, e2, h]
      rw [chk_no h, e, if_neg (by simp), if_neg (by simp), over_eq]
      rfl
  | succ d ih =>
    intro k j hj hk
    obtain ⟨k, rfl⟩ : ∃ m, k = m + 1 := ⟨k - 1, by omega⟩
    have e1 : partS l a (j : Int) = rd l (j : Int) := part_lt (by omega)
    have e2 : partS m b (j : Int) = rd m (j : Int) := part_lt (by omega)
    simp only [furrowref14_Add.l0]
    rw [if_pos (by omega), if_pos (by omega), if_pos (by omega), radd_spec (hl _ (rd_mem (by omega) (by omega))) (hm _ (rd_mem (by omega) (by omega))), Option.bind_some]
    by_cases h : inR (rd l (j : Int) + rd m (j : Int))
    · have r := ih k (j + 1) (by omega) (by omega)
      have e : allB (fun i => partS l a i + partS m b i) (j : Int) (d + 1 + 1) = allB (fun i => partS l a i + partS m b i) ((j : Int) + 1) (d + 1) := by rw [allB]; simp only [e1, e2]; rw [decide_eq_true h, Bool.true_and]
      rw [chk_yes h, e, if_pos rfl, if_pos (by simp [made_length]; omega), w64 (by omega)]
      have e3 : ((j : Int) + 1) = ((j + 1 : Nat) : Int) := by omega
      have e4 : rd l (j : Int) + rd m (j : Int) = (fun i => partS l a i + partS m b i) (j : Int) := by simp only [e1, e2]
      rw [show (((j : Int)).toNat) = j from rfl]
      dsimp only
      rw [set_made, e4, ← made_succ, e3, r]
    · have e : allB (fun i => partS l a i + partS m b i) (j : Int) (d + 1 + 1) = false := by rw [allB]; simp only [e1, e2]; rw [decide_eq_false h, Bool.false_and]
      rw [chk_no h, e, if_neg (by simp), if_neg (by simp), over_eq]
      rfl
theorem eachR_eq (v : Int → Int) (n : Nat) : (if allB v 0 (n + 1) = true then (made v n, v (n : Int), ([] : List S90), (0 : Int)) else ([], 0, refE 5)) = eachR v n := by
  unfold eachR eachS
  by_cases h : allB v 0 (n + 1) = true
  · rw [if_pos h, if_pos h]; rfl
  · rw [if_neg h, if_neg h]; rfl
theorem radd {l m : List Int} {a b : Int} {k : Nat} (h : l.length = m.length) (hl : ∀ z ∈ l, inR z) (hm : ∀ z ∈ m, inR z) (ha : inR a) (hb : inR b) (hlen : l.length < 35184372088832) (hk : l.length < k) :
    furrowref14_Add.f k l a m b = some (eachR (fun i => partS l a i + partS m b i) l.length) := by
  unfold furrowref14_Add.f
  rw [if_pos (by omega), const_ref hlen, Option.bind_some]
  have r := radd_l (a := a) (b := b) hlen rfl h.symm hl hm ha hb l.length k 0 (by omega) hk
  simp only [made, List.range_zero, List.map_nil, List.nil_append] at r
  rw [← eachR_eq]
  exact r
theorem rscale_l {l : List Int} {a c : Int} {n : Nat} (hn : n < 35184372088832) (hl0 : l.length = n) (hl : ∀ z ∈ l, inR z) (ha : inR a) (hc : inR c) (d : Nat) :
    ∀ (k j : Nat), j + d = n → d + 5 < k → furrowref14_Scale.l0 k c (j : Int) l a (made (fun i => partS l a i * c) j ++ List.replicate d 0) 0
      = some (if allB (fun i => partS l a i * c) (j : Int) (d + 1) = true then (made (fun i => partS l a i * c) n, partS l a (n : Int) * c, [], 0) else ([], 0, refE 5)) := by
  induction d with
  | zero =>
    intro k j hj hk
    obtain ⟨k, rfl⟩ : ∃ m, k = m + 1 := ⟨k - 1, by omega⟩
    obtain rfl : j = n := by omega
    have e1 : partS l a (j : Int) = a := part_ge (by omega)
    simp only [furrowref14_Scale.l0]
    rw [if_neg (by omega), rmul_spec (by omega) ha hc, Option.bind_some, e1]
    by_cases h : inR (a * c)
    · have e : allB (fun i => partS l a i * c) (j : Int) (0 + 1) = true := by simp [allB, e1, h]
      rw [chk_yes h, e, if_pos rfl, if_pos rfl]
      simp
    · have e : allB (fun i => partS l a i * c) (j : Int) (0 + 1) = false := by simp [allB, e1, h]
      rw [chk_no h, e, if_neg (by simp), if_neg (by simp), over_eq]
      rfl
  | succ d ih =>
    intro k j hj hk
    obtain ⟨k, rfl⟩ : ∃ m, k = m + 1 := ⟨k - 1, by omega⟩
    have e1 : partS l a (j : Int) = rd l (j : Int) := part_lt (by omega)
    simp only [furrowref14_Scale.l0]
    rw [if_pos (by omega), if_pos (by omega), rmul_spec (by omega) (hl _ (rd_mem (by omega) (by omega))) hc, Option.bind_some]
    by_cases h : inR (rd l (j : Int) * c)
    · have r := ih k (j + 1) (by omega) (by omega)
      have e : allB (fun i => partS l a i * c) (j : Int) (d + 1 + 1) = allB (fun i => partS l a i * c) ((j : Int) + 1) (d + 1) := by rw [allB]; simp only [e1]; rw [decide_eq_true h, Bool.true_and]
      rw [chk_yes h, e, if_pos rfl, if_pos (by simp [made_length]; omega), w64 (by omega)]
      have e3 : ((j : Int) + 1) = ((j + 1 : Nat) : Int) := by omega
      have e4 : rd l (j : Int) * c = (fun i => partS l a i * c) (j : Int) := by simp only [e1]
      rw [show (((j : Int)).toNat) = j from rfl]
      dsimp only
      rw [set_made, e4, ← made_succ, e3, r]
    · have e : allB (fun i => partS l a i * c) (j : Int) (d + 1 + 1) = false := by rw [allB]; simp only [e1]; rw [decide_eq_false h, Bool.false_and]
      rw [chk_no h, e, if_neg (by simp), if_neg (by simp), over_eq]
      rfl
theorem rscale {l : List Int} {a c : Int} {k : Nat} (hl : ∀ z ∈ l, inR z) (ha : inR a) (hc : inR c) (hlen : l.length < 35184372088832) (hk : l.length + 5 < k) :
    furrowref14_Scale.f k l a c = some (eachR (fun i => partS l a i * c) l.length) := by
  unfold furrowref14_Scale.f
  rw [const_ref hlen, Option.bind_some]
  have r := rscale_l (a := a) hlen rfl hl ha hc l.length k 0 (by omega) hk
  simp only [made, List.range_zero, List.map_nil, List.nil_append] at r
  rw [← eachR_eq]
  exact r
theorem coef_lt {l : List Int} {a i : Int} (h0 : 0 ≤ i) (h : i < (l.length : Int)) : furrowref14_coef.f l a i = some (rd l i) := by
  unfold furrowref14_coef.f
  rw [if_neg (by omega), if_pos h0, if_pos h]
theorem coef_ge {l : List Int} {a i : Int} (h : (l.length : Int) ≤ i) : furrowref14_coef.f l a i = some 0 := by
  unfold furrowref14_coef.f
  rw [if_pos (by omega)]
theorem rsame_l {l m : List Int} {a b n : Int} (hn : n = mx (l.length : Int) (m.length : Int)) (hl : l.length < 4611686018427387904) (hm : m.length < 4611686018427387904) (d : Nat) :
    ∀ (k : Nat) (i : Int), 0 ≤ i → n - i = d → 2 * d + 1 < k → furrowref14_Same.l0 k i l a m b = some (sameS (l.drop i.toNat) (m.drop i.toNat) && (a == b)) := by
  have e : ((l.length : Int) ≤ n ∧ (m.length : Int) ≤ n) ∧ (n = (l.length : Int) ∨ n = (m.length : Int)) := by rw [hn]; unfold mx; split <;> omega
  induction d with
  | zero =>
    intro k i h0 hd hk
    obtain ⟨k, rfl⟩ : ∃ m, k = m + 2 := ⟨k - 2, by omega⟩
    simp only [furrowref14_Same.l0]
    rw [if_neg (by omega), decide_eq_false (by omega)]
    simp only [furrowref14_Same.j1]
    rw [if_neg (by simp), drop_end (by omega), drop_end (by omega)]
    simp [sameS]
  | succ d ih =>
    intro k i h0 hd hk
    obtain ⟨k, rfl⟩ : ∃ m, k = m + 2 := ⟨k - 2, by omega⟩
    have r := ih k (i + 1) (by omega) (by omega) (by omega)
    have hj : furrowref14_Same.l0 (k + 2) i l a m b = furrowref14_Same.j1 (k + 1) i true l a m b := by
      simp only [furrowref14_Same.l0]
      by_cases c1 : i < (l.length : Int)
      · rw [if_pos c1]
      · rw [if_neg c1, decide_eq_true (by omega)]
    rw [hj]
    simp only [furrowref14_Same.j1, if_true]
    by_cases c1 : i < (l.length : Int)
    · rw [coef_lt h0 c1, Option.bind_some, rd_drop h0 c1]
      by_cases c2 : i < (m.length : Int)
      · rw [coef_lt h0 c2, Option.bind_some, rd_drop h0 c2, w64 (by omega)]
        by_cases c : rd l i = rd m i
        · rw [if_pos c, r]; simp [sameS, c]
        · rw [if_neg c]; simp [sameS, c]
      · rw [coef_ge (l := m) (by omega), Option.bind_some, drop_end (l := m) (by omega), w64 (by omega)]
        rw [drop_end (l := m) (i := i + 1) (by omega)] at r
        by_cases c : rd l i = 0
        · rw [if_pos c, r]; simp [sameS, c]
        · rw [if_neg c]; simp [sameS, c]
    · have c2 : i < (m.length : Int) := by omega
      rw [coef_ge (l := l) (by omega), Option.bind_some, coef_lt h0 c2, Option.bind_some, drop_end (l := l) (by omega), rd_drop h0 c2, w64 (by omega)]
      rw [drop_end (l := l) (i := i + 1) (by omega)] at r
      by_cases c : 0 = rd m i
      · rw [if_pos c, r]; simp [sameS, ← c]
      · rw [if_neg c]; simp [sameS, c]
theorem rsame_spec {l m : List Int} {a b : Int} {k : Nat} (hl : l.length < 4611686018427387904) (hm : m.length < 4611686018427387904) (hk : 2 * (l.length + m.length) + 2 < k) : furrowref14_Same.f k l a m b = some (sameS l m && (a == b)) := by
  unfold furrowref14_Same.f
  have e : mx (l.length : Int) (m.length : Int) = ((if l.length < m.length then m.length else l.length : Nat) : Int) := by unfold mx; split <;> split <;> omega
  rw [rsame_l rfl hl hm (if l.length < m.length then m.length else l.length) k 0 (by omega) (by rw [e]; omega) (by split <;> omega)]
  rfl

theorem two_i {a b : Int} (ha : inR a) (hb : inR b) : ∀ z ∈ [a, b], inR z := by
  intro z hz
  simp only [List.mem_cons, List.not_mem_nil, or_false] at hz
  rcases hz with rfl | rfl <;> assumption
theorem made2 (v : Int → Int) : made v 2 = [v 0, v 1] := by simp [made, List.range_succ]
theorem each2 (v : Int → Int) (h0 : inR (v 0)) (h1 : inR (v 1)) (h2 : inR (v 2)) : eachS v 2 = ([v 0, v 1], v 2, []) := by
  rw [each_ok (fun j p q => by
    obtain rfl | rfl | rfl : j = 0 ∨ j = 1 ∨ j = 2 := by omega
    all_goals assumption), made2]; rfl
theorem each2_no (v : Int → Int) (h : ¬ (inR (v 0) ∧ inR (v 1) ∧ inR (v 2))) : eachS v 2 = ([], 0, fltE 5) := by
  unfold eachS
  rw [if_neg]
  intro hh
  have := (allB_iff v 3 0).1 hh
  exact h ⟨this 0 (by omega) (by omega), this 1 (by omega) (by omega), this 2 (by omega) (by omega)⟩
section
variable {a b K c d M : Int}
theorem add2f (ha : inR a) (hb : inR b) (hK : inR K) (hc : inR c) (hd : inR d) (hM : inR M) (h0 : inR (a + c)) (h1 : inR (b + d)) (h2 : inR (K + M)) : lin_Add.f [a, b] K [c, d] M = some ([a + c, b + d], K + M, []) := by
  rw [add_l (l := [a, b]) (m := [c, d]) rfl (two_i ha hb) (two_i hc hd) hK hM (by simp)]
  exact congrArg some (each2 (fun i => partS [a, b] K i + partS [c, d] M i) h0 h1 h2)
theorem scale2f (ha : inR a) (hb : inR b) (hK : inR K) (hM : inR M) (h0 : inR (a * M)) (h1 : inR (b * M)) (h2 : inR (K * M)) : lin_Scale.f [a, b] K M = some ([a * M, b * M], K * M, []) := by
  rw [scale_l (l := [a, b]) (two_i ha hb) hK hM (by simp)]
  exact congrArg some (each2 (fun i => partS [a, b] K i * M) h0 h1 h2)
theorem w01 : wrap64 ((0 : Int) + 1) = 1 := w64 (a := 1) (by omega)
theorem w12 : wrap64 ((1 : Int) + 1) = 2 := w64 (a := 2) (by omega)
theorem less2f (ha : inR a) (hb : inR b) (hK : inR K) (hc : inR c) (hd : inR d) (hM : inR M) (h0 : inR (a - c)) (h1 : inR (b - d)) (h2 : inR (K - M)) :
    Says (fun k => lift_less.f k [a, b] K [c, d] M) ([a - c, b - d], K - M, none) := by
  have e0 : num_Sub.f a c = some (a - c, true) := by rw [sub_spec ha hc, chk_yes h0]
  have e1 : num_Sub.f b d = some (b - d, true) := by rw [sub_spec hb hd, chk_yes h1]
  have e2 : num_Sub.f K M = some (K - M, true) := by rw [sub_spec hK hM, chk_yes h2]
  refine .eq (fun k => lift_less.f.eq_1 ..) (.step (fun k => lift_less.l0.eq_2 ..) (.pos (by simp) (.pos (by simp) (.pos (by simp) (.pos (by simp) (.bind (v := (a - c, true)) ⟨0, fun _ _ => e0⟩ (.pos rfl (.pos (by simp) ?_))))))))
  rw [w01]
  refine .step (fun k => lift_less.l0.eq_2 ..) (.pos (by simp) (.pos (by simp) (.pos (by simp) (.pos (by simp) (.bind (v := (b - d, true)) ⟨0, fun _ _ => e1⟩ (.pos rfl (.pos (by simp) ?_)))))))
  rw [w12]
  exact .step (fun k => lift_less.l0.eq_2 ..) (.neg (by simp) (.bind (v := (K - M, true)) ⟨0, fun _ _ => e2⟩ (.pos rfl .now)))
theorem const2 (e : Bool) (hc : (a = 0 ∧ b = 0) ↔ e = true) : Says (fun k => lift_constant.f k [a, b] K) e := by
  have h0 : lin_Const.f 0 K = some ([], K) := rfl
  have h1 : Says (fun k => lin_Same.f k [a, b] K [] K) e := ⟨20, fun k hk => by
    show lin_Same.f k [a, b] K [] K = some e
    rw [same_spec (by simp) (by simp) (by simp; omega)]
    have q : sameS [a, b] [] = e := by
      simp only [sameS, Bool.and_true]
      cases e with
      | true => have := hc.2 rfl; simp [this.1, this.2]
      | false =>
        have h : ¬ (a = 0 ∧ b = 0) := fun h => by have := hc.1 h; cases this
        by_cases ha : a = 0
        · have hb : b ≠ 0 := fun hb => h ⟨ha, hb⟩
          simp [hb]
        · simp [ha]
    rw [q]; simp⟩
  exact .eq (fun k => lift_constant.f.eq_1 ..) (.bind (v := ([], K)) ⟨0, fun _ _ => h0⟩ (.bind h1 .now))
theorem prod_r (ha : inR a) (hb : inR b) (hK : inR K) (hM : inR M) (h0 : inR (a * M)) (h1 : inR (b * M)) (h2 : inR (K * M)) : Says (fun k => lift_product.f k [a, b] K [0, 0] M) ([a * M, b * M], K * M, none) :=
  .eq (fun k => lift_product.f.eq_1 ..) (.bind (const2 true ⟨fun _ => rfl, fun _ => ⟨rfl, rfl⟩⟩) (.pos rfl (.bind (v := ([a * M, b * M], K * M, [])) ⟨0, fun _ _ => scale2f ha hb hK hM h0 h1 h2⟩ (.pos (by rfl) .now))))
theorem prod_l (hK : inR K) (hc : inR c) (hd : inR d) (hM : inR M) (hn : ¬ (c = 0 ∧ d = 0)) (h0 : inR (c * K)) (h1 : inR (d * K)) (h2 : inR (M * K)) : Says (fun k => lift_product.f k [0, 0] K [c, d] M) ([c * K, d * K], M * K, none) :=
  .eq (fun k => lift_product.f.eq_1 ..) (.bind (const2 false ⟨fun h => absurd h hn, fun h => by cases h⟩) (.neg (by decide) (.bind (const2 true ⟨fun _ => rfl, fun _ => ⟨rfl, rfl⟩⟩) (.pos rfl (.bind (v := ([c * K, d * K], M * K, [])) ⟨0, fun _ _ => scale2f hc hd hM hK h0 h1 h2⟩ (.pos (by rfl) .now))))))
end
abbrev RL := List Int × Int × List S90 × Int
def Out (f : Nat → Option RL) (a b K : Int) : Prop := (inR a ∧ inR b ∧ inR K ∧ Says f ([a, b], K, [], 0)) ∨ ∃ l m ps er, er ≠ 0 ∧ Says f (l, m, ps, er)
def abL : ByteArray := ⟨#[108, 105, 102, 116]⟩
theorem within_0 (ps : List S90) : furrowref4_Within.f abL 0 ps 0 = some (ps, 0) := rfl
section
variable {a b K c d M : Int}
theorem eachR2 (v : Int → Int) : eachR v 2 = if inR (v 0) ∧ inR (v 1) ∧ inR (v 2) then ([v 0, v 1], v 2, [], 0) else ([], 0, refE 5) := by
  unfold eachR
  by_cases h : inR (v 0) ∧ inR (v 1) ∧ inR (v 2)
  · rw [if_pos h, each2 v h.1 h.2.1 h.2.2]; rfl
  · rw [if_neg h, each2_no v h]; rfl
theorem scaled_out (ha : inR a) (hb : inR b) (hK : inR K) (hM : inR M) : Out (fun k => furrowref14_scaled.f k [a, b] K M) (a * M) (b * M) (K * M) := by
  have r : Says (fun k => furrowref14_Scale.f k [a, b] K M) (eachR (fun i => partS [a, b] K i * M) 2) := ⟨8, fun k hk => rscale (l := [a, b]) (two_i ha hb) hK hM (by simp) (by simp; omega)⟩
  rw [eachR2] at r
  replace r : Says (fun k => furrowref14_Scale.f k [a, b] K M) (if inR (a * M) ∧ inR (b * M) ∧ inR (K * M) then ([a * M, b * M], K * M, [], 0) else ([], 0, refE 5)) := r
  by_cases h : inR (a * M) ∧ inR (b * M) ∧ inR (K * M)
  · rw [if_pos h] at r
    exact .inl ⟨h.1, h.2.1, h.2.2, .eq (fun k => furrowref14_scaled.f.eq_1 ..) (.bind r (.bind (v := ([], 0)) ⟨0, fun _ _ => within_0 _⟩ .now))⟩
  · rw [if_neg h] at r
    exact .inr ⟨[], 0, [⟨abL, 0⟩, ⟨⟨#[102, 111, 114, 109]⟩, 0⟩], 5, by decide, .eq (fun k => furrowref14_scaled.f.eq_1 ..) (.bind r (.bind (v := (([⟨abL, 0⟩, ⟨⟨#[102, 111, 114, 109]⟩, 0⟩] : List S90), (5 : Int))) ⟨0, fun _ _ => rfl⟩ .now))⟩
theorem add_out (ha : inR a) (hb : inR b) (hK : inR K) (hc : inR c) (hd : inR d) (hM : inR M) :
    Out (fun k => (furrowref14_Add.f k [a, b] K [c, d] M).bind fun r => (furrowref4_Within.f (⟨#[108, 105, 102, 116]⟩ : ByteArray) 0 r.2.2.1 r.2.2.2).bind fun s => some (r.1, r.2.1, s.1, s.2)) (a + c) (b + d) (K + M) := by
  have r : Says (fun k => furrowref14_Add.f k [a, b] K [c, d] M) (eachR (fun i => partS [a, b] K i + partS [c, d] M i) 2) := ⟨8, fun k hk => radd (l := [a, b]) (m := [c, d]) rfl (two_i ha hb) (two_i hc hd) hK hM (by simp) (by simp; omega)⟩
  rw [eachR2] at r
  replace r : Says (fun k => furrowref14_Add.f k [a, b] K [c, d] M) (if inR (a + c) ∧ inR (b + d) ∧ inR (K + M) then ([a + c, b + d], K + M, [], 0) else ([], 0, refE 5)) := r
  by_cases h : inR (a + c) ∧ inR (b + d) ∧ inR (K + M)
  · have r : Says (fun k => furrowref14_Add.f k [a, b] K [c, d] M) ([a + c, b + d], K + M, [], 0) := by rw [if_pos h] at r; exact r
    exact .inl ⟨h.1, h.2.1, h.2.2, .bind r (.bind (v := ([], 0)) ⟨0, fun _ _ => within_0 _⟩ .now)⟩
  · have r : Says (fun k => furrowref14_Add.f k [a, b] K [c, d] M) ([], 0, refE 5) := by rw [if_neg h] at r; exact r
    exact .inr ⟨[], 0, [⟨abL, 0⟩, ⟨⟨#[102, 111, 114, 109]⟩, 0⟩], 5, by decide, .bind r (.bind (v := (([⟨abL, 0⟩, ⟨⟨#[102, 111, 114, 109]⟩, 0⟩] : List S90), (5 : Int))) ⟨0, fun _ _ => rfl⟩ .now)⟩
theorem taken_out (ha : inR a) (hb : inR b) (hK : inR K) (hc : inR c) (hd : inR d) (hM : inR M) : Out (fun k => furrowref14_taken.f k [a, b] K [c, d] M) (a - c) (b - d) (K - M) := by
  have ov : Says (fun _ => (furrowref14_over.f).bind fun p => (furrowref4_Within.f (⟨#[108, 105, 102, 116]⟩ : ByteArray) 0 p.1 p.2).bind fun q => some (([] : List Int), (0 : Int), q.1, q.2)) ([], 0, [⟨abL, 0⟩, ⟨⟨#[102, 111, 114, 109]⟩, 0⟩], 5) := ⟨0, fun _ _ => rfl⟩
  have c0 : furrowref14_Const.f (([a, b] : List Int).length : Int) 0 = some ([0, 0], 0) := rfl
  by_cases h0 : inR (a - c)
  · by_cases h1 : inR (b - d)
    · by_cases h2 : inR (K - M)
      · refine .inl ⟨h0, h1, h2, .eq (fun k => furrowref14_taken.f.eq_1 ..) (.bind (v := ([0, 0], 0)) ⟨0, fun _ _ => c0⟩ ?_)⟩
        refine .step (fun k => furrowref14_taken.l0.eq_2 ..) (.pos (by simp) (.pos (by simp) (.pos (by simp) (.bind (v := (a - c, true)) ⟨0, fun _ _ => (rsub_spec ha hc).trans (by rw [chk_yes h0])⟩ (.pos rfl (.pos (by simp) ?_))))))
        rw [w01]
        refine .step (fun k => furrowref14_taken.l0.eq_2 ..) (.pos (by simp) (.pos (by simp) (.pos (by simp) (.bind (v := (b - d, true)) ⟨0, fun _ _ => (rsub_spec hb hd).trans (by rw [chk_yes h1])⟩ (.pos rfl (.pos (by simp) ?_))))))
        rw [w12]
        exact .step (fun k => furrowref14_taken.l0.eq_2 ..) (.neg (by simp) (.bind (v := (K - M, true)) ⟨0, fun _ _ => (rsub_spec hK hM).trans (by rw [chk_yes h2])⟩ (.pos rfl .now)))
      · refine .inr ⟨[], 0, [⟨abL, 0⟩, ⟨⟨#[102, 111, 114, 109]⟩, 0⟩], 5, by decide, .eq (fun k => furrowref14_taken.f.eq_1 ..) (.bind (v := ([0, 0], 0)) ⟨0, fun _ _ => c0⟩ ?_)⟩
        refine .step (fun k => furrowref14_taken.l0.eq_2 ..) (.pos (by simp) (.pos (by simp) (.pos (by simp) (.bind (v := (a - c, true)) ⟨0, fun _ _ => (rsub_spec ha hc).trans (by rw [chk_yes h0])⟩ (.pos rfl (.pos (by simp) ?_))))))
        rw [w01]
        refine .step (fun k => furrowref14_taken.l0.eq_2 ..) (.pos (by simp) (.pos (by simp) (.pos (by simp) (.bind (v := (b - d, true)) ⟨0, fun _ _ => (rsub_spec hb hd).trans (by rw [chk_yes h1])⟩ (.pos rfl (.pos (by simp) ?_))))))
        rw [w12]
        exact .step (fun k => furrowref14_taken.l0.eq_2 ..) (.neg (by simp) (.bind (v := (0, false)) ⟨0, fun _ _ => (rsub_spec hK hM).trans (by rw [chk_no h2])⟩ (.neg (by decide) ov)))
    · refine .inr ⟨[], 0, [⟨abL, 0⟩, ⟨⟨#[102, 111, 114, 109]⟩, 0⟩], 5, by decide, .eq (fun k => furrowref14_taken.f.eq_1 ..) (.bind (v := ([0, 0], 0)) ⟨0, fun _ _ => c0⟩ ?_)⟩
      refine .step (fun k => furrowref14_taken.l0.eq_2 ..) (.pos (by simp) (.pos (by simp) (.pos (by simp) (.bind (v := (a - c, true)) ⟨0, fun _ _ => (rsub_spec ha hc).trans (by rw [chk_yes h0])⟩ (.pos rfl (.pos (by simp) ?_))))))
      rw [w01]
      exact .step (fun k => furrowref14_taken.l0.eq_2 ..) (.pos (by simp) (.pos (by simp) (.pos (by simp) (.bind (v := (0, false)) ⟨0, fun _ _ => (rsub_spec hb hd).trans (by rw [chk_no h1])⟩ (.neg (by decide) ov)))))
  · refine .inr ⟨[], 0, [⟨abL, 0⟩, ⟨⟨#[102, 111, 114, 109]⟩, 0⟩], 5, by decide, .eq (fun k => furrowref14_taken.f.eq_1 ..) (.bind (v := ([0, 0], 0)) ⟨0, fun _ _ => c0⟩ ?_)⟩
    exact .step (fun k => furrowref14_taken.l0.eq_2 ..) (.pos (by simp) (.pos (by simp) (.pos (by simp) (.bind (v := (0, false)) ⟨0, fun _ _ => (rsub_spec ha hc).trans (by rw [chk_no h0])⟩ (.neg (by decide) ov)))))
theorem rconst2 (e : Bool) (hc : (a = 0 ∧ b = 0) ↔ e = true) : Says (fun k => furrowref14_constant.f k [a, b] K) e := by
  refine .eq (fun k => furrowref14_constant.f.eq_1 ..) (.step (fun k => furrowref14_constant.l0.eq_2 ..) (.pos (by simp) (.pos (by simp) ?_)))
  by_cases ha : a = 0
  · refine .pos ha ?_
    rw [w01]
    refine .step (fun k => furrowref14_constant.l0.eq_2 ..) (.pos (by simp) (.pos (by simp) ?_))
    by_cases hb : b = 0
    · obtain rfl := hc.1 ⟨ha, hb⟩
      refine .pos hb ?_
      rw [w12]
      exact .step (fun k => furrowref14_constant.l0.eq_2 ..) (.neg (by simp) .now)
    · have : e = false := by cases e with | false => rfl | true => exact absurd (hc.2 rfl).2 hb
      subst this
      exact .neg hb .now
  · have : e = false := by cases e with | false => rfl | true => exact absurd (hc.2 rfl).1 ha
    subst this
    exact .neg ha .now
end

end Go.Proofs.YtnkckdbjeemjeaaGreatDoor.Pure
