/- Of any two 64-bit numbers: what was added is taken away, what was multiplied is divided again, where it is not too great. -/
import Derived.Test.YtfjfgcnbokefbaaXx7
import Derived.Laws.Bits64
namespace Go.Proofs.Ytfjfgcnbokefbaa.Pure
open Go.RowKit Go.Proofs.Ytfjfgcnbokefbaa.X Go.Proofs.YtfjfgcnbokefbaaW.PrintWords Go.Proofs.YtfjfgcnbokefbaaW.PrintLast

namespace NumBack
/-! numbers -/
theorem i64_of {a : Int} (h : (Lit.int .i64 a).wf = true) : -9223372036854775808 ≤ a ∧ a ≤ 9223372036854775807 := by
  simp only [Lit.wf, IntKind.min, IntKind.max, IntKind.signed, IntKind.bits, Bool.and_eq_true, decide_eq_true_eq, if_true] at h
  omega
theorem w64 {a : Int} (h : -9223372036854775808 ≤ a ∧ a ≤ 9223372036854775807) : wrap64 a = a := by unfold wrap64; omega
theorem size_spec {a : Int} (h : -9223372036854775808 ≤ a ∧ a ≤ 9223372036854775807) : num_size.f a = some (a.natAbs : Int) := by
  unfold num_size.f; simp only [IntKind.wrap_u64]; split <;> (congr 1; omega)
theorem way_neg {a b c : Int} (hc : c < 0) (h : -9223372036854775808 ≤ c) : num_way.f a b c = some ((a - b) % 18446744073709551616, (c.natAbs : Int), decide (a ≥ b)) := by
  unfold num_way.f; rw [if_pos hc, size_spec ⟨h, by omega⟩]; simp only [Option.bind_some, IntKind.wrap_u64]; congr 2; omega
theorem way_pos {a b c : Int} (hc : 0 < c) (h : c ≤ 9223372036854775807) : num_way.f a b c = some ((b - a) % 18446744073709551616, (c.natAbs : Int), decide (b ≥ a)) := by
  unfold num_way.f; rw [if_neg (by omega), if_pos hc, size_spec ⟨by omega, h⟩]; simp only [Option.bind_some, IntKind.wrap_u64]; congr 2; omega
theorem way_zero {a b : Int} : num_way.f a b 0 = some (0, 0, false) := rfl
/-- does a loop go? -/
def goes (a b c : Int) : Prop := (0 < c ∧ a ≤ b) ∨ (c < 0 ∧ b ≤ a)
theorem way_on {a b c : Int} (ha : -9223372036854775808 ≤ a ∧ a ≤ 9223372036854775807) (hb : -9223372036854775808 ≤ b ∧ b ≤ 9223372036854775807) (hc : -9223372036854775808 ≤ c ∧ c ≤ 9223372036854775807) (h : goes a b c) :
    num_way.f a b c = some (((b - a).natAbs : Int), (c.natAbs : Int), true) := by
  rcases h with ⟨h, h'⟩ | ⟨h, h'⟩
  · rw [way_pos h hc.2]; congr 2
    · omega
    · congr 1; exact decide_eq_true h'
  · rw [way_neg h hc.1]; congr 2
    · omega
    · congr 1; exact decide_eq_true h'
theorem way_off {a b c : Int} (hc : -9223372036854775808 ≤ c ∧ c ≤ 9223372036854775807) (h : ¬ goes a b c) :
    ∃ x y, num_way.f a b c = some (x, y, false) := by
  unfold goes at h
  rcases Int.lt_trichotomy c 0 with h0 | h0 | h0
  · exact ⟨_, _, by rw [way_neg h0 hc.1]; congr 3; exact decide_eq_false (by omega)⟩
  · subst h0; exact ⟨_, _, rfl⟩
  · exact ⟨_, _, by rw [way_pos h0 hc.2]; congr 3; exact decide_eq_false (by omega)⟩
instance (a b c : Int) : Decidable (goes a b c) := by unfold goes; infer_instance
def times (a b c : Int) : Int := if goes a b c then (if (b - a).natAbs / c.natAbs = 18446744073709551615 then 18446744073709551615 else (((b - a).natAbs / c.natAbs : Nat) : Int) + 1) else 0
def last (a b c : Int) : Int := if goes a b c then a + (((b - a).natAbs / c.natAbs : Nat) : Int) * c else a
theorem goes_c {a b c : Int} (h : goes a b c) : 1 ≤ c.natAbs := by unfold goes at h; omega
theorem goes_q {a b c : Int} (ha : -9223372036854775808 ≤ a ∧ a ≤ 9223372036854775807) (hb : -9223372036854775808 ≤ b ∧ b ≤ 9223372036854775807) : (b - a).natAbs / c.natAbs ≤ 18446744073709551615 :=
  Nat.le_trans (Nat.div_le_self _ _) (by omega)
theorem times_spec {a b c : Int} (ha : -9223372036854775808 ≤ a ∧ a ≤ 9223372036854775807) (hb : -9223372036854775808 ≤ b ∧ b ≤ 9223372036854775807) (hc : -9223372036854775808 ≤ c ∧ c ≤ 9223372036854775807) :
    num_Times.f a b c = some (times a b c) := by
  unfold num_Times.f times
  by_cases h : goes a b c
  · have h1 := goes_c h
    have hq := @goes_q a b c ha hb
    rw [way_on ha hb hc h, if_pos h]
    simp only [Option.bind_some, if_true, IntKind.wrap_u64]
    rw [if_neg (by omega), Int.tdiv_eq_ediv_of_nonneg (by omega), ← Int.natCast_ediv]
    generalize (b - a).natAbs / c.natAbs = q at *
    by_cases e : q = 18446744073709551615
    · subst e; rfl
    · rw [if_neg (by omega), if_neg e]; congr 1; omega
  · obtain ⟨x, y, e⟩ := way_off hc h
    rw [e, if_neg h]; rfl
theorem last_mul {a b c : Int} (h : goes a b c) : (((b - a).natAbs / c.natAbs : Nat) : Int) * c = (if c < 0 then -1 else 1) * (((b - a).natAbs : Int) - (((b - a).natAbs % c.natAbs : Nat) : Int)) := by
  have e := Nat.div_add_mod (b - a).natAbs c.natAbs
  have e' : (c.natAbs : Int) * (((b - a).natAbs / c.natAbs : Nat) : Int) + (((b - a).natAbs % c.natAbs : Nat) : Int) = ((b - a).natAbs : Int) := by exact_mod_cast e
  rw [Int.mul_comm]
  rcases h with ⟨h, _⟩ | ⟨h, _⟩
  · rw [if_neg (by omega)]
    have hc : (c.natAbs : Int) = c := by omega
    rw [hc] at e'; omega
  · rw [if_pos h]
    have hc : c = -(c.natAbs : Int) := by omega
    generalize (c.natAbs : Int) = d at *
    subst hc
    rw [Int.neg_mul]; omega
theorem last_between {a b c : Int} (h : goes a b c) : (a ≤ b ∧ a ≤ last a b c ∧ last a b c ≤ b) ∨ (b ≤ a ∧ b ≤ last a b c ∧ last a b c ≤ a) := by
  have hm := last_mul h
  have hr : (b - a).natAbs % c.natAbs ≤ (b - a).natAbs := Nat.mod_le _ _
  unfold last
  rw [if_pos h, hm]
  rcases h with ⟨h, h'⟩ | ⟨h, h'⟩
  · rw [if_neg (by omega)]; omega
  · rw [if_pos h]; omega
theorem last_in {a b c : Int} (ha : -9223372036854775808 ≤ a ∧ a ≤ 9223372036854775807) (hb : -9223372036854775808 ≤ b ∧ b ≤ 9223372036854775807) : -9223372036854775808 ≤ last a b c ∧ last a b c ≤ 9223372036854775807 := by
  by_cases h : goes a b c
  · rcases last_between h with h | h <;> omega
  · unfold last; rw [if_neg h]; exact ha
theorem last_spec {a b c : Int} (ha : -9223372036854775808 ≤ a ∧ a ≤ 9223372036854775807) (hb : -9223372036854775808 ≤ b ∧ b ≤ 9223372036854775807) (hc : -9223372036854775808 ≤ c ∧ c ≤ 9223372036854775807) :
    num_Last.f a b c = some (last a b c) := by
  have hin := @last_in a b c ha hb
  unfold num_Last.f
  by_cases h : goes a b c
  · have h1 := goes_c h
    have hm := last_mul h
    have hr : (b - a).natAbs % c.natAbs ≤ (b - a).natAbs := Nat.mod_le _ _
    unfold last at hin ⊢
    rw [if_pos h] at hin ⊢
    rw [way_on ha hb hc h]
    rw [hm] at hin ⊢
    have e0 : ¬ ((c.natAbs : Int) = 0) := by omega
    simp only [Option.bind_some, if_true, IntKind.wrap_u64, if_neg e0]
    rw [Int.tmod_eq_emod_of_nonneg (by omega), ← Int.natCast_emod]
    generalize (b - a).natAbs % c.natAbs = r at *
    by_cases hc0 : c < 0
    · rw [if_pos hc0] at hin ⊢
      rw [if_pos hc0]; congr 1; unfold wrap64; omega
    · rw [if_neg hc0] at hin ⊢
      rw [if_neg hc0]; congr 1; unfold wrap64; omega
  · obtain ⟨x, y, e⟩ := way_off (b := b) hc h
    rw [e]; unfold last; rw [if_neg h]; rfl

theorem gcd_l {n : Nat} : ∀ (k x y : Nat), y ≤ n → n < k → num_Gcd.l0 k (x : Int) (y : Int) = some ((Nat.gcd x y : Nat) : Int) := by
  induction n with
  | zero =>
    intro k x y hy hk
    obtain ⟨k, rfl⟩ : ∃ m, k = m + 1 := ⟨k - 1, by omega⟩
    obtain rfl : y = 0 := by omega
    simp only [num_Gcd.l0]; rw [if_neg (by omega)]; simp
  | succ n ih =>
    intro k x y hy hk
    obtain ⟨k, rfl⟩ : ∃ m, k = m + 1 := ⟨k - 1, by omega⟩
    by_cases h0 : y = 0
    · subst h0; simp only [num_Gcd.l0]; rw [if_neg (by omega)]; simp
    · simp only [num_Gcd.l0]; rw [if_pos (by omega), if_neg (by omega), Int.tmod_eq_emod_of_nonneg (by omega), ← Int.natCast_emod]
      have hlt : x % y < y := Nat.mod_lt _ (by omega)
      rw [ih k y (x % y) (by omega) (by omega), Nat.gcd_comm x y, Nat.gcd_rec y x, Nat.gcd_comm y (x % y)]
theorem gcd_spec {k : Nat} {a b : Int} (hk : 10000000000000000000 ≤ k) (ha : -9223372036854775808 ≤ a ∧ a ≤ 9223372036854775807) (hb : -9223372036854775808 ≤ b ∧ b ≤ 9223372036854775807) :
    num_Gcd.f k a b = some ((Nat.gcd a.natAbs b.natAbs : Nat) : Int) := by
  unfold num_Gcd.f
  rw [size_spec ha, size_spec hb]; simp only [Option.bind_some]
  exact gcd_l k _ _ (Nat.le_refl _) (by omega)

/-! sums, differences, products -/
def inR (a : Int) : Prop := -9223372036854775808 ≤ a ∧ a ≤ 9223372036854775807
instance (a : Int) : Decidable (inR a) := by unfold inR; infer_instance
def chk (a : Int) : Int × Bool := if inR a then (a, true) else (0, false)
theorem chk_yes {a : Int} (h : inR a) : chk a = (a, true) := if_pos h
theorem chk_no {a : Int} (h : ¬ inR a) : chk a = (0, false) := if_neg h
theorem add_spec {a b : Int} (ha : inR a) (hb : inR b) : num_Add.f a b = some (chk (a + b)) := by
  unfold num_Add.f
  by_cases hr : inR (a + b)
  · rw [chk_yes hr, w64 hr]; unfold inR at *
    by_cases h1 : a < 0 <;> by_cases h2 : b < 0 <;> by_cases h3 : a + b < 0 <;> first | (simp [h1, h2, h3]; done) | (exfalso; omega)
  · rw [chk_no hr]
    have e : wrap64 (a + b) = if a < 0 then a + b + 18446744073709551616 else a + b - 18446744073709551616 := by unfold wrap64 inR at *; split <;> omega
    rw [e]; unfold inR at *
    by_cases h1 : a < 0 <;> by_cases h2 : b < 0 <;> first | (exfalso; omega) | skip
    · have h3 : ¬ a + b + 18446744073709551616 < 0 := by omega
      simp [h1, h2, h3]
    · have h3 : a + b - 18446744073709551616 < 0 := by omega
      simp [h1, h2, h3]
theorem sub_spec {a b : Int} (ha : inR a) (hb : inR b) : num_Sub.f a b = some (chk (a - b)) := by
  unfold num_Sub.f
  by_cases hr : inR (a - b)
  · rw [chk_yes hr, w64 hr]; unfold inR at *
    by_cases h1 : a < 0 <;> by_cases h2 : b < 0 <;> by_cases h3 : a - b < 0 <;> first | (simp [h1, h2, h3]; done) | (exfalso; omega)
  · rw [chk_no hr]
    have e : wrap64 (a - b) = if a < 0 then a - b + 18446744073709551616 else a - b - 18446744073709551616 := by unfold wrap64 inR at *; split <;> omega
    rw [e]; unfold inR at *
    by_cases h1 : a < 0 <;> by_cases h2 : b < 0 <;> first | (exfalso; omega) | skip
    · have h3 : ¬ a - b + 18446744073709551616 < 0 := by omega
      simp [h1, h2, h3]
    · have h3 : a - b - 18446744073709551616 < 0 := by omega
      simp [h1, h2, h3]
theorem and_low (a : Nat) (h : a < 18446744073709551616) : Go.bits .and .u64 (a : Int) 4294967295 = ((a % 4294967296 : Nat) : Int) := by
  have h1 : (BitVec.ofInt 64 (a : Int)).toNat = a := by
    rw [BitVec.ofInt_natCast, BitVec.toNat_ofNat]; exact Nat.mod_eq_of_lt (by omega)
  have h2 : (BitVec.ofInt 64 (4294967295 : Int)).toNat = 2 ^ 32 - 1 := rfl
  show IntKind.u64.wrap ((BitVec.ofInt 64 (a : Int) &&& BitVec.ofInt 64 4294967295).toNat : Int) = _
  rw [BitVec.toNat_and, h1, h2, Nat.and_two_pow_sub_one_eq_mod, IntKind.wrap_u64]
  omega
theorem mul64_spec (x y : Nat) (hx : x < 18446744073709551616) (hy : y < 18446744073709551616) :
    bits_Mul64.f (x : Int) (y : Int) = some (((x * y / 18446744073709551616 : Nat) : Int), ((x * y % 18446744073709551616 : Nat) : Int)) := by
  unfold bits_Mul64.f
  rw [and_low x hx, and_low y hy]
  simp only [IntKind.wrap_u64]
  have dx : x = (x / 4294967296) * 4294967296 + x % 4294967296 := by omega
  have dy : y = (y / 4294967296) * 4294967296 + y % 4294967296 := by omega
  have bx1 : x / 4294967296 ≤ 4294967295 := by omega
  have by1 : y / 4294967296 ≤ 4294967295 := by omega
  have bx0 : x % 4294967296 ≤ 4294967295 := by omega
  have by0 : y % 4294967296 ≤ 4294967295 := by omega
  have ex : (x : Int) / 4294967296 = ((x / 4294967296 : Nat) : Int) := by omega
  have ey : (y : Int) / 4294967296 = ((y / 4294967296 : Nat) : Int) := by omega
  rw [ex, ey]
  have hp : x * y = (x / 4294967296) * (y / 4294967296) * 18446744073709551616 + ((x / 4294967296) * (y % 4294967296) + (x % 4294967296) * (y / 4294967296)) * 4294967296 + (x % 4294967296) * (y % 4294967296) := by
    have e : x * y = ((x / 4294967296) * 4294967296 + x % 4294967296) * ((y / 4294967296) * 4294967296 + y % 4294967296) := by rw [← dx, ← dy]
    rw [e]
    generalize x / 4294967296 = p
    generalize x % 4294967296 = q
    generalize y / 4294967296 = r
    generalize y % 4294967296 = s
    simp only [Nat.add_mul, Nat.mul_add]
    have a1 : p * 4294967296 * (r * 4294967296) = p * r * 18446744073709551616 := by rw [Nat.mul_mul_mul_comm]
    have a2 : p * 4294967296 * s = p * s * 4294967296 := by rw [Nat.mul_right_comm]
    have a3 : q * (r * 4294967296) = q * r * 4294967296 := by rw [Nat.mul_assoc]
    rw [a1, a2, a3]; omega
  have hpi : (x : Int) * (y : Int) = ((x * y : Nat) : Int) := by exact_mod_cast rfl
  rw [hpi, hp]
  generalize x / 4294967296 = p at *
  generalize x % 4294967296 = q at *
  generalize y / 4294967296 = r at *
  generalize y % 4294967296 = s at *
  have c1 : (p : Int) * (r : Int) = ((p * r : Nat) : Int) := by exact_mod_cast rfl
  have c2 : (p : Int) * (s : Int) = ((p * s : Nat) : Int) := by exact_mod_cast rfl
  have c3 : (q : Int) * (r : Int) = ((q * r : Nat) : Int) := by exact_mod_cast rfl
  have c4 : (q : Int) * (s : Int) = ((q * s : Nat) : Int) := by exact_mod_cast rfl
  rw [c1, c2, c3, c4]
  have l1 : p * r ≤ 4294967295 * 4294967295 := Nat.mul_le_mul bx1 by1
  have l2 : p * s ≤ 4294967295 * 4294967295 := Nat.mul_le_mul bx1 by0
  have l3 : q * r ≤ 4294967295 * 4294967295 := Nat.mul_le_mul bx0 by1
  have l4 : q * s ≤ 4294967295 * 4294967295 := Nat.mul_le_mul bx0 by0
  clear hp hpi c1 c2 c3 c4 dx dy ex ey hx hy
  generalize p * r = A at *
  generalize p * s = B at *
  generalize q * r = C at *
  generalize q * s = D at *
  rw [show ((B : Int) % 18446744073709551616 + (D : Int) % 18446744073709551616 / 4294967296) % 18446744073709551616 = ((B + D / 4294967296 : Nat) : Int) by omega]
  have t1 : (Go.bits .and .u64 (((B + D / 4294967296 : Nat)) : Int) 4294967295) = (((B + D / 4294967296) % 4294967296 : Nat) : Int) := and_low _ (by omega)
  rw [t1]
  congr 1
  refine Prod.ext ?_ ?_
  · show _ = _
    simp only []
    omega
  · show _ = _
    simp only []
    omega
theorem mul_sign (a b : Int) : a * b = if (decide (a < 0) != decide (b < 0)) = true then -((a.natAbs * b.natAbs : Nat) : Int) else ((a.natAbs * b.natAbs : Nat) : Int) := by
  have h : ((a.natAbs * b.natAbs : Nat) : Int) = (a.natAbs : Int) * (b.natAbs : Int) := by exact_mod_cast rfl
  rw [h]
  by_cases h1 : a < 0 <;> by_cases h2 : b < 0
  · rw [if_neg (by simp [h1, h2]), show (a.natAbs : Int) = -a by omega, show (b.natAbs : Int) = -b by omega, Int.neg_mul_neg]
  · rw [if_pos (by simp [h1, h2]), show (a.natAbs : Int) = -a by omega, show (b.natAbs : Int) = b by omega, Int.neg_mul, Int.neg_neg]
  · rw [if_pos (by simp [h1, h2]), show (a.natAbs : Int) = a by omega, show (b.natAbs : Int) = -b by omega, Int.mul_neg, Int.neg_neg]
  · rw [if_neg (by simp [h1, h2]), show (a.natAbs : Int) = a by omega, show (b.natAbs : Int) = b by omega]
theorem mul_spec {k : Nat} {a b : Int} (hk : 2 ≤ k) (ha : inR a) (hb : inR b) : num_Mul.f k a b = some (chk (a * b)) := by
  obtain ⟨k, rfl⟩ : ∃ m, k = m + 2 := ⟨k - 2, by omega⟩
  unfold num_Mul.f
  rw [size_spec ha, size_spec hb]; simp only [Option.bind_some]
  rw [mul64_spec _ _ (by unfold inR at ha; omega) (by unfold inR at hb; omega)]; simp only [Option.bind_some]
  have hs := mul_sign a b
  generalize a.natAbs * b.natAbs = P at *
  by_cases hd : (decide (a < 0) != decide (b < 0)) = true
  · rw [if_pos hd] at hs
    rw [if_pos hd, hd, hs]
    by_cases h0 : (((P / 18446744073709551616 : Nat)) : Int) > 0
    · simp only [num_Mul.j0, if_pos h0, num_Mul.j1, if_true]
      rw [chk_no (by unfold inR; omega)]
    · simp only [num_Mul.j0, if_neg h0, num_Mul.j1]
      by_cases h1 : ((P % 18446744073709551616 : Nat) : Int) > 9223372036854775807 + 1
      · rw [if_pos (decide_eq_true h1), chk_no (by unfold inR; omega)]
      · rw [if_neg (by simpa using h1), if_pos trivial, chk_yes (by unfold inR; omega), IntKind.wrap_u64]
        congr 2; unfold wrap64; omega
  · rw [if_neg hd] at hs
    rw [if_neg hd, Bool.eq_false_iff.2 hd, hs]
    by_cases h0 : (((P / 18446744073709551616 : Nat)) : Int) > 0
    · simp only [num_Mul.j0, if_pos h0, num_Mul.j1, if_true]
      rw [chk_no (by unfold inR; omega)]
    · simp only [num_Mul.j0, if_neg h0, num_Mul.j1]
      by_cases h1 : ((P % 18446744073709551616 : Nat) : Int) > 9223372036854775807
      · rw [if_pos (decide_eq_true h1), chk_no (by unfold inR; omega)]
      · rw [if_neg (by simpa using h1), if_neg (by simp), chk_yes (by unfold inR; omega)]
        congr 2; unfold wrap64; omega
/-! quotients -/
def floorS (a b : Int) : Int × Bool :=
  if b = 0 ∨ (a = -9223372036854775808 ∧ b = -1) then (0, false) else
  if Int.tmod a b = 0 then (wrap64 (Int.tdiv a b), true) else
  if ((decide (a < 0)) != (decide (b < 0))) = true then (wrap64 (wrap64 (Int.tdiv a b) - 1), true) else (wrap64 (Int.tdiv a b), true)
theorem floor_spec {k : Nat} {a b : Int} (hk : 1 ≤ k) : num_Floor.f k a b = some (floorS a b) := by
  obtain ⟨k, rfl⟩ : ∃ m, k = m + 1 := ⟨k - 1, by omega⟩
  unfold num_Floor.f floorS
  by_cases h0 : b = 0
  · rw [if_pos h0, if_pos (Or.inl h0)]; simp only [num_Floor.j0, if_true]
  · rw [if_neg h0]
    by_cases h1 : a = -9223372036854775808
    · rw [if_pos h1]
      by_cases h2 : b = -1
      · rw [if_pos (Or.inr ⟨h1, h2⟩)]; simp only [num_Floor.j0]; rw [if_pos (by rw [h2]; rfl)]
      · rw [if_neg (fun h => h.elim h0 (fun h => h2 h.2))]; simp only [num_Floor.j0]; rw [if_neg (by simpa using h2), if_neg h0]
        split; · rfl
        split <;> rfl
    · rw [if_neg h1, if_neg (fun h => h.elim h0 (fun h => h1 h.1))]; simp only [num_Floor.j0]; rw [if_neg (by simp), if_neg h0]
      split; · rfl
      split <;> rfl
def ceilS (a b : Int) : Int × Bool :=
  if b = 0 ∨ (a = -9223372036854775808 ∧ b = -1) then (0, false) else
  if Int.tmod a b = 0 then (wrap64 (Int.tdiv a b), true) else
  if ((decide (a < 0)) == (decide (b < 0))) = true then (wrap64 (wrap64 (Int.tdiv a b) + 1), true) else (wrap64 (Int.tdiv a b), true)
theorem ceil_spec {k : Nat} {a b : Int} (hk : 1 ≤ k) : num_Ceil.f k a b = some (ceilS a b) := by
  unfold num_Ceil.f
  rw [floor_spec hk]; simp only [Option.bind_some]
  unfold floorS ceilS
  by_cases h : b = 0 ∨ (a = -9223372036854775808 ∧ b = -1)
  · rw [if_pos h, if_pos h]; rfl
  · rw [if_neg h, if_neg h]
    have h0 : ¬ b = 0 := fun e => h (Or.inl e)
    by_cases h1 : Int.tmod a b = 0
    · simp only [if_pos h1, if_true, if_neg h0]
    · by_cases h2 : ((decide (a < 0)) != (decide (b < 0))) = true
      · have h3 : ¬ ((decide (a < 0)) == (decide (b < 0))) = true := by revert h2; generalize decide (a < 0) = p; generalize decide (b < 0) = q; revert p q; decide
        simp only [if_neg h1, if_pos h2, if_neg h3, if_true, if_neg h0]
        congr 2; unfold wrap64; omega
      · have h3 : ((decide (a < 0)) == (decide (b < 0))) = true := by revert h2; generalize decide (a < 0) = p; generalize decide (b < 0) = q; revert p q; decide
        simp only [if_neg h1, if_neg h2, if_pos h3, if_true, if_neg h0]

end NumBack
open NumBack
theorem known_yes : furrowlaw1_known.f 10 = some true := by decide +kernel
theorem back_end {k : Nat} {a b : Int} (hk : 2 ≤ k) (ha : inR a) (hb : inR b) :
    ((num_Add.f b a).bind fun bt164 => ((num_Mul.f k b a).bind fun bt166 => (if (bt164.2 == (chk (a + b)).2) = true then (if bt164.1 = (chk (a + b)).1 then (if (bt166.2 == (chk (a * b)).2) = true then (some (bt166.1 == (chk (a * b)).1)) else (some false)) else (some false)) else (some false)))) = some true := by
  rw [add_spec hb ha, mul_spec hk hb ha, Int.add_comm b a, Int.mul_comm b a]; simp
theorem NumBack : furrowlaw1_NumBack.Pure := by
  intro a b ha hb
  have ha := i64_of ha
  have hb := i64_of hb
  have ha' : inR a := ha
  have hb' : inR b := hb
  obtain ⟨k, hk⟩ : ∃ k : Nat, 10 ≤ k := ⟨_, Nat.le_refl _⟩
  refine ⟨k + 3, ?_⟩
  unfold furrowlaw1_NumBack.f
  rw [at_rounds furrowlaw1_known.mono (by omega) known_yes, add_spec ha hb]
  simp only [Option.bind_some, if_true]
  have hj : furrowlaw1_NumBack.j0 (k + 3) a b (chk (a + b)).1 (chk (a + b)).2 = some true := by
    simp only [furrowlaw1_NumBack.j0]
    rw [mul_spec (by omega) ha hb]
    simp only [Option.bind_some]
    by_cases hr : inR (a * b)
    · rw [chk_yes hr]; simp only [if_true]
      by_cases h0 : b = 0
      · rw [show (b != 0) = false by simp [h0]]
        simp only [furrowlaw1_NumBack.j1]
        have := back_end (k := k + 1) (by omega) ha' hb'
        rw [chk_yes hr] at this
        rw [if_neg (by simp)]; exact this
      · rw [show (b != 0) = true by simp [h0]]
        simp only [furrowlaw1_NumBack.j1]
        rw [if_pos trivial, floor_spec (by omega), ceil_spec (by omega)]
        simp only [Option.bind_some]
        have h2 : furrowlaw1_NumBack.j2 (k + 1) a b (chk (a + b)).1 (chk (a + b)).2 (a * b) true false = some true := by
          simp only [furrowlaw1_NumBack.j2]
          have := back_end (k := k) (by omega) ha' hb'
          rw [chk_yes hr] at this
          rw [if_neg (by simp)]; exact this
        by_cases hx : a * b = -9223372036854775808 ∧ b = -1
        · have e1 : floorS (a * b) b = (0, false) := if_pos (Or.inr hx)
          have e2 : ceilS (a * b) b = (0, false) := if_pos (Or.inr hx)
          rw [e1, e2]
          simp only [bne_self_eq_false]
          rw [if_neg (by simp), if_neg (by simp), if_pos hx.1, show (b != -1) = false by simp [hx.2]]; exact h2
        · have hn : ¬ (b = 0 ∨ (a * b = -9223372036854775808 ∧ b = -1)) := fun h => h.elim h0 hx
          have e1 : floorS (a * b) b = (a, true) := by
            unfold floorS; rw [if_neg hn, if_pos (Int.mul_tmod_left a b), Int.mul_tdiv_cancel _ h0, w64 ha]
          have e2 : ceilS (a * b) b = (a, true) := by
            unfold ceilS; rw [if_neg hn, if_pos (Int.mul_tmod_left a b), Int.mul_tdiv_cancel _ h0, w64 ha]
          rw [e1, e2]
          simp only [bne_self_eq_false]
          simp only [if_true]; rw [if_neg (by simp)]; exact h2
    · rw [chk_no hr]; simp only []
      rw [if_neg (by simp)]
      simp only [furrowlaw1_NumBack.j1]
      have := back_end (k := k + 1) (by omega) ha' hb'
      rw [chk_no hr] at this
      rw [if_neg (by simp)]; exact this
  by_cases hr : inR (a + b)
  · have e := chk_yes hr
    rw [e] at hj ⊢
    simp only [if_true]
    rw [sub_spec hr hb, show a + b - b = a by omega, chk_yes ha']
    simp only [Option.bind_some, if_true]; exact hj
  · have e := chk_no hr
    rw [e] at hj ⊢
    simp only []
    rw [if_neg (by simp)]; exact hj

end Go.Proofs.Ytfjfgcnbokefbaa.Pure
