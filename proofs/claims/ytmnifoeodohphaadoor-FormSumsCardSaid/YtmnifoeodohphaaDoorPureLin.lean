/- Plain lemmas on numbers and forms; no program in sight. -/
import Derived.Test.YtmnifoeodohphaaDoorXx2
import Derived.Test.YtmnifoeodohphaaDoorXx6
import Derived.Test.YtmnifoeodohphaaDoorXx7
import Derived.Test.YtmnifoeodohphaaDoorHandL
import Derived.Laws.Bits64
namespace Go.Proofs.YtmnifoeodohphaaDoor.Pure
open Go.RowKit Go.Proofs.YtmnifoeodohphaaDoor.X Go.Proofs.YtmnifoeodohphaaDoor.Flt Go.Proofs.YtmnifoeodohphaaDoor.H Go.Proofs.YtmnifoeodohphaaDoorW.PrintWords Go.Proofs.YtmnifoeodohphaaDoorW.PrintLast Go.Proofs.YtmnifoeodohphaaDoorW.PrintMore
set_option linter.unusedVariables false
set_option linter.unusedSimpArgs false
theorem i64_of {a : Int} (h : (Lit.int .i64 a).wf = true) : -9223372036854775808 ≤ a ∧ a ≤ 9223372036854775807 := by
  simp only [Lit.wf, IntKind.min, IntKind.max, IntKind.signed, IntKind.bits, Bool.and_eq_true, decide_eq_true_eq, if_true] at h
  omega
theorem w64 {a : Int} (h : -9223372036854775808 ≤ a ∧ a ≤ 9223372036854775807) : wrap64 a = a := by unfold wrap64; omega
theorem size_spec {a : Int} (h : -9223372036854775808 ≤ a ∧ a ≤ 9223372036854775807) : num_size.f a = some (a.natAbs : Int) := by
  unfold num_size.f; simp only [IntKind.wrap_u64]; split <;> (congr 1; omega)

def inR (a : Int) : Prop := -9223372036854775808 ≤ a ∧ a ≤ 9223372036854775807
instance inRd (a : Int) : Decidable (inR a) := by unfold inR; infer_instance
def chk (a : Int) : Int × Bool := if inR a then (a, true) else (0, false)
theorem chk_yes {a : Int} (h : inR a) : chk a = (a, true) := if_pos h
theorem chk_no {a : Int} (h : ¬ inR a) : chk a = (0, false) := if_neg h
theorem add_spec {a b : Int} (ha : inR a) (hb : inR b) : num_Add.f a b = some (chk (a + b)) := by
  unfold num_Add.f
  by_cases hr : inR (a + b)
  · rw [chk_yes hr, w64 hr]; unfold inR at *
    by_cases h1 : a < 0 <;> by_cases h2 : b < 0 <;> by_cases h3 : a + b < 0 <;> first | (simp [h1, h2, h3]; done) | (exfalso; omega)
  · rw [chk_no hr]
    have e : wrap64 (a + b) = if a < 0 then a + b + 18446744073709551616 else a + b - 18446744073709551616 := by unfold wrap64 inR at *; split <;> omega
    rw [e]; unfold inR at *
    by_cases h1 : a < 0 <;> by_cases h2 : b < 0 <;> first | (exfalso; omega) | skip
    · have h3 : ¬ a + b + 18446744073709551616 < 0 := by omega
      simp [h1, h2, h3]
    · have h3 : a + b - 18446744073709551616 < 0 := by omega
      simp [h1, h2, h3]
theorem and_low (a : Nat) (h : a < 18446744073709551616) : Go.bits .and .u64 (a : Int) 4294967295 = ((a % 4294967296 : Nat) : Int) := by
  have h1 : (BitVec.ofInt 64 (a : Int)).toNat = a := by
    rw [BitVec.ofInt_natCast, BitVec.toNat_ofNat]; exact Nat.mod_eq_of_lt (by omega)
  have h2 : (BitVec.ofInt 64 (4294967295 : Int)).toNat = 2 ^ 32 - 1 := rfl
  show IntKind.u64.wrap ((BitVec.ofInt 64 (a : Int) &&& BitVec.ofInt 64 4294967295).toNat : Int) = _
  rw [BitVec.toNat_and, h1, h2, Nat.and_two_pow_sub_one_eq_mod, IntKind.wrap_u64]
  omega
theorem mul64_spec (x y : Nat) (hx : x < 18446744073709551616) (hy : y < 18446744073709551616) :
    bits_Mul64.f (x : Int) (y : Int) = some (((x * y / 18446744073709551616 : Nat) : Int), ((x * y % 18446744073709551616 : Nat) : Int)) := by
  unfold bits_Mul64.f
  rw [and_low x hx, and_low y hy]
  simp only [IntKind.wrap_u64]
  have dx : x = (x / 4294967296) * 4294967296 + x % 4294967296 := by omega
  have dy : y = (y / 4294967296) * 4294967296 + y % 4294967296 := by omega
  have bx1 : x / 4294967296 ≤ 4294967295 := by omega
  have by1 : y / 4294967296 ≤ 4294967295 := by omega
  have bx0 : x % 4294967296 ≤ 4294967295 := by omega
  have by0 : y % 4294967296 ≤ 4294967295 := by omega
  have ex : (x : Int) / 4294967296 = ((x / 4294967296 : Nat) : Int) := by omega
  have ey : (y : Int) / 4294967296 = ((y / 4294967296 : Nat) : Int) := by omega
  rw [ex, ey]
  have hp : x * y = (x / 4294967296) * (y / 4294967296) * 18446744073709551616 + ((x / 4294967296) * (y % 4294967296) + (x % 4294967296) * (y / 4294967296)) * 4294967296 + (x % 4294967296) * (y % 4294967296) := by
    have e : x * y = ((x / 4294967296) * 4294967296 + x % 4294967296) * ((y / 4294967296) * 4294967296 + y % 4294967296) := by rw [← dx, ← dy]
    rw [e]
    generalize x / 4294967296 = p
    generalize x % 4294967296 = q
    generalize y / 4294967296 = r
    generalize y % 4294967296 = s
    simp only [Nat.add_mul, Nat.mul_add]
    have a1 : p * 4294967296 * (r * 4294967296) = p * r * 18446744073709551616 := by rw [Nat.mul_mul_mul_comm]
    have a2 : p * 4294967296 * s = p * s * 4294967296 := by rw [Nat.mul_right_comm]
    have a3 : q * (r * 4294967296) = q * r * 4294967296 := by rw [Nat.mul_assoc]
    rw [a1, a2, a3]; omega
  have hpi : (x : Int) * (y : Int) = ((x * y : Nat) : Int) := by exact_mod_cast rfl
  rw [hpi, hp]
  generalize x / 4294967296 = p at *
  generalize x % 4294967296 = q at *
  generalize y / 4294967296 = r at *
  generalize y % 4294967296 = s at *
  have c1 : (p : Int) * (r : Int) = ((p * r : Nat) : Int) := by exact_mod_cast rfl
  have c2 : (p : Int) * (s : Int) = ((p * s : Nat) : Int) := by exact_mod_cast rfl
  have c3 : (q : Int) * (r : Int) = ((q * r : Nat) : Int) := by exact_mod_cast rfl
  have c4 : (q : Int) * (s : Int) = ((q * s : Nat) : Int) := by exact_mod_cast rfl
  rw [c1, c2, c3, c4]
  have l1 : p * r ≤ 4294967295 * 4294967295 := Nat.mul_le_mul bx1 by1
  have l2 : p * s ≤ 4294967295 * 4294967295 := Nat.mul_le_mul bx1 by0
  have l3 : q * r ≤ 4294967295 * 4294967295 := Nat.mul_le_mul bx0 by1
  have l4 : q * s ≤ 4294967295 * 4294967295 := Nat.mul_le_mul bx0 by0
  clear hp hpi c1 c2 c3 c4 dx dy ex ey hx hy
  generalize p * r = A at *
  generalize p * s = B at *
  generalize q * r = C at *
  generalize q * s = D at *
  rw [show ((B : Int) % 18446744073709551616 + (D : Int) % 18446744073709551616 / 4294967296) % 18446744073709551616 = ((B + D / 4294967296 : Nat) : Int) by omega]
  have t1 : (Go.bits .and .u64 (((B + D / 4294967296 : Nat)) : Int) 4294967295) = (((B + D / 4294967296) % 4294967296 : Nat) : Int) := and_low _ (by omega)
  rw [t1]
  congr 1
  refine Prod.ext ?_ ?_
  · show _ = _
    simp only []
    omega
  · show _ = _
    simp only []
    omega
theorem mul_sign (a b : Int) : a * b = if (decide (a < 0) != decide (b < 0)) = true then -((a.natAbs * b.natAbs : Nat) : Int) else ((a.natAbs * b.natAbs : Nat) : Int) := by
  have h : ((a.natAbs * b.natAbs : Nat) : Int) = (a.natAbs : Int) * (b.natAbs : Int) := by exact_mod_cast rfl
  rw [h]
  by_cases h1 : a < 0 <;> by_cases h2 : b < 0
  · rw [if_neg (by simp [h1, h2]), show (a.natAbs : Int) = -a by omega, show (b.natAbs : Int) = -b by omega, Int.neg_mul_neg]
  · rw [if_pos (by simp [h1, h2]), show (a.natAbs : Int) = -a by omega, show (b.natAbs : Int) = b by omega, Int.neg_mul, Int.neg_neg]
  · rw [if_pos (by simp [h1, h2]), show (a.natAbs : Int) = a by omega, show (b.natAbs : Int) = -b by omega, Int.mul_neg, Int.neg_neg]
  · rw [if_neg (by simp [h1, h2]), show (a.natAbs : Int) = a by omega, show (b.natAbs : Int) = b by omega]
theorem mul_spec {k : Nat} {a b : Int} (hk : 2 ≤ k) (ha : inR a) (hb : inR b) : num_Mul.f k a b = some (chk (a * b)) := by
  obtain ⟨k, rfl⟩ : ∃ m, k = m + 2 := ⟨k - 2, by omega⟩
  unfold num_Mul.f
  rw [size_spec ha, size_spec hb]; simp only [Option.bind_some]
  rw [mul64_spec _ _ (by unfold inR at ha; omega) (by unfold inR at hb; omega)]; simp only [Option.bind_some]
  have hs := mul_sign a b
  generalize a.natAbs * b.natAbs = P at *
  by_cases hd : (decide (a < 0) != decide (b < 0)) = true
  · rw [if_pos hd] at hs
    rw [if_pos hd, hd, hs]
    by_cases h0 : (((P / 18446744073709551616 : Nat)) : Int) > 0
    · simp only [num_Mul.j0, if_pos h0, num_Mul.j1, if_true]
      rw [chk_no (by unfold inR; omega)]
    · simp only [num_Mul.j0, if_neg h0, num_Mul.j1]
      by_cases h1 : ((P % 18446744073709551616 : Nat) : Int) > 9223372036854775807 + 1
      · rw [if_pos (decide_eq_true h1), chk_no (by unfold inR; omega)]
      · rw [if_neg (by simpa using h1), if_pos trivial, chk_yes (by unfold inR; omega), IntKind.wrap_u64]
        congr 2; unfold wrap64; omega
  · rw [if_neg hd] at hs
    rw [if_neg hd, Bool.eq_false_iff.2 hd, hs]
    by_cases h0 : (((P / 18446744073709551616 : Nat)) : Int) > 0
    · simp only [num_Mul.j0, if_pos h0, num_Mul.j1, if_true]
      rw [chk_no (by unfold inR; omega)]
    · simp only [num_Mul.j0, if_neg h0, num_Mul.j1]
      by_cases h1 : ((P % 18446744073709551616 : Nat) : Int) > 9223372036854775807
      · rw [if_pos (decide_eq_true h1), chk_no (by unfold inR; omega)]
      · rw [if_neg (by simpa using h1), if_neg (by simp), chk_yes (by unfold inR; omega)]
        congr 2; unfold wrap64; omega

/-! forms at points -/
theorem mul_bd {a b A B : Int} (ha : -A ≤ a ∧ a ≤ A) (hb : -B ≤ b ∧ b ≤ B) : -(A * B) ≤ a * b ∧ a * b ≤ A * B := by
  have h1 : a.natAbs ≤ A.toNat := by omega
  have h2 : b.natAbs ≤ B.toNat := by omega
  have h3 : (a * b).natAbs ≤ A.toNat * B.toNat := by rw [Int.natAbs_mul]; exact Nat.mul_le_mul h1 h2
  have h4 : ((A.toNat * B.toNat : Nat) : Int) = A * B := by rw [Int.natCast_mul, Int.toNat_of_nonneg (by omega), Int.toNat_of_nonneg (by omega)]
  omega
theorem rd_drop {l : List Int} {i : Int} (h0 : 0 ≤ i) (h : i < (l.length : Int)) : l.drop i.toNat = rd l i :: l.drop (i + 1).toNat := by
  have hn : i.toNat < l.length := by omega
  have e : (i + 1).toNat = i.toNat + 1 := by omega
  rw [List.drop_eq_getElem_cons hn, e]
  congr 1
  simp [rd, List.getD, hn]
theorem rd_mem {l : List Int} {i : Int} (h0 : 0 ≤ i) (h : i < (l.length : Int)) : rd l i ∈ l := by
  have hn : i.toNat < l.length := by omega
  have e : rd l i = l[i.toNat] := by simp [rd, List.getD, hn]
  rw [e]; exact List.getElem_mem hn
theorem drop_end {l : List Int} {i : Int} (h : (l.length : Int) ≤ i) : l.drop i.toNat = [] := List.drop_of_length_le (by omega)
def fltE (c : Int) : List Flt := [⟨⟨#[102, 111, 114, 109]⟩, 0, some c⟩]
theorem fault_eq (c : Int) : lin_fault.f c = some (fltE c) := rfl
/-- what a form comes to, from a place on -/
def atS : List Int → List Int → Int → Int → Int × List Flt
  | c :: cs, x :: xs, s, K => if inR (c * x) then (if inR (s + c * x) then atS cs xs (s + c * x) K else (0, fltE 5)) else (0, fltE 5)
  | _, _, s, K => if inR (s + K) then (s + K, []) else (0, fltE 5)
theorem at_l {l x c : List Int} {K : Int} (hx : l.length = x.length) (hl : ∀ z ∈ l, inR z) (hxx : ∀ z ∈ x, inR z) (hK : inR K) (hlen : l.length < 9223372036854775807) (d : Nat) :
    ∀ (k : Nat) (i s : Int), 0 ≤ i → (l.length : Int) - i = d → d + 2 < k → inR s → lin_At.l0 k x s l (l.length : Int) i c K = some (atS (l.drop i.toNat) (x.drop i.toNat) s K) := by
  induction d with
  | zero =>
    intro k i s h0 hd hk hs
    obtain ⟨k, rfl⟩ : ∃ m, k = m + 1 := ⟨k - 1, by omega⟩
    simp only [lin_At.l0]
    rw [if_neg (by omega), add_spec hs hK, drop_end (by omega), drop_end (by omega)]
    simp only [Option.bind_some, atS]
    by_cases h : inR (s + K)
    · rw [chk_yes h, if_pos h]; rfl
    · rw [chk_no h, if_neg h, fault_eq]; rfl
  | succ d ih =>
    intro k i s h0 hd hk hs
    obtain ⟨k, rfl⟩ : ∃ m, k = m + 1 := ⟨k - 1, by omega⟩
    have hi : i < (l.length : Int) := by omega
    have hi' : i < (x.length : Int) := by omega
    simp only [lin_At.l0]
    rw [if_pos hi, if_pos h0, if_pos hi, if_pos hi', mul_spec (by omega) (hl _ (rd_mem h0 hi)) (hxx _ (rd_mem h0 hi')), rd_drop h0 hi, rd_drop h0 hi']
    simp only [Option.bind_some, atS]
    by_cases h : inR (rd l i * rd x i)
    · rw [chk_yes h, if_pos h, if_pos rfl, add_spec hs h]
      simp only [Option.bind_some]
      by_cases h2 : inR (s + rd l i * rd x i)
      · rw [chk_yes h2, if_pos h2, if_pos rfl, w64 (by omega)]
        exact ih k (i + 1) _ (by omega) (by omega) (by omega) h2
      · rw [chk_no h2, if_neg h2, fault_eq]; rfl
    · rw [chk_no h, if_neg h, fault_eq]; rfl
theorem at_spec {l x : List Int} {K : Int} {k : Nat} (hx : l.length = x.length) (hl : ∀ z ∈ l, inR z) (hxx : ∀ z ∈ x, inR z) (hK : inR K) (hlen : l.length < 9223372036854775807) (hk : l.length + 2 < k) :
    lin_At.f k l K x = some (atS l x 0 K) := by
  unfold lin_At.f
  rw [if_pos (by omega), at_l hx hl hxx hK hlen l.length k 0 0 (by omega) (by omega) hk (by unfold inR; omega)]
  rfl
theorem at_no {l x : List Int} {K : Int} {k : Nat} (hx : l.length ≠ x.length) : lin_At.f k l K x = some (0, fltE 1) := by
  unfold lin_At.f
  rw [if_neg (by omega)]; rfl
/-- the points at which a form is least, and greatest -/
def lows : List Int → List Int → List Int → List Int
  | c :: cs, l :: ls, h :: hs => (if c < 0 then h else l) :: lows cs ls hs
  | _, _, _ => []
def highs : List Int → List Int → List Int → List Int
  | c :: cs, l :: ls, h :: hs => (if c < 0 then l else h) :: highs cs ls hs
  | _, _, _ => []
def badS : List Int → List Int → Bool
  | l :: ls, h :: hs => decide (l > h) || badS ls hs
  | _, _ => false
def endS (l : List Int) (K : Int) (x y : List Int) : Int × Int × List Flt :=
  let a := atS l x 0 K
  let b := atS l y 0 K
  if (a.2.length : Int) = 0 then (if (b.2.length : Int) = 0 then (a.1, b.1, []) else (0, 0, b.2)) else (0, 0, a.2)
theorem lows_length {l lo hi : List Int} (h1 : l.length = lo.length) (h2 : l.length = hi.length) : (lows l lo hi).length = l.length := by
  induction l generalizing lo hi with
  | nil => cases lo <;> cases hi <;> simp_all [lows]
  | cons c l ih =>
    match lo, hi, h1, h2 with
    | a :: lo, b :: hi, h1, h2 => simp [lows, ih (by simpa using h1) (by simpa using h2)]
theorem highs_length {l lo hi : List Int} (h1 : l.length = lo.length) (h2 : l.length = hi.length) : (highs l lo hi).length = l.length := by
  induction l generalizing lo hi with
  | nil => cases lo <;> cases hi <;> simp_all [highs]
  | cons c l ih =>
    match lo, hi, h1, h2 with
    | a :: lo, b :: hi, h1, h2 => simp [highs, ih (by simpa using h1) (by simpa using h2)]
theorem lows_in {l lo hi : List Int} (h1 : ∀ z ∈ lo, inR z) (h2 : ∀ z ∈ hi, inR z) : ∀ z ∈ lows l lo hi, inR z := by
  induction l generalizing lo hi with
  | nil => intro z hz; simp [lows] at hz
  | cons c l ih =>
    match lo, hi with
    | [], _ => intro z hz; simp [lows] at hz
    | _ :: _, [] => intro z hz; simp [lows] at hz
    | a :: lo, b :: hi =>
      intro z hz
      simp only [lows, List.mem_cons] at hz
      rcases hz with rfl | hz
      · split
        · exact h2 _ (by simp)
        · exact h1 _ (by simp)
      · exact ih (fun z hz => h1 z (by simp [hz])) (fun z hz => h2 z (by simp [hz])) z hz
theorem highs_in {l lo hi : List Int} (h1 : ∀ z ∈ lo, inR z) (h2 : ∀ z ∈ hi, inR z) : ∀ z ∈ highs l lo hi, inR z := by
  induction l generalizing lo hi with
  | nil => intro z hz; simp [highs] at hz
  | cons c l ih =>
    match lo, hi with
    | [], _ => intro z hz; simp [highs] at hz
    | _ :: _, [] => intro z hz; simp [highs] at hz
    | a :: lo, b :: hi =>
      intro z hz
      simp only [highs, List.mem_cons] at hz
      rcases hz with rfl | hz
      · split
        · exact h1 _ (by simp)
        · exact h2 _ (by simp)
      · exact ih (fun z hz => h1 z (by simp [hz])) (fun z hz => h2 z (by simp [hz])) z hz
theorem range_l1 {l lo hi : List Int} {K : Int} (h1 : l.length = lo.length) (h2 : l.length = hi.length) (hl : ∀ z ∈ l, inR z) (hlo : ∀ z ∈ lo, inR z) (hhi : ∀ z ∈ hi, inR z) (hK : inR K) (hlen : l.length < 17592186044416) (d : Nat) :
    ∀ (k : Nat) (i : Int) (p q : List Int), 0 ≤ i → (l.length : Int) - i = d → d + l.length + 3 < k → p ++ lows (l.drop i.toNat) (lo.drop i.toNat) (hi.drop i.toNat) = lows l lo hi → q ++ highs (l.drop i.toNat) (lo.drop i.toNat) (hi.drop i.toNat) = highs l lo hi → (p.length : Int) = i → (q.length : Int) = i →
      lin_Range.l1 k lo hi p q l (l.length : Int) i l K = some (endS l K (lows l lo hi) (highs l lo hi)) := by
  induction d with
  | zero =>
    intro k i p q h0 hd hk hp hq hpl hql
    obtain ⟨k, rfl⟩ : ∃ m, k = m + 1 := ⟨k - 1, by omega⟩
    have e0 : l.drop i.toNat = [] := drop_end (by omega)
    rw [e0] at hp hq
    simp only [lows, highs, List.append_nil] at hp hq
    subst hp hq
    simp only [lin_Range.l1]
    rw [if_neg (by omega), at_spec (lows_length h1 h2).symm hl (lows_in hlo hhi) hK (by omega) (by omega), at_spec (highs_length h1 h2).symm hl (highs_in hlo hhi) hK (by omega) (by omega)]
    simp only [Option.bind_some, endS]
    split
    · split <;> rfl
    · rfl
  | succ d ih =>
    intro k i p q h0 hd hk hp hq hpl hql
    obtain ⟨k, rfl⟩ : ∃ m, k = m + 1 := ⟨k - 1, by omega⟩
    have a1 : i < (l.length : Int) := by omega
    have a2 : i < (lo.length : Int) := by omega
    have a3 : i < (hi.length : Int) := by omega
    rw [rd_drop h0 a1, rd_drop h0 a2, rd_drop h0 a3] at hp hq
    simp only [lows, highs] at hp hq
    simp only [lin_Range.l1]
    rw [if_pos a1, if_pos h0, if_pos a1, if_pos a2, if_pos a3, w64 (by omega)]
    have z1 : p.length < 17592186044416 := by omega
    have z2 : q.length < 17592186044416 := by omega
    by_cases hc : rd l i < 0
    · rw [if_pos hc] at hp hq ⊢
      rw [if_pos z1, if_pos z2]
      exact ih k (i + 1) (p ++ [rd hi i]) (q ++ [rd lo i]) (by omega) (by omega) (by omega) (by rw [List.append_assoc]; exact hp) (by rw [List.append_assoc]; exact hq) (by simp; omega) (by simp; omega)
    · rw [if_neg hc] at hp hq ⊢
      rw [if_pos z1, if_pos z2]
      exact ih k (i + 1) (p ++ [rd lo i]) (q ++ [rd hi i]) (by omega) (by omega) (by omega) (by rw [List.append_assoc]; exact hp) (by rw [List.append_assoc]; exact hq) (by simp; omega) (by simp; omega)
theorem range_l0 {l lo hi : List Int} {K : Int} (h1 : l.length = lo.length) (h2 : l.length = hi.length) (hl : ∀ z ∈ l, inR z) (hlo : ∀ z ∈ lo, inR z) (hhi : ∀ z ∈ hi, inR z) (hK : inR K) (hlen : l.length < 17592186044416) (d : Nat) :
    ∀ (k : Nat) (i : Int), 0 ≤ i → (l.length : Int) - i = d → d + l.length + l.length + 5 < k →
      lin_Range.l0 k lo hi (l.length : Int) i l K = some (if badS (lo.drop i.toNat) (hi.drop i.toNat) = true then (0, 0, fltE 1) else endS l K (lows l lo hi) (highs l lo hi)) := by
  induction d with
  | zero =>
    intro k i h0 hd hk
    obtain ⟨k, rfl⟩ : ∃ m, k = m + 1 := ⟨k - 1, by omega⟩
    simp only [lin_Range.l0]
    rw [if_neg (by omega), drop_end (by omega : (lo.length : Int) ≤ i)]
    rw [range_l1 h1 h2 hl hlo hhi hK hlen l.length k 0 [] [] (by omega) (by omega) (by omega) rfl rfl rfl rfl]
    simp [badS]
  | succ d ih =>
    intro k i h0 hd hk
    obtain ⟨k, rfl⟩ : ∃ m, k = m + 1 := ⟨k - 1, by omega⟩
    have a2 : i < (lo.length : Int) := by omega
    have a3 : i < (hi.length : Int) := by omega
    simp only [lin_Range.l0]
    rw [if_pos (by omega), if_pos h0, if_pos a2, if_pos a3, rd_drop h0 a2, rd_drop h0 a3]
    by_cases hb : rd lo i > rd hi i
    · have e : badS (rd lo i :: lo.drop (i + 1).toNat) (rd hi i :: hi.drop (i + 1).toNat) = true := by simp only [badS]; rw [decide_eq_true hb]; rfl
      rw [if_pos hb, e]; rfl
    · have e : badS (rd lo i :: lo.drop (i + 1).toNat) (rd hi i :: hi.drop (i + 1).toNat) = badS (lo.drop (i + 1).toNat) (hi.drop (i + 1).toNat) := by simp only [badS]; rw [decide_eq_false hb]; rfl
      rw [if_neg hb, e, w64 (by omega)]
      exact ih k (i + 1) (by omega) (by omega) (by omega)
theorem range_spec {l lo hi : List Int} {K : Int} {k : Nat} (h1 : l.length = lo.length) (h2 : l.length = hi.length) (hl : ∀ z ∈ l, inR z) (hlo : ∀ z ∈ lo, inR z) (hhi : ∀ z ∈ hi, inR z) (hK : inR K) (hlen : l.length < 17592186044416) (hk : 3 * l.length + 7 < k) :
    lin_Range.f k l K lo hi = some (if badS lo hi = true then (0, 0, fltE 1) else endS l K (lows l lo hi) (highs l lo hi)) := by
  unfold lin_Range.f
  obtain ⟨k, rfl⟩ : ∃ m, k = m + 1 := ⟨k - 1, by omega⟩
  have e : ((l.length : Int) != (hi.length : Int)) = false := bne_eq_false_iff_eq.mpr (by omega)
  rw [if_pos (by omega), e]
  simp only [lin_Range.j0]
  rw [if_neg (by simp), show (lo.length : Int) = (l.length : Int) by omega, range_l0 h1 h2 hl hlo hhi hK hlen l.length k 0 (by omega) (by omega) (by omega)]
  rfl

/-! forms made number by number; forms alike -/
def sameS : List Int → List Int → Bool
  | [], [] => true
  | a :: l, [] => a == 0 && sameS l []
  | [], b :: m => 0 == b && sameS [] m
  | a :: l, b :: m => a == b && sameS l m
theorem same_l {l m : List Int} {a b n : Int} (hn : n = mx (l.length : Int) (m.length : Int)) (hl : l.length < 4611686018427387904) (hm : m.length < 4611686018427387904) (d : Nat) :
    ∀ (k : Nat) (i : Int), 0 ≤ i → n - i = d → 2 * d + 1 < k → lin_Same.l0 k n i l a m b = some (sameS (l.drop i.toNat) (m.drop i.toNat) && (a == b)) := by
  have e : ((l.length : Int) ≤ n ∧ (m.length : Int) ≤ n) ∧ (n = (l.length : Int) ∨ n = (m.length : Int)) := by rw [hn]; unfold mx; split <;> omega
  induction d with
  | zero =>
    intro k i h0 hd hk
    obtain ⟨k, rfl⟩ : ∃ m, k = m + 1 := ⟨k - 1, by omega⟩
    simp only [lin_Same.l0]
    rw [if_neg (by omega), drop_end (by omega), drop_end (by omega)]
    simp [sameS]
  | succ d ih =>
    intro k i h0 hd hk
    obtain ⟨k, rfl⟩ : ∃ m, k = m + 1 := ⟨k - 1, by omega⟩
    obtain ⟨k, rfl⟩ : ∃ m, k = m + 1 := ⟨k - 1, by omega⟩
    have r := ih k (i + 1) (by omega) (by omega) (by omega)
    simp only [lin_Same.l0]
    rw [if_pos (by omega)]
    by_cases c1 : i < (l.length : Int)
    · rw [if_pos c1, if_pos h0, rd_drop h0 c1]
      simp only [lin_Same.j1]
      by_cases c2 : i < (m.length : Int)
      · rw [if_pos c2, if_pos h0, rd_drop h0 c2, w64 (by omega)]
        by_cases c : rd l i = rd m i
        · rw [if_pos c, r]; simp [sameS, c]
        · rw [if_neg c]; simp [sameS, c]
      · rw [if_neg c2, drop_end (l := m) (by omega), w64 (by omega)]
        rw [drop_end (l := m) (i := i + 1) (by omega)] at r
        by_cases c : rd l i = 0
        · rw [if_pos c, r]; simp [sameS, c]
        · rw [if_neg c]; simp [sameS, c]
    · have c2 : i < (m.length : Int) := by omega
      rw [if_neg c1, drop_end (l := l) (by omega), rd_drop h0 c2]
      rw [drop_end (l := l) (i := i + 1) (by omega)] at r
      simp only [lin_Same.j1]
      rw [if_pos c2, if_pos h0, w64 (by omega)]
      by_cases c : 0 = rd m i
      · rw [if_pos c, r]; simp [sameS, ← c]
      · rw [if_neg c]; simp [sameS, c]
theorem same_spec {l m : List Int} {a b : Int} {k : Nat} (hl : l.length < 4611686018427387904) (hm : m.length < 4611686018427387904) (hk : 2 * (l.length + m.length) + 2 < k) : lin_Same.f k l a m b = some (sameS l m && (a == b)) := by
  unfold lin_Same.f
  have e : mx (l.length : Int) (m.length : Int) = ((if l.length < m.length then m.length else l.length : Nat) : Int) := by unfold mx; split <;> split <;> omega
  rw [same_l rfl hl hm (if l.length < m.length then m.length else l.length) k 0 (by omega) (by rw [e]; omega) (by split <;> omega)]
  rfl
theorem sameS_refl : ∀ l : List Int, sameS l l = true
  | [] => by simp [sameS]
  | a :: l => by simp [sameS, sameS_refl l]
theorem sameS_eq {l m : List Int} (h : l.length = m.length) : sameS l m = decide (l = m) := by
  induction l generalizing m with
  | nil => cases m with | nil => simp [sameS] | cons b m => simp at h
  | cons a l ih =>
    cases m with
    | nil => simp at h
    | cons b m => simp only [sameS, ih (by simpa using h)]; by_cases c : a = b <;> by_cases c' : l = m <;> simp [c, c']
/-- are all numbers from a place on in range? -/
def allB (v : Int → Int) : Int → Nat → Bool
  | _, 0 => true
  | i, d + 1 => decide (inR (v i)) && allB v (i + 1) d
/-- a list number by number -/
def made (v : Int → Int) (n : Nat) : List Int := (List.range n).map fun (j : Nat) => v (j : Int)
theorem made_length (v : Int → Int) (n : Nat) : (made v n).length = n := by simp [made]
theorem made_succ (v : Int → Int) (n : Nat) : made v (n + 1) = made v n ++ [v (n : Int)] := by simp [made, List.range_succ]
def eachS (v : Int → Int) (n : Nat) : List Int × Int × List Flt := if allB v 0 (n + 1) = true then (made v n, v (n : Int), []) else ([], 0, fltE 5)
theorem set_made (v : Int → Int) (j r : Nat) (x : Int) : (made v j ++ List.replicate (r + 1) 0).set j x = made v j ++ [x] ++ List.replicate r 0 := by
  rw [List.set_append]
  simp [made_length, List.replicate_succ]
theorem each_l {GG : CloA} {v : Int → Int} {n : Nat} (hn : n < 35184372088833) (hg : ∀ i : Int, 0 ≤ i → i ≤ n → GG.f i = some (chk (v i))) (d : Nat) :
    ∀ (k : Nat) (j : Nat), j + d = n → d + 2 < k → lin_each.l0 GG k (n : Int) ((n : Int) + 1) (j : Int) (made v j ++ List.replicate d 0) 0 = some (if allB v (j : Int) (d + 1) = true then (made v n, v (n : Int), []) else ([], 0, fltE 5)) := by
  induction d with
  | zero =>
    intro k j hj hk
    obtain ⟨k, rfl⟩ : ∃ m, k = m + 1 := ⟨k - 1, by omega⟩
    obtain ⟨k, rfl⟩ : ∃ m, k = m + 1 := ⟨k - 1, by omega⟩
    obtain rfl : j = n := by omega
    rw [lin_each.l0, if_pos (by omega), hg _ (by omega) (by omega)]
    simp only [Option.bind_some]
    by_cases h : inR (v (j : Int))
    · have e : allB v (j : Int) (0 + 1) = true := by simp [allB, h]
      rw [chk_yes h, e, if_pos rfl, if_pos rfl, if_neg (by omega), w64 (by omega), lin_each.l0, if_neg (by omega)]
      simp
    · have e : allB v (j : Int) (0 + 1) = false := by simp [allB, h]
      rw [chk_no h, e, if_neg (by simp), if_neg (by simp), fault_eq]
      rfl
  | succ d ih =>
    intro k j hj hk
    obtain ⟨k, rfl⟩ : ∃ m, k = m + 1 := ⟨k - 1, by omega⟩
    rw [lin_each.l0, if_pos (by omega), hg _ (by omega) (by omega)]
    simp only [Option.bind_some]
    by_cases h : inR (v (j : Int))
    · have r := ih k (j + 1) (by omega) (by omega)
      have e : allB v (j : Int) (d + 1 + 1) = allB v ((j : Int) + 1) (d + 1) := by rw [allB, decide_eq_true h, Bool.true_and]
      rw [chk_yes h, e, if_pos rfl, if_pos (by omega), if_pos (by omega), if_pos (by simp [made_length]; omega), w64 (by omega)]
      have e2 : ((j : Int) + 1) = ((j + 1 : Nat) : Int) := by omega
      rw [show (((j : Int)).toNat) = j from rfl, set_made, ← made_succ, e2, r]
    · have e : allB v (j : Int) (d + 1 + 1) = false := by rw [allB, decide_eq_false h, Bool.false_and]
      rw [chk_no h, e, if_neg (by simp), if_neg (by simp), fault_eq]
      rfl
theorem each_spec {GG : CloA} {v : Int → Int} {n k : Nat} (hn : n < 35184372088832) (hg : ∀ i : Int, 0 ≤ i → i ≤ n → GG.f i = some (chk (v i))) (hk : n + 2 < k) : lin_each.f GG k (n : Int) = some (eachS v n) := by
  unfold lin_each.f
  rw [if_pos (by omega), if_pos (by omega), w64 (by omega)]
  have r := each_l (GG := GG) (v := v) (n := n) (by omega) hg n k 0 (by omega) hk
  simp only [made, List.range_zero, List.map_nil, List.nil_append] at r
  exact r
/-- a form's numbers; behind them its last -/
def partS (l : List Int) (K : Int) (i : Int) : Int := if i < (l.length : Int) then rd l i else K
theorem part_spec {l : List Int} {K i : Int} (h : 0 ≤ i) : lin_Form_part.f l K i = some (partS l K i) := by
  unfold lin_Form_part.f partS
  by_cases c : i < (l.length : Int)
  · rw [if_pos c, if_pos h, if_pos c]
  · rw [if_neg c, if_neg c]
theorem part_in {l : List Int} {K i : Int} (h0 : 0 ≤ i) (hl : ∀ z ∈ l, inR z) (hK : inR K) : inR (partS l K i) := by
  unfold partS; split
  · exact hl _ (rd_mem h0 ‹_›)
  · exact hK
theorem add_l {l m : List Int} {a b : Int} (h : l.length = m.length) (hl : ∀ z ∈ l, inR z) (hm : ∀ z ∈ m, inR z) (ha : inR a) (hb : inR b) (hlen : l.length < 35184372088832) :
    lin_Add.f l a m b = some (eachS (fun i => partS l a i + partS m b i) l.length) := by
  unfold lin_Add.f addE
  rw [if_pos (by omega), each_spec (v := fun i => partS l a i + partS m b i) hlen (fun i h0 hi => ?_) (by omega)]
  · rfl
  · simp only [part_spec h0, Option.bind_some]
    exact add_spec (part_in h0 hl ha) (part_in h0 hm hb)
theorem add_no {l m : List Int} {a b : Int} (h : l.length ≠ m.length) : lin_Add.f l a m b = some ([], 0, fltE 1) := by
  unfold lin_Add.f
  rw [if_neg (by omega)]; rfl
theorem scale_l {l : List Int} {a c : Int} (hl : ∀ z ∈ l, inR z) (ha : inR a) (hc : inR c) (hlen : l.length < 35184372088832) :
    lin_Scale.f l a c = some (eachS (fun i => partS l a i * c) l.length) := by
  unfold lin_Scale.f scaleE
  rw [each_spec (v := fun i => partS l a i * c) hlen (fun i h0 hi => ?_) (by omega)]
  · rfl
  · simp only [part_spec h0, Option.bind_some]
    exact mul_spec (by omega) (part_in h0 hl ha) hc
theorem allB_iff (v : Int → Int) (d : Nat) : ∀ i : Int, allB v i d = true ↔ ∀ j : Int, i ≤ j → j < i + d → inR (v j) := by
  induction d with
  | zero => intro i; simp [allB]; omega
  | succ d ih =>
    intro i
    simp only [allB, Bool.and_eq_true, decide_eq_true_eq, ih]
    constructor
    · rintro ⟨h1, h2⟩ j hj hj'
      by_cases e : i = j
      · subst e; exact h1
      · exact h2 j (by omega) (by omega)
    · intro h
      exact ⟨h i (by omega) (by omega), fun j hj hj' => h j (by omega) (by omega)⟩
theorem rd_get {l : List Int} {j : Nat} (h : j < l.length) : rd l (j : Int) = l[j] := by simp [rd, List.getD, h]
theorem made_get (v : Int → Int) {n j : Nat} (h : j < n) : rd (made v n) (j : Int) = v (j : Int) := by
  rw [rd_get (by rw [made_length]; exact h)]; simp [made]
theorem made_in {v : Int → Int} {n : Nat} (h : ∀ j : Int, 0 ≤ j → j < n → inR (v j)) : ∀ z ∈ made v n, inR z := by
  intro z hz
  simp only [made, List.mem_map, List.mem_range] at hz
  obtain ⟨j, hj, rfl⟩ := hz
  exact h _ (by omega) (by omega)
theorem made_congr {v u : Int → Int} {n : Nat} (h : ∀ j : Int, 0 ≤ j → j < n → v j = u j) : made v n = made u n := by
  simp only [made]
  apply List.map_congr_left
  intro j hj
  exact h _ (by omega) (by simpa using hj)
theorem part_made {v : Int → Int} {n : Nat} {j : Int} (h0 : 0 ≤ j) (h : j ≤ n) : partS (made v n) (v (n : Int)) j = v j := by
  unfold partS
  rw [made_length]
  by_cases c : j < (n : Int)
  · rw [if_pos c]
    obtain ⟨m, rfl⟩ : ∃ m : Nat, j = (m : Int) := ⟨j.toNat, by omega⟩
    exact made_get v (by omega)
  · rw [if_neg c, show j = (n : Int) by omega]

/-! small forms -/
def dot : List Int → List Int → Int
  | c :: cs, x :: xs => c * x + dot cs xs
  | _, _ => 0
theorem at_small {L X : Int} (hX : 0 ≤ X) (hL : 0 ≤ L) : ∀ (l x : List Int) (s K : Int), (∀ z ∈ l, -L ≤ z ∧ z ≤ L) → (∀ z ∈ x, -X ≤ z ∧ z ≤ X) → (s.natAbs : Int) + l.length * (L * X) + K.natAbs ≤ 4611686018427387904 → atS l x s K = (s + dot l x + K, [])
  | [], x, s, K, _, _, h => by
    rw [List.length_nil, Int.natCast_zero, Int.zero_mul] at h
    simp only [atS, dot]
    rw [if_pos (by unfold inR; omega)]
    simp
  | c :: l, [], s, K, _, _, h => by
    have h3 : (0 : Int) ≤ ((c :: l).length : Int) * (L * X) := Int.mul_nonneg (by omega) (Int.mul_nonneg hL hX)
    simp only [atS, dot]
    rw [if_pos (by unfold inR; omega)]
    simp
  | c :: l, y :: x, s, K, hl, hx, h => by
    have h1 := mul_bd (hl c (by simp)) (hx y (by simp))
    have h2 : (0 : Int) ≤ L * X := Int.mul_nonneg hL hX
    have h3 : (0 : Int) ≤ (l.length : Int) * (L * X) := Int.mul_nonneg (by omega) h2
    have h4 : (((c :: l).length : Int)) * (L * X) = (l.length : Int) * (L * X) + L * X := by
      rw [List.length_cons, Int.natCast_add, Int.add_mul]; simp
    rw [h4] at h
    simp only [atS, dot]
    rw [if_pos (by unfold inR; omega), if_pos (by unfold inR; omega)]
    rw [at_small hX hL l x _ K (fun z hz => hl z (by simp [hz])) (fun z hz => hx z (by simp [hz])) (by omega)]
    rw [Int.add_assoc s]
theorem each_ok {v : Int → Int} {n : Nat} (h : ∀ j : Int, 0 ≤ j → j ≤ n → inR (v j)) : eachS v n = (made v n, v (n : Int), []) := by
  unfold eachS
  rw [if_pos ((allB_iff v (n + 1) 0).2 fun j h0 h1 => h j h0 (by omega))]
theorem made_zip (f : Int → Int → Int) {A B : List Int} {n : Nat} (hA : A.length = n) (hB : B.length = n) : made (fun j => f (rd A j) (rd B j)) n = List.zipWith f A B := by
  apply List.ext_getElem
  · simp [made_length, hA, hB]
  · intro j h1 h2
    rw [made_length] at h1
    simp [made, rd_get (show j < A.length by omega), rd_get (show j < B.length by omega)]
theorem made_rd {A : List Int} {n : Nat} (hA : A.length = n) : made (fun j => rd A j) n = A := by
  apply List.ext_getElem
  · simp [made_length, hA]
  · intro j h1 h2
    simp [made, rd_get h2]
theorem part_lt {l : List Int} {K i : Int} (h : i < (l.length : Int)) : partS l K i = rd l i := if_pos h
theorem part_ge {l : List Int} {K i : Int} (h : (l.length : Int) ≤ i) : partS l K i = K := if_neg (by omega)
theorem dot_ring (k : Int) : ∀ (A B Y : List Int), A.length = B.length → dot (List.zipWith (fun a b => (a + b) * k) A B) Y = k * (dot A Y + dot B Y)
  | [], [], Y, _ => by cases Y <;> simp [dot]
  | a :: A, b :: B, [], _ => by simp [dot]
  | a :: A, b :: B, y :: Y, h => by
    simp only [List.zipWith, dot]
    rw [dot_ring k A B Y (by simpa using h)]
    have e1 : (a + b) * k * y = k * (a * y + b * y) := by rw [← Int.add_mul, Int.mul_comm (a + b) k, Int.mul_assoc]
    rw [e1, ← Int.mul_add]
    congr 1
    omega

end Go.Proofs.YtmnifoeodohphaaDoor.Pure
