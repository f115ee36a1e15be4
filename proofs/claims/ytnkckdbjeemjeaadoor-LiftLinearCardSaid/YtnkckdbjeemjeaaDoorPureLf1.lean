/- Forms of two names; no conditions. -/
import Derived.Test.YtnkckdbjeemjeaaDoorXx3
import Derived.Test.YtnkckdbjeemjeaaDoorXx8
import Derived.Test.YtnkckdbjeemjeaaDoorHandL
import Derived.Test.YtnkckdbjeemjeaaDoorHandC
import Derived.Test.YtnkckdbjeemjeaaDoorXx1
import Derived.Test.YtnkckdbjeemjeaaDoorXx2
import Derived.Laws.Bits64
namespace Go.Proofs.YtnkckdbjeemjeaaDoor.Pure
open Go.RowKit Go.Proofs.YtnkckdbjeemjeaaDoor.X Go.Proofs.YtnkckdbjeemjeaaDoor.Flt Go.Proofs.YtnkckdbjeemjeaaDoor.H Go.Proofs.YtnkckdbjeemjeaaDoorW.PrintWords Go.Proofs.YtnkckdbjeemjeaaDoorW.PrintLast Go.Proofs.YtnkckdbjeemjeaaDoorW.PrintMore
set_option linter.unusedVariables false
set_option linter.unusedSimpArgs false
/-! what is answered from some fuel on -/
theorem w64 {a : Int} (h : -9223372036854775808 ≤ a ∧ a ≤ 9223372036854775807) : wrap64 a = a := by unfold wrap64; omega
theorem wnext {i n : Nat} (h : i < n) (hn : n ≤ 4611686018427387904) : wrap64 ((i : Int) + 1) = ((i + 1 : Nat) : Int) := by rw [w64 (by omega)]; omega
def Says {α : Type} (f : Nat → Option α) (v : α) : Prop := ∃ K, ∀ k, K ≤ k → f k = some v
section
variable {α β : Type} {f g : Nat → Option α} {v : α} {c : Prop} [Decidable c]
theorem Says.bind {h : Nat → α → Option β} {r : β} (hf : Says f v) (hg : Says (fun k => h k v) r) : Says (fun k => (f k).bind (h k)) r := by
  obtain ⟨K, hK⟩ := hf; obtain ⟨L, hL⟩ := hg
  exact ⟨max K L, fun k hk => by show (f k).bind (h k) = _; rw [hK k (by omega)]; exact hL k (by omega)⟩
theorem Says.step (h : ∀ k, f (k + 1) = g k) (hg : Says g v) : Says f v := by
  obtain ⟨K, hK⟩ := hg
  exact ⟨K + 1, fun k hk => by obtain ⟨k, rfl⟩ : ∃ m, k = m + 1 := ⟨k - 1, by omega⟩; rw [h]; exact hK k (by omega)⟩
theorem Says.eq (h : ∀ k, f k = g k) (hg : Says g v) : Says f v := by
  obtain ⟨K, hK⟩ := hg
  exact ⟨K, fun k hk => (h k).trans (hK k hk)⟩
theorem Says.now : Says (fun _ => some v) v := ⟨0, fun _ _ => rfl⟩
theorem Says.pos (hc : c) (h : Says f v) : Says (fun k => if c then f k else g k) v := by
  obtain ⟨K, hK⟩ := h
  exact ⟨K, fun k hk => by show (if c then f k else g k) = _; rw [if_pos hc]; exact hK k hk⟩
theorem Says.neg (hc : ¬c) (h : Says g v) : Says (fun k => if c then f k else g k) v := by
  obtain ⟨K, hK⟩ := h
  exact ⟨K, fun k hk => by show (if c then f k else g k) = _; rw [if_neg hc]; exact hK k hk⟩
theorem Says.one {u : α} (h : Says f v) (h' : Says f u) : v = u := by
  obtain ⟨K, hK⟩ := h; obtain ⟨L, hL⟩ := h'
  have a := hK (max K L) (by omega); rw [hL (max K L) (by omega)] at a
  exact (Option.some.inj a).symm
theorem Says.more (h : ∀ k, LeO (f k) (f (k + 1))) {K : Nat} (hK : f K = some v) : Says f v := by
  refine ⟨K, fun k hk => ?_⟩
  obtain ⟨j, rfl⟩ : ∃ j, k = K + j := ⟨k - K, by omega⟩
  clear hk
  induction j with
  | zero => exact hK
  | succ j ih => exact h _ _ ih
def Tot (f : Nat → Option α) : Prop := ∃ v, Says f v
theorem Tot.step (h : ∀ k, f (k + 1) = g k) (hg : Tot g) : Tot f := hg.elim fun v hv => ⟨v, hv.step h⟩
theorem Tot.eq (h : ∀ k, f k = g k) (hg : Tot g) : Tot f := hg.elim fun v hv => ⟨v, hv.eq h⟩
theorem Tot.bind {h : Nat → α → Option β} (hf : Tot f) (hg : ∀ v, Says f v → Tot (fun k => h k v)) : Tot (fun k => (f k).bind (h k)) := by
  obtain ⟨v, hv⟩ := hf; obtain ⟨r, hr⟩ := hg v hv
  exact ⟨r, hv.bind hr⟩
theorem Tot.now (v : α) : Tot (fun _ => some v) := ⟨v, .now⟩
theorem Tot.pos (hc : c) (h : Tot f) : Tot (fun k => if c then f k else g k) := h.elim fun v hv => ⟨v, hv.pos hc⟩
theorem Tot.neg (hc : ¬c) (h : Tot g) : Tot (fun k => if c then f k else g k) := h.elim fun v hv => ⟨v, hv.neg hc⟩
theorem Tot.ite (hf : c → Tot f) (hg : ¬c → Tot g) : Tot (fun k => if c then f k else g k) := by
  by_cases h : c
  · exact .pos h (hf h)
  · exact .neg h (hg h)
end

theorem size_spec {a : Int} (h : -9223372036854775808 ≤ a ∧ a ≤ 9223372036854775807) : num_size.f a = some (a.natAbs : Int) := by
  unfold num_size.f; simp only [IntKind.wrap_u64]; split <;> (congr 1; omega)

/-! sums, differences, products -/
def inR (a : Int) : Prop := -9223372036854775808 ≤ a ∧ a ≤ 9223372036854775807
instance inRd (a : Int) : Decidable (inR a) := by unfold inR; infer_instance
def chk (a : Int) : Int × Bool := if inR a then (a, true) else (0, false)
theorem chk_yes {a : Int} (h : inR a) : chk a = (a, true) := if_pos h
theorem chk_no {a : Int} (h : ¬ inR a) : chk a = (0, false) := if_neg h
theorem add_spec {a b : Int} (ha : inR a) (hb : inR b) : num_Add.f a b = some (chk (a + b)) := by
  unfold num_Add.f
  by_cases hr : inR (a + b)
  · rw [chk_yes hr, w64 hr]; unfold inR at *
    by_cases h1 : a < 0 <;> by_cases h2 : b < 0 <;> by_cases h3 : a + b < 0 <;> first | (simp [h1, h2, h3]; done) | (exfalso; omega)
  · rw [chk_no hr]
    have e : wrap64 (a + b) = if a < 0 then a + b + 18446744073709551616 else a + b - 18446744073709551616 := by unfold wrap64 inR at *; split <;> omega
    rw [e]; unfold inR at *
    by_cases h1 : a < 0 <;> by_cases h2 : b < 0 <;> first | (exfalso; omega) | skip
    · have h3 : ¬ a + b + 18446744073709551616 < 0 := by omega
      simp [h1, h2, h3]
    · have h3 : a + b - 18446744073709551616 < 0 := by omega
      simp [h1, h2, h3]
theorem sub_spec {a b : Int} (ha : inR a) (hb : inR b) : num_Sub.f a b = some (chk (a - b)) := by
  unfold num_Sub.f
  by_cases hr : inR (a - b)
  · rw [chk_yes hr, w64 hr]; unfold inR at *
    by_cases h1 : a < 0 <;> by_cases h2 : b < 0 <;> by_cases h3 : a - b < 0 <;> first | (simp [h1, h2, h3]; done) | (exfalso; omega)
  · rw [chk_no hr]
    have e : wrap64 (a - b) = if a < 0 then a - b + 18446744073709551616 else a - b - 18446744073709551616 := by unfold wrap64 inR at *; split <;> omega
    rw [e]; unfold inR at *
    by_cases h1 : a < 0 <;> by_cases h2 : b < 0 <;> first | (exfalso; omega) | skip
    · have h3 : ¬ a - b + 18446744073709551616 < 0 := by omega
      simp [h1, h2, h3]
    · have h3 : a - b - 18446744073709551616 < 0 := by omega
      simp [h1, h2, h3]
theorem and_low (a : Nat) (h : a < 18446744073709551616) : Go.bits .and .u64 (a : Int) 4294967295 = ((a % 4294967296 : Nat) : Int) := by
  have h1 : (BitVec.ofInt 64 (a : Int)).toNat = a := by
    rw [BitVec.ofInt_natCast, BitVec.toNat_ofNat]; exact Nat.mod_eq_of_lt (by omega)
  have h2 : (BitVec.ofInt 64 (4294967295 : Int)).toNat = 2 ^ 32 - 1 := rfl
  show IntKind.u64.wrap ((BitVec.ofInt 64 (a : Int) &&& BitVec.ofInt 64 4294967295).toNat : Int) = _
  rw [BitVec.toNat_and, h1, h2, Nat.and_two_pow_sub_one_eq_mod, IntKind.wrap_u64]
  omega
theorem mul64_spec (x y : Nat) (hx : x < 18446744073709551616) (hy : y < 18446744073709551616) :
    bits_Mul64.f (x : Int) (y : Int) = some (((x * y / 18446744073709551616 : Nat) : Int), ((x * y % 18446744073709551616 : Nat) : Int)) := by
  unfold bits_Mul64.f
  rw [and_low x hx, and_low y hy]
  simp only [IntKind.wrap_u64]
  have dx : x = (x / 4294967296) * 4294967296 + x % 4294967296 := by omega
  have dy : y = (y / 4294967296) * 4294967296 + y % 4294967296 := by omega
  have bx1 : x / 4294967296 ≤ 4294967295 := by omega
  have by1 : y / 4294967296 ≤ 4294967295 := by omega
  have bx0 : x % 4294967296 ≤ 4294967295 := by omega
  have by0 : y % 4294967296 ≤ 4294967295 := by omega
  have ex : (x : Int) / 4294967296 = ((x / 4294967296 : Nat) : Int) := by omega
  have ey : (y : Int) / 4294967296 = ((y / 4294967296 : Nat) : Int) := by omega
  rw [ex, ey]
  have hp : x * y = (x / 4294967296) * (y / 4294967296) * 18446744073709551616 + ((x / 4294967296) * (y % 4294967296) + (x % 4294967296) * (y / 4294967296)) * 4294967296 + (x % 4294967296) * (y % 4294967296) := by
    have e : x * y = ((x / 4294967296) * 4294967296 + x % 4294967296) * ((y / 4294967296) * 4294967296 + y % 4294967296) := by rw [← dx, ← dy]
    rw [e]
    generalize x / 4294967296 = p
    generalize x % 4294967296 = q
    generalize y / 4294967296 = r
    generalize y % 4294967296 = s
    simp only [Nat.add_mul, Nat.mul_add]
    have a1 : p * 4294967296 * (r * 4294967296) = p * r * 18446744073709551616 := by rw [Nat.mul_mul_mul_comm]
    have a2 : p * 4294967296 * s = p * s * 4294967296 := by rw [Nat.mul_right_comm]
    have a3 : q * (r * 4294967296) = q * r * 4294967296 := by rw [Nat.mul_assoc]
    rw [a1, a2, a3]; omega
  have hpi : (x : Int) * (y : Int) = ((x * y : Nat) : Int) := by exact_mod_cast rfl
  rw [hpi, hp]
  generalize x / 4294967296 = p at *
  generalize x % 4294967296 = q at *
  generalize y / 4294967296 = r at *
  generalize y % 4294967296 = s at *
  have c1 : (p : Int) * (r : Int) = ((p * r : Nat) : Int) := by exact_mod_cast rfl
  have c2 : (p : Int) * (s : Int) = ((p * s : Nat) : Int) := by exact_mod_cast rfl
  have c3 : (q : Int) * (r : Int) = ((q * r : Nat) : Int) := by exact_mod_cast rfl
  have c4 : (q : Int) * (s : Int) = ((q * s : Nat) : Int) := by exact_mod_cast rfl
  rw [c1, c2, c3, c4]
  have l1 : p * r ≤ 4294967295 * 4294967295 := Nat.mul_le_mul bx1 by1
  have l2 : p * s ≤ 4294967295 * 4294967295 := Nat.mul_le_mul bx1 by0
  have l3 : q * r ≤ 4294967295 * 4294967295 := Nat.mul_le_mul bx0 by1
  have l4 : q * s ≤ 4294967295 * 4294967295 := Nat.mul_le_mul bx0 by0
  clear hp hpi c1 c2 c3 c4 dx dy ex ey hx hy
  generalize p * r = A at *
  generalize p * s = B at *
  generalize q * r = C at *
  generalize q * s = D at *
  rw [show ((B : Int) % 18446744073709551616 + (D : Int) % 18446744073709551616 / 4294967296) % 18446744073709551616 = ((B + D / 4294967296 : Nat) : Int) by omega]
  have t1 : (Go.bits .and .u64 (((B + D / 4294967296 : Nat)) : Int) 4294967295) = (((B + D / 4294967296) % 4294967296 : Nat) : Int) := and_low _ (by omega)
  rw [t1]
  congr 1
  refine Prod.ext ?_ ?_
  · show _ = _
    simp only []
    omega
  · show _ = _
    simp only []
    omega
theorem mul_sign (a b : Int) : a * b = if (decide (a < 0) != decide (b < 0)) = true then -((a.natAbs * b.natAbs : Nat) : Int) else ((a.natAbs * b.natAbs : Nat) : Int) := by
  have h : ((a.natAbs * b.natAbs : Nat) : Int) = (a.natAbs : Int) * (b.natAbs : Int) := by exact_mod_cast rfl
  rw [h]
  by_cases h1 : a < 0 <;> by_cases h2 : b < 0
  · rw [if_neg (by simp [h1, h2]), show (a.natAbs : Int) = -a by omega, show (b.natAbs : Int) = -b by omega, Int.neg_mul_neg]
  · rw [if_pos (by simp [h1, h2]), show (a.natAbs : Int) = -a by omega, show (b.natAbs : Int) = b by omega, Int.neg_mul, Int.neg_neg]
  · rw [if_pos (by simp [h1, h2]), show (a.natAbs : Int) = a by omega, show (b.natAbs : Int) = -b by omega, Int.mul_neg, Int.neg_neg]
  · rw [if_neg (by simp [h1, h2]), show (a.natAbs : Int) = a by omega, show (b.natAbs : Int) = b by omega]
theorem mul_spec {k : Nat} {a b : Int} (hk : 2 ≤ k) (ha : inR a) (hb : inR b) : num_Mul.f k a b = some (chk (a * b)) := by
  obtain ⟨k, rfl⟩ : ∃ m, k = m + 2 := ⟨k - 2, by omega⟩
  unfold num_Mul.f
  rw [size_spec ha, size_spec hb]; simp only [Option.bind_some]
  rw [mul64_spec _ _ (by unfold inR at ha; omega) (by unfold inR at hb; omega)]; simp only [Option.bind_some]
  have hs := mul_sign a b
  generalize a.natAbs * b.natAbs = P at *
  by_cases hd : (decide (a < 0) != decide (b < 0)) = true
  · rw [if_pos hd] at hs
    rw [if_pos hd, hd, hs]
    by_cases h0 : (((P / 18446744073709551616 : Nat)) : Int) > 0
    · simp only [num_Mul.j0, if_pos h0, num_Mul.j1, if_true]
      rw [chk_no (by unfold inR; omega)]
    · simp only [num_Mul.j0, if_neg h0, num_Mul.j1]
      by_cases h1 : ((P % 18446744073709551616 : Nat) : Int) > 9223372036854775807 + 1
      · rw [if_pos (decide_eq_true h1), chk_no (by unfold inR; omega)]
      · rw [if_neg (by simpa using h1), if_pos trivial, chk_yes (by unfold inR; omega), IntKind.wrap_u64]
        congr 2; unfold wrap64; omega
  · rw [if_neg hd] at hs
    rw [if_neg hd, Bool.eq_false_iff.2 hd, hs]
    by_cases h0 : (((P / 18446744073709551616 : Nat)) : Int) > 0
    · simp only [num_Mul.j0, if_pos h0, num_Mul.j1, if_true]
      rw [chk_no (by unfold inR; omega)]
    · simp only [num_Mul.j0, if_neg h0, num_Mul.j1]
      by_cases h1 : ((P % 18446744073709551616 : Nat) : Int) > 9223372036854775807
      · rw [if_pos (decide_eq_true h1), chk_no (by unfold inR; omega)]
      · rw [if_neg (by simpa using h1), if_neg (by simp), chk_yes (by unfold inR; omega)]
        congr 2; unfold wrap64; omega
/-! quotients -/

theorem mul_bd {a b A B : Int} (ha : -A ≤ a ∧ a ≤ A) (hb : -B ≤ b ∧ b ≤ B) : -(A * B) ≤ a * b ∧ a * b ≤ A * B := by
  have h1 : a.natAbs ≤ A.toNat := by omega
  have h2 : b.natAbs ≤ B.toNat := by omega
  have h3 : (a * b).natAbs ≤ A.toNat * B.toNat := by rw [Int.natAbs_mul]; exact Nat.mul_le_mul h1 h2
  have h4 : ((A.toNat * B.toNat : Nat) : Int) = A * B := by rw [Int.natCast_mul, Int.toNat_of_nonneg (by omega), Int.toNat_of_nonneg (by omega)]
  omega
theorem rd_drop {l : List Int} {i : Int} (h0 : 0 ≤ i) (h : i < (l.length : Int)) : l.drop i.toNat = rd l i :: l.drop (i + 1).toNat := by
  have hn : i.toNat < l.length := by omega
  have e : (i + 1).toNat = i.toNat + 1 := by omega
  rw [List.drop_eq_getElem_cons hn, e]
  congr 1
  simp [rd, List.getD, hn]
theorem rd_mem {l : List Int} {i : Int} (h0 : 0 ≤ i) (h : i < (l.length : Int)) : rd l i ∈ l := by
  have hn : i.toNat < l.length := by omega
  have e : rd l i = l[i.toNat] := by simp [rd, List.getD, hn]
  rw [e]; exact List.getElem_mem hn
theorem drop_end {l : List Int} {i : Int} (h : (l.length : Int) ≤ i) : l.drop i.toNat = [] := List.drop_of_length_le (by omega)
def fltE (c : Int) : List Flt := [⟨⟨#[102, 111, 114, 109]⟩, 0, some c⟩]
theorem fault_eq (c : Int) : lin_fault.f c = some (fltE c) := rfl

/-! forms made number by number; forms alike -/
def sameS : List Int → List Int → Bool
  | [], [] => true
  | a :: l, [] => a == 0 && sameS l []
  | [], b :: m => 0 == b && sameS [] m
  | a :: l, b :: m => a == b && sameS l m
theorem same_l {l m : List Int} {a b n : Int} (hn : n = mx (l.length : Int) (m.length : Int)) (hl : l.length < 4611686018427387904) (hm : m.length < 4611686018427387904) (d : Nat) :
    ∀ (k : Nat) (i : Int), 0 ≤ i → n - i = d → 2 * d + 1 < k → lin_Same.l0 k n i l a m b = some (sameS (l.drop i.toNat) (m.drop i.toNat) && (a == b)) := by
  have e : ((l.length : Int) ≤ n ∧ (m.length : Int) ≤ n) ∧ (n = (l.length : Int) ∨ n = (m.length : Int)) := by rw [hn]; unfold mx; split <;> omega
  induction d with
  | zero =>
    intro k i h0 hd hk
    obtain ⟨k, rfl⟩ : ∃ m, k = m + 1 := ⟨k - 1, by omega⟩
    simp only [lin_Same.l0]
    rw [if_neg (by omega), drop_end (by omega), drop_end (by omega)]
    simp [sameS]
  | succ d ih =>
    intro k i h0 hd hk
    obtain ⟨k, rfl⟩ : ∃ m, k = m + 1 := ⟨k - 1, by omega⟩
    obtain ⟨k, rfl⟩ : ∃ m, k = m + 1 := ⟨k - 1, by omega⟩
    have r := ih k (i + 1) (by omega) (by omega) (by omega)
    simp only [lin_Same.l0]
    rw [if_pos (by omega)]
    by_cases c1 : i < (l.length : Int)
    · rw [if_pos c1, if_pos h0, rd_drop h0 c1]
      simp only [lin_Same.j1]
      by_cases c2 : i < (m.length : Int)
      · rw [if_pos c2, if_pos h0, rd_drop h0 c2, w64 (by omega)]
        by_cases c : rd l i = rd m i
        · rw [if_pos c, r]; simp [sameS, c]
        · rw [if_neg c]; simp [sameS, c]
      · rw [if_neg c2, drop_end (l := m) (by omega), w64 (by omega)]
        rw [drop_end (l := m) (i := i + 1) (by omega)] at r
        by_cases c : rd l i = 0
        · rw [if_pos c, r]; simp [sameS, c]
        · rw [if_neg c]; simp [sameS, c]
    · have c2 : i < (m.length : Int) := by omega
      rw [if_neg c1, drop_end (l := l) (by omega), rd_drop h0 c2]
      rw [drop_end (l := l) (i := i + 1) (by omega)] at r
      simp only [lin_Same.j1]
      rw [if_pos c2, if_pos h0, w64 (by omega)]
      by_cases c : 0 = rd m i
      · rw [if_pos c, r]; simp [sameS, ← c]
      · rw [if_neg c]; simp [sameS, c]
theorem same_spec {l m : List Int} {a b : Int} {k : Nat} (hl : l.length < 4611686018427387904) (hm : m.length < 4611686018427387904) (hk : 2 * (l.length + m.length) + 2 < k) : lin_Same.f k l a m b = some (sameS l m && (a == b)) := by
  unfold lin_Same.f
  have e : mx (l.length : Int) (m.length : Int) = ((if l.length < m.length then m.length else l.length : Nat) : Int) := by unfold mx; split <;> split <;> omega
  rw [same_l rfl hl hm (if l.length < m.length then m.length else l.length) k 0 (by omega) (by rw [e]; omega) (by split <;> omega)]
  rfl
theorem sameS_refl : ∀ l : List Int, sameS l l = true
  | [] => by simp [sameS]
  | a :: l => by simp [sameS, sameS_refl l]
theorem sameS_eq {l m : List Int} (h : l.length = m.length) : sameS l m = decide (l = m) := by
  induction l generalizing m with
  | nil => cases m with | nil => simp [sameS] | cons b m => simp at h
  | cons a l ih =>
    cases m with
    | nil => simp at h
    | cons b m => simp only [sameS, ih (by simpa using h)]; by_cases c : a = b <;> by_cases c' : l = m <;> simp [c, c']
/-- are all numbers from a place on in range? -/
def allB (v : Int → Int) : Int → Nat → Bool
  | _, 0 => true
  | i, d + 1 => decide (inR (v i)) && allB v (i + 1) d
/-- a list number by number -/
def made (v : Int → Int) (n : Nat) : List Int := (List.range n).map fun (j : Nat) => v (j : Int)
theorem made_length (v : Int → Int) (n : Nat) : (made v n).length = n := by simp [made]
theorem made_succ (v : Int → Int) (n : Nat) : made v (n + 1) = made v n ++ [v (n : Int)] := by simp [made, List.range_succ]
def eachS (v : Int → Int) (n : Nat) : List Int × Int × List Flt := if allB v 0 (n + 1) = true then (made v n, v (n : Int), []) else ([], 0, fltE 5)
theorem set_made (v : Int → Int) (j r : Nat) (x : Int) : (made v j ++ List.replicate (r + 1) 0).set j x = made v j ++ [x] ++ List.replicate r 0 := by
  rw [List.set_append]
  simp [made_length, List.replicate_succ]
theorem each_l {GG : CloA} {v : Int → Int} {n : Nat} (hn : n < 35184372088833) (hg : ∀ i : Int, 0 ≤ i → i ≤ n → GG.f i = some (chk (v i))) (d : Nat) :
    ∀ (k : Nat) (j : Nat), j + d = n → d + 2 < k → lin_each.l0 GG k (n : Int) ((n : Int) + 1) (j : Int) (made v j ++ List.replicate d 0) 0 = some (if allB v (j : Int) (d + 1) = true then (made v n, v (n : Int), []) else ([], 0, fltE 5)) := by
  induction d with
  | zero =>
    intro k j hj hk
    obtain ⟨k, rfl⟩ : ∃ m, k = m + 1 := ⟨k - 1, by omega⟩
    obtain ⟨k, rfl⟩ : ∃ m, k = m + 1 := ⟨k - 1, by omega⟩
    obtain rfl : j = n := by omega
    rw [lin_each.l0, if_pos (by omega), hg _ (by omega) (by omega)]
    simp only [Option.bind_some]
    by_cases h : inR (v (j : Int))
    · have e : allB v (j : Int) (0 + 1) = true := by simp [allB, h]
      rw [chk_yes h, e, if_pos rfl, if_pos rfl, if_neg (by omega), w64 (by omega), lin_each.l0, if_neg (by omega)]
      simp
    · have e : allB v (j : Int) (0 + 1) = false := by simp [allB, h]
      rw [chk_no h, e, if_neg (by simp), if_neg (by simp), fault_eq]
      rfl
  | succ d ih =>
    intro k j hj hk
    obtain ⟨k, rfl⟩ : ∃ m, k = m + 1 := ⟨k - 1, by omega⟩
    rw [lin_each.l0, if_pos (by omega), hg _ (by omega) (by omega)]
    simp only [Option.bind_some]
    by_cases h : inR (v (j : Int))
    · have r := ih k (j + 1) (by omega) (by omega)
      have e : allB v (j : Int) (d + 1 + 1) = allB v ((j : Int) + 1) (d + 1) := by rw [allB, decide_eq_true h, Bool.true_and]
      rw [chk_yes h, e, if_pos rfl, if_pos (by omega), if_pos (by omega), if_pos (by simp [made_length]; omega), w64 (by omega)]
      have e2 : ((j : Int) + 1) = ((j + 1 : Nat) : Int) := by omega
      rw [show (((j : Int)).toNat) = j from rfl, set_made, ← made_succ, e2, r]
    · have e : allB v (j : Int) (d + 1 + 1) = false := by rw [allB, decide_eq_false h, Bool.false_and]
      rw [chk_no h, e, if_neg (by simp), if_neg (by simp), fault_eq]
      rfl
theorem each_spec {GG : CloA} {v : Int → Int} {n k : Nat} (hn : n < 35184372088832) (hg : ∀ i : Int, 0 ≤ i → i ≤ n → GG.f i = some (chk (v i))) (hk : n + 2 < k) : lin_each.f GG k (n : Int) = some (eachS v n) := by
  unfold lin_each.f
  rw [if_pos (by omega), if_pos (by omega), w64 (by omega)]
  have r := each_l (GG := GG) (v := v) (n := n) (by omega) hg n k 0 (by omega) hk
  simp only [made, List.range_zero, List.map_nil, List.nil_append] at r
  exact r
/-- a form's numbers; behind them its last -/
def partS (l : List Int) (K : Int) (i : Int) : Int := if i < (l.length : Int) then rd l i else K
theorem part_spec {l : List Int} {K i : Int} (h : 0 ≤ i) : lin_Form_part.f l K i = some (partS l K i) := by
  unfold lin_Form_part.f partS
  by_cases c : i < (l.length : Int)
  · rw [if_pos c, if_pos h, if_pos c]
  · rw [if_neg c, if_neg c]
theorem part_in {l : List Int} {K i : Int} (h0 : 0 ≤ i) (hl : ∀ z ∈ l, inR z) (hK : inR K) : inR (partS l K i) := by
  unfold partS; split
  · exact hl _ (rd_mem h0 ‹_›)
  · exact hK
theorem add_l {l m : List Int} {a b : Int} (h : l.length = m.length) (hl : ∀ z ∈ l, inR z) (hm : ∀ z ∈ m, inR z) (ha : inR a) (hb : inR b) (hlen : l.length < 35184372088832) :
    lin_Add.f l a m b = some (eachS (fun i => partS l a i + partS m b i) l.length) := by
  unfold lin_Add.f addE
  rw [if_pos (by omega), each_spec (v := fun i => partS l a i + partS m b i) hlen (fun i h0 hi => ?_) (by omega)]
  · rfl
  · simp only [part_spec h0, Option.bind_some]
    exact add_spec (part_in h0 hl ha) (part_in h0 hm hb)
theorem add_no {l m : List Int} {a b : Int} (h : l.length ≠ m.length) : lin_Add.f l a m b = some ([], 0, fltE 1) := by
  unfold lin_Add.f
  rw [if_neg (by omega)]; rfl
theorem scale_l {l : List Int} {a c : Int} (hl : ∀ z ∈ l, inR z) (ha : inR a) (hc : inR c) (hlen : l.length < 35184372088832) :
    lin_Scale.f l a c = some (eachS (fun i => partS l a i * c) l.length) := by
  unfold lin_Scale.f scaleE
  rw [each_spec (v := fun i => partS l a i * c) hlen (fun i h0 hi => ?_) (by omega)]
  · rfl
  · simp only [part_spec h0, Option.bind_some]
    exact mul_spec (by omega) (part_in h0 hl ha) hc
theorem allB_iff (v : Int → Int) (d : Nat) : ∀ i : Int, allB v i d = true ↔ ∀ j : Int, i ≤ j → j < i + d → inR (v j) := by
  induction d with
  | zero => intro i; simp [allB]; omega
  | succ d ih =>
    intro i
    simp only [allB, Bool.and_eq_true, decide_eq_true_eq, ih]
    constructor
    · rintro ⟨h1, h2⟩ j hj hj'
      by_cases e : i = j
      · subst e; exact h1
      · exact h2 j (by omega) (by omega)
    · intro h
      exact ⟨h i (by omega) (by omega), fun j hj hj' => h j (by omega) (by omega)⟩
theorem rd_get {l : List Int} {j : Nat} (h : j < l.length) : rd l (j : Int) = l[j] := by simp [rd, List.getD, h]
theorem made_get (v : Int → Int) {n j : Nat} (h : j < n) : rd (made v n) (j : Int) = v (j : Int) := by
  rw [rd_get (by rw [made_length]; exact h)]; simp [made]
theorem made_in {v : Int → Int} {n : Nat} (h : ∀ j : Int, 0 ≤ j → j < n → inR (v j)) : ∀ z ∈ made v n, inR z := by
  intro z hz
  simp only [made, List.mem_map, List.mem_range] at hz
  obtain ⟨j, hj, rfl⟩ := hz
  exact h _ (by omega) (by omega)
theorem made_congr {v u : Int → Int} {n : Nat} (h : ∀ j : Int, 0 ≤ j → j < n → v j = u j) : made v n = made u n := by
  simp only [made]
  apply List.map_congr_left
  intro j hj
  exact h _ (by omega) (by simpa using hj)
theorem part_made {v : Int → Int} {n : Nat} {j : Int} (h0 : 0 ≤ j) (h : j ≤ n) : partS (made v n) (v (n : Int)) j = v j := by
  unfold partS
  rw [made_length]
  by_cases c : j < (n : Int)
  · rw [if_pos c]
    obtain ⟨m, rfl⟩ : ∃ m : Nat, j = (m : Int) := ⟨j.toNat, by omega⟩
    exact made_get v (by omega)
  · rw [if_neg c, show j = (n : Int) by omega]

theorem each_ok {v : Int → Int} {n : Nat} (h : ∀ j : Int, 0 ≤ j → j ≤ n → inR (v j)) : eachS v n = (made v n, v (n : Int), []) := by
  unfold eachS
  rw [if_pos ((allB_iff v (n + 1) 0).2 fun j h0 h1 => h j h0 (by omega))]

/-! forms of two names: sums, products, differences -/
def bd (B x : Int) : Prop := -B ≤ x ∧ x ≤ B
theorem bd_in {B x : Int} (hB : B ≤ 9223372036854775807) (h : bd B x) : inR x := by unfold bd at h; unfold inR; omega
theorem part_b {B : Int} {l : List Int} {K i : Int} (h0 : 0 ≤ i) (hl : ∀ z ∈ l, bd B z) (hK : bd B K) : bd B (partS l K i) := by
  unfold partS; split
  · exact hl _ (rd_mem h0 ‹_›)
  · exact hK
theorem two_b {B a b : Int} (ha : bd B a) (hb : bd B b) : ∀ z ∈ [a, b], bd B z := by
  intro z hz
  simp only [List.mem_cons, List.not_mem_nil, or_false] at hz
  rcases hz with rfl | rfl <;> assumption
theorem two_in {B a b : Int} (hB : B ≤ 9223372036854775807) (ha : bd B a) (hb : bd B b) : ∀ z ∈ [a, b], inR z := fun z hz => bd_in hB (two_b ha hb z hz)
theorem made2 (v : Int → Int) : made v 2 = [v 0, v 1] := by simp [made, List.range_succ]
theorem add2 {a b K c d M : Int} (ha : bd 1152921504606846976 a) (hb : bd 1152921504606846976 b) (hK : bd 1152921504606846976 K) (hc : bd 1152921504606846976 c) (hd : bd 1152921504606846976 d) (hM : bd 1152921504606846976 M) :
    lin_Add.f [a, b] K [c, d] M = some ([a + c, b + d], K + M, []) := by
  rw [add_l (l := [a, b]) (m := [c, d]) rfl (two_in (by decide) ha hb) (two_in (by decide) hc hd) (bd_in (by decide) hK) (bd_in (by decide) hM) (by simp), each_ok (fun j h0 _ => by
    have h1 := part_b h0 (two_b ha hb) hK
    have h2 := part_b h0 (two_b hc hd) hM
    unfold bd at h1 h2; unfold inR; omega)]
  show some (made _ 2, _, _) = _
  rw [made2]; rfl
theorem scale2 {a b K M : Int} (ha : bd 1073741824 a) (hb : bd 1073741824 b) (hK : bd 1073741824 K) (hM : bd 1073741824 M) : lin_Scale.f [a, b] K M = some ([a * M, b * M], K * M, []) := by
  rw [scale_l (two_in (by decide) ha hb) (bd_in (by decide) hK) (bd_in (by decide) hM) (by simp), each_ok (fun j h0 _ => by
    have h1 := mul_bd (part_b h0 (two_b ha hb) hK) hM
    unfold inR; omega)]
  show some (made _ 2, _, _) = _
  rw [made2]; rfl
theorem less2 {a b K c d M : Int} (ha : bd 1152921504606846976 a) (hb : bd 1152921504606846976 b) (hK : bd 1152921504606846976 K) (hc : bd 1152921504606846976 c) (hd : bd 1152921504606846976 d) (hM : bd 1152921504606846976 M) :
    Says (fun k => lift_less.f k [a, b] K [c, d] M) ([a - c, b - d], K - M, none) := by
  have sb : ∀ {x y : Int}, bd 1152921504606846976 x → bd 1152921504606846976 y → num_Sub.f x y = some (x - y, true) := fun hx hy => by
    rw [sub_spec (bd_in (by decide) hx) (bd_in (by decide) hy), chk_yes (by unfold bd at hx hy; unfold inR; omega)]
  have e0 := sb ha hc
  have e1 := sb hb hd
  have e2 := sb hK hM
  refine .eq (fun k => lift_less.f.eq_1 ..) (.step (fun k => lift_less.l0.eq_2 ..) (.pos (by simp) (.pos (by simp) (.pos (by simp) (.pos (by simp) (.bind (v := (a - c, true)) ⟨0, fun _ _ => e0⟩ (.pos rfl (.pos (by simp) ?_))))))))
  refine .step (fun k => lift_less.l0.eq_2 ..) (.pos (by simp [wrap64]) (.pos (by simp [wrap64]) (.pos (by simp [wrap64]) (.pos (by simp [wrap64]) (.bind (v := (b - d, true)) ⟨0, fun _ _ => by rw [show wrap64 ((0 : Int) + 1) = 1 from w64 (a := 1) (by omega)]; exact e1⟩ (.pos rfl (.pos (by simp) ?_)))))))
  exact .step (fun k => lift_less.l0.eq_2 ..) (.neg (by simp [wrap64]) (.bind (v := (K - M, true)) ⟨0, fun _ _ => e2⟩ (.pos rfl .now)))
theorem const2 {a b K : Int} (c : Bool) (hc : (a = 0 ∧ b = 0) ↔ c = true) : Says (fun k => lift_constant.f k [a, b] K) c := by
  have h0 : lin_Const.f 0 K = some ([], K) := rfl
  have h1 : Says (fun k => lin_Same.f k [a, b] K [] K) c := ⟨20, fun k hk => by
    show lin_Same.f k [a, b] K [] K = some c
    rw [same_spec (by simp) (by simp) (by simp; omega)]
    have e : sameS [a, b] [] = c := by
      simp only [sameS, Bool.and_true]
      cases c with
      | true => have := hc.2 rfl; simp [this.1, this.2]
      | false =>
        have h : ¬ (a = 0 ∧ b = 0) := fun h => by have := hc.1 h; cases this
        by_cases ha : a = 0
        · have hb : b ≠ 0 := fun hb => h ⟨ha, hb⟩
          simp [hb]
        · simp [ha]
    rw [e]; simp⟩
  exact .eq (fun k => lift_constant.f.eq_1 ..) (.bind (v := ([], K)) ⟨0, fun _ _ => h0⟩ (.bind h1 .now))
theorem prod2 {a b K c d M : Int} (ha : bd 1073741824 a) (hb : bd 1073741824 b) (hK : bd 1073741824 K) (hc : bd 1073741824 c) (hd : bd 1073741824 d) (hM : bd 1073741824 M) (h : (a = 0 ∧ b = 0) ∨ (c = 0 ∧ d = 0)) :
    Says (fun k => lift_product.f k [a, b] K [c, d] M) ([a * M + c * K, b * M + d * K], K * M, none) := by
  by_cases e : c = 0 ∧ d = 0
  · obtain ⟨rfl, rfl⟩ := e
    refine .eq (fun k => lift_product.f.eq_1 ..) (.bind (const2 true ⟨fun _ => rfl, fun _ => ⟨rfl, rfl⟩⟩) (.pos rfl ?_))
    refine .bind (v := ([a * M, b * M], K * M, [])) ⟨0, fun _ _ => scale2 ha hb hK hM⟩ (.pos (by rfl) ?_)
    rw [show (0 : Int) * K = 0 from Int.zero_mul _, Int.add_zero, Int.add_zero]
    exact .now
  · have h := h.resolve_right e
    obtain ⟨rfl, rfl⟩ := h
    refine .eq (fun k => lift_product.f.eq_1 ..) (.bind (const2 false ⟨fun h => absurd h e, fun h => by cases h⟩) (.neg (by decide) (.bind (const2 true ⟨fun _ => rfl, fun _ => ⟨rfl, rfl⟩⟩) (.pos rfl ?_))))
    refine .bind (v := ([c * K, d * K], M * K, [])) ⟨0, fun _ _ => scale2 hc hd hM hK⟩ (.pos (by rfl) ?_)
    rw [show (0 : Int) * M = 0 from Int.zero_mul _, Int.zero_add, Int.zero_add, Int.mul_comm M K]
    exact .now

end Go.Proofs.YtnkckdbjeemjeaaDoor.Pure
