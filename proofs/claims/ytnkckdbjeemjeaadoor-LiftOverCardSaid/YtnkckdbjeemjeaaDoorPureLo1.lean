/- Forms; no conditions. -/
import Derived.Test.YtnkckdbjeemjeaaDoorXx3
import Derived.Test.YtnkckdbjeemjeaaDoorHandL
import Derived.Test.YtnkckdbjeemjeaaDoorHandC
import Derived.Test.YtnkckdbjeemjeaaDoorXx1
import Derived.Test.YtnkckdbjeemjeaaDoorXx2
import Derived.Test.YtnkckdbjeemjeaaDoorXx6
import Derived.Laws.Bits64
import Derived.Test.YtnkckdbjeemjeaaDoorYy4
namespace Go.Proofs.YtnkckdbjeemjeaaDoor.Pure
open Go.RowKit Go.Proofs.YtnkckdbjeemjeaaDoor.X Go.Proofs.YtnkckdbjeemjeaaDoor.Flt Go.Proofs.YtnkckdbjeemjeaaDoor.H Go.Proofs.YtnkckdbjeemjeaaDoorW.PrintWords Go.Proofs.YtnkckdbjeemjeaaDoorW.PrintLast Go.Proofs.YtnkckdbjeemjeaaDoorW.PrintMore
set_option linter.unusedVariables false
set_option linter.unusedSimpArgs false
/-! what is answered from some fuel on -/
theorem w64 {a : Int} (h : -9223372036854775808 ≤ a ∧ a ≤ 9223372036854775807) : wrap64 a = a := by unfold wrap64; omega
theorem wnext {i n : Nat} (h : i < n) (hn : n ≤ 4611686018427387904) : wrap64 ((i : Int) + 1) = ((i + 1 : Nat) : Int) := by rw [w64 (by omega)]; omega
def Says {α : Type} (f : Nat → Option α) (v : α) : Prop := ∃ K, ∀ k, K ≤ k → f k = some v
section
variable {α β : Type} {f g : Nat → Option α} {v : α} {c : Prop} [Decidable c]
theorem Says.bind {h : Nat → α → Option β} {r : β} (hf : Says f v) (hg : Says (fun k => h k v) r) : Says (fun k => (f k).bind (h k)) r := by
  obtain ⟨K, hK⟩ := hf; obtain ⟨L, hL⟩ := hg
  exact ⟨max K L, fun k hk => by show (f k).bind (h k) = _; rw [hK k (by omega)]; exact hL k (by omega)⟩
theorem Says.step (h : ∀ k, f (k + 1) = g k) (hg : Says g v) : Says f v := by
  obtain ⟨K, hK⟩ := hg
  exact ⟨K + 1, fun k hk => by obtain ⟨k, rfl⟩ : ∃ m, k = m + 1 := ⟨k - 1, by omega⟩; rw [h]; exact hK k (by omega)⟩
theorem Says.eq (h : ∀ k, f k = g k) (hg : Says g v) : Says f v := by
  obtain ⟨K, hK⟩ := hg
  exact ⟨K, fun k hk => (h k).trans (hK k hk)⟩
theorem Says.now : Says (fun _ => some v) v := ⟨0, fun _ _ => rfl⟩
theorem Says.pos (hc : c) (h : Says f v) : Says (fun k => if c then f k else g k) v := by
  obtain ⟨K, hK⟩ := h
  exact ⟨K, fun k hk => by show (if c then f k else g k) = _; rw [if_pos hc]; exact hK k hk⟩
theorem Says.neg (hc : ¬c) (h : Says g v) : Says (fun k => if c then f k else g k) v := by
  obtain ⟨K, hK⟩ := h
  exact ⟨K, fun k hk => by show (if c then f k else g k) = _; rw [if_neg hc]; exact hK k hk⟩
theorem Says.one {u : α} (h : Says f v) (h' : Says f u) : v = u := by
  obtain ⟨K, hK⟩ := h; obtain ⟨L, hL⟩ := h'
  have a := hK (max K L) (by omega); rw [hL (max K L) (by omega)] at a
  exact (Option.some.inj a).symm
theorem Says.more (h : ∀ k, LeO (f k) (f (k + 1))) {K : Nat} (hK : f K = some v) : Says f v := by
  refine ⟨K, fun k hk => ?_⟩
  obtain ⟨j, rfl⟩ : ∃ j, k = K + j := ⟨k - K, by omega⟩
  clear hk
  induction j with
  | zero => exact hK
  | succ j ih => exact h _ _ ih
def Tot (f : Nat → Option α) : Prop := ∃ v, Says f v
theorem Tot.step (h : ∀ k, f (k + 1) = g k) (hg : Tot g) : Tot f := hg.elim fun v hv => ⟨v, hv.step h⟩
theorem Tot.eq (h : ∀ k, f k = g k) (hg : Tot g) : Tot f := hg.elim fun v hv => ⟨v, hv.eq h⟩
theorem Tot.bind {h : Nat → α → Option β} (hf : Tot f) (hg : ∀ v, Says f v → Tot (fun k => h k v)) : Tot (fun k => (f k).bind (h k)) := by
  obtain ⟨v, hv⟩ := hf; obtain ⟨r, hr⟩ := hg v hv
  exact ⟨r, hv.bind hr⟩
theorem Tot.now (v : α) : Tot (fun _ => some v) := ⟨v, .now⟩
theorem Tot.pos (hc : c) (h : Tot f) : Tot (fun k => if c then f k else g k) := h.elim fun v hv => ⟨v, hv.pos hc⟩
theorem Tot.neg (hc : ¬c) (h : Tot g) : Tot (fun k => if c then f k else g k) := h.elim fun v hv => ⟨v, hv.neg hc⟩
theorem Tot.ite (hf : c → Tot f) (hg : ¬c → Tot g) : Tot (fun k => if c then f k else g k) := by
  by_cases h : c
  · exact .pos h (hf h)
  · exact .neg h (hg h)
end

theorem i64_of {a : Int} (h : (Lit.int .i64 a).wf = true) : -9223372036854775808 ≤ a ∧ a ≤ 9223372036854775807 := by
  simp only [Lit.wf, IntKind.min, IntKind.max, IntKind.signed, IntKind.bits, Bool.and_eq_true, decide_eq_true_eq, if_true] at h
  omega
theorem size_spec {a : Int} (h : -9223372036854775808 ≤ a ∧ a ≤ 9223372036854775807) : num_size.f a = some (a.natAbs : Int) := by
  unfold num_size.f; simp only [IntKind.wrap_u64]; split <;> (congr 1; omega)

/-! sums, differences, products -/
def inR (a : Int) : Prop := -9223372036854775808 ≤ a ∧ a ≤ 9223372036854775807
instance inRd (a : Int) : Decidable (inR a) := by unfold inR; infer_instance
def chk (a : Int) : Int × Bool := if inR a then (a, true) else (0, false)
theorem chk_yes {a : Int} (h : inR a) : chk a = (a, true) := if_pos h
theorem chk_no {a : Int} (h : ¬ inR a) : chk a = (0, false) := if_neg h
theorem add_spec {a b : Int} (ha : inR a) (hb : inR b) : num_Add.f a b = some (chk (a + b)) := by
  unfold num_Add.f
  by_cases hr : inR (a + b)
  · rw [chk_yes hr, w64 hr]; unfold inR at *
    by_cases h1 : a < 0 <;> by_cases h2 : b < 0 <;> by_cases h3 : a + b < 0 <;> first | (simp [h1, h2, h3]; done) | (exfalso; omega)
  · rw [chk_no hr]
    have e : wrap64 (a + b) = if a < 0 then a + b + 18446744073709551616 else a + b - 18446744073709551616 := by unfold wrap64 inR at *; split <;> omega
    rw [e]; unfold inR at *
    by_cases h1 : a < 0 <;> by_cases h2 : b < 0 <;> first | (exfalso; omega) | skip
    · have h3 : ¬ a + b + 18446744073709551616 < 0 := by omega
      simp [h1, h2, h3]
    · have h3 : a + b - 18446744073709551616 < 0 := by omega
      simp [h1, h2, h3]
theorem sub_spec {a b : Int} (ha : inR a) (hb : inR b) : num_Sub.f a b = some (chk (a - b)) := by
  unfold num_Sub.f
  by_cases hr : inR (a - b)
  · rw [chk_yes hr, w64 hr]; unfold inR at *
    by_cases h1 : a < 0 <;> by_cases h2 : b < 0 <;> by_cases h3 : a - b < 0 <;> first | (simp [h1, h2, h3]; done) | (exfalso; omega)
  · rw [chk_no hr]
    have e : wrap64 (a - b) = if a < 0 then a - b + 18446744073709551616 else a - b - 18446744073709551616 := by unfold wrap64 inR at *; split <;> omega
    rw [e]; unfold inR at *
    by_cases h1 : a < 0 <;> by_cases h2 : b < 0 <;> first | (exfalso; omega) | skip
    · have h3 : ¬ a - b + 18446744073709551616 < 0 := by omega
      simp [h1, h2, h3]
    · have h3 : a - b - 18446744073709551616 < 0 := by omega
      simp [h1, h2, h3]
theorem and_low (a : Nat) (h : a < 18446744073709551616) : Go.bits .and .u64 (a : Int) 4294967295 = ((a % 4294967296 : Nat) : Int) := by
  have h1 : (BitVec.ofInt 64 (a : Int)).toNat = a := by
    rw [BitVec.ofInt_natCast, BitVec.toNat_ofNat]; exact Nat.mod_eq_of_lt (by omega)
  have h2 : (BitVec.ofInt 64 (4294967295 : Int)).toNat = 2 ^ 32 - 1 := rfl
  show IntKind.u64.wrap ((BitVec.ofInt 64 (a : Int) &&& BitVec.ofInt 64 4294967295).toNat : Int) = _
  rw [BitVec.toNat_and, h1, h2, Nat.and_two_pow_sub_one_eq_mod, IntKind.wrap_u64]
  omega
theorem mul64_spec (x y : Nat) (hx : x < 18446744073709551616) (hy : y < 18446744073709551616) :
    bits_Mul64.f (x : Int) (y : Int) = some (((x * y / 18446744073709551616 : Nat) : Int), ((x * y % 18446744073709551616 : Nat) : Int)) := by
  unfold bits_Mul64.f
  rw [and_low x hx, and_low y hy]
  simp only [IntKind.wrap_u64]
  have dx : x = (x / 4294967296) * 4294967296 + x % 4294967296 := by omega
  have dy : y = (y / 4294967296) * 4294967296 + y % 4294967296 := by omega
  have bx1 : x / 4294967296 ≤ 4294967295 := by omega
  have by1 : y / 4294967296 ≤ 4294967295 := by omega
  have bx0 : x % 4294967296 ≤ 4294967295 := by omega
  have by0 : y % 4294967296 ≤ 4294967295 := by omega
  have ex : (x : Int) / 4294967296 = ((x / 4294967296 : Nat) : Int) := by omega
  have ey : (y : Int) / 4294967296 = ((y / 4294967296 : Nat) : Int) := by omega
  rw [ex, ey]
  have hp : x * y = (x / 4294967296) * (y / 4294967296) * 18446744073709551616 + ((x / 4294967296) * (y % 4294967296) + (x % 4294967296) * (y / 4294967296)) * 4294967296 + (x % 4294967296) * (y % 4294967296) := by
    have e : x * y = ((x / 4294967296) * 4294967296 + x % 4294967296) * ((y / 4294967296) * 4294967296 + y % 4294967296) := by rw [← dx, ← dy]
    rw [e]
    generalize x / 4294967296 = p
    generalize x % 4294967296 = q
    generalize y / 4294967296 = r
    generalize y % 4294967296 = s
    simp only [Nat.add_mul, Nat.mul_add]
    have a1 : p * 4294967296 * (r * 4294967296) = p * r * 18446744073709551616 := by rw [Nat.mul_mul_mul_comm]
    have a2 : p * 4294967296 * s = p * s * 4294967296 := by rw [Nat.mul_right_comm]
    have a3 : q * (r * 4294967296) = q * r * 4294967296 := by rw [Nat.mul_assoc]
    rw [a1, a2, a3]; omega
  have hpi : (x : Int) * (y : Int) = ((x * y : Nat) : Int) := by exact_mod_cast rfl
  rw [hpi, hp]
  generalize x / 4294967296 = p at *
  generalize x % 4294967296 = q at *
  generalize y / 4294967296 = r at *
  generalize y % 4294967296 = s at *
  have c1 : (p : Int) * (r : Int) = ((p * r : Nat) : Int) := by exact_mod_cast rfl
  have c2 : (p : Int) * (s : Int) = ((p * s : Nat) : Int) := by exact_mod_cast rfl
  have c3 : (q : Int) * (r : Int) = ((q * r : Nat) : Int) := by exact_mod_cast rfl
  have c4 : (q : Int) * (s : Int) = ((q * s : Nat) : Int) := by exact_mod_cast rfl
  rw [c1, c2, c3, c4]
  have l1 : p * r ≤ 4294967295 * 4294967295 := Nat.mul_le_mul bx1 by1
  have l2 : p * s ≤ 4294967295 * 4294967295 := Nat.mul_le_mul bx1 by0
  have l3 : q * r ≤ 4294967295 * 4294967295 := Nat.mul_le_mul bx0 by1
  have l4 : q * s ≤ 4294967295 * 4294967295 := Nat.mul_le_mul bx0 by0
  clear hp hpi c1 c2 c3 c4 dx dy ex ey hx hy
  generalize p * r = A at *
  generalize p * s = B at *
  generalize q * r = C at *
  generalize q * s = D at *
  rw [show ((B : Int) % 18446744073709551616 + (D : Int) % 18446744073709551616 / 4294967296) % 18446744073709551616 = ((B + D / 4294967296 : Nat) : Int) by omega]
  have t1 : (Go.bits .and .u64 (((B + D / 4294967296 : Nat)) : Int) 4294967295) = (((B + D / 4294967296) % 4294967296 : Nat) : Int) := and_low _ (by omega)
  rw [t1]
  congr 1
  refine Prod.ext ?_ ?_
  · show _ = _
    simp only []
    omega
  · show _ = _
    simp only []
    omega
theorem mul_sign (a b : Int) : a * b = if (decide (a < 0) != decide (b < 0)) = true then -((a.natAbs * b.natAbs : Nat) : Int) else ((a.natAbs * b.natAbs : Nat) : Int) := by
  have h : ((a.natAbs * b.natAbs : Nat) : Int) = (a.natAbs : Int) * (b.natAbs : Int) := by exact_mod_cast rfl
  rw [h]
  by_cases h1 : a < 0 <;> by_cases h2 : b < 0
  · rw [if_neg (by simp [h1, h2]), show (a.natAbs : Int) = -a by omega, show (b.natAbs : Int) = -b by omega, Int.neg_mul_neg]
  · rw [if_pos (by simp [h1, h2]), show (a.natAbs : Int) = -a by omega, show (b.natAbs : Int) = b by omega, Int.neg_mul, Int.neg_neg]
  · rw [if_pos (by simp [h1, h2]), show (a.natAbs : Int) = a by omega, show (b.natAbs : Int) = -b by omega, Int.mul_neg, Int.neg_neg]
  · rw [if_neg (by simp [h1, h2]), show (a.natAbs : Int) = a by omega, show (b.natAbs : Int) = b by omega]
theorem mul_spec {k : Nat} {a b : Int} (hk : 2 ≤ k) (ha : inR a) (hb : inR b) : num_Mul.f k a b = some (chk (a * b)) := by
  obtain ⟨k, rfl⟩ : ∃ m, k = m + 2 := ⟨k - 2, by omega⟩
  unfold num_Mul.f
  rw [size_spec ha, size_spec hb]; simp only [Option.bind_some]
  rw [mul64_spec _ _ (by unfold inR at ha; omega) (by unfold inR at hb; omega)]; simp only [Option.bind_some]
  have hs := mul_sign a b
  generalize a.natAbs * b.natAbs = P at *
  by_cases hd : (decide (a < 0) != decide (b < 0)) = true
  · rw [if_pos hd] at hs
    rw [if_pos hd, hd, hs]
    by_cases h0 : (((P / 18446744073709551616 : Nat)) : Int) > 0
    · simp only [num_Mul.j0, if_pos h0, num_Mul.j1, if_true]
      rw [chk_no (by unfold inR; omega)]
    · simp only [num_Mul.j0, if_neg h0, num_Mul.j1]
      by_cases h1 : ((P % 18446744073709551616 : Nat) : Int) > 9223372036854775807 + 1
      · rw [if_pos (decide_eq_true h1), chk_no (by unfold inR; omega)]
      · rw [if_neg (by simpa using h1), if_pos trivial, chk_yes (by unfold inR; omega), IntKind.wrap_u64]
        congr 2; unfold wrap64; omega
  · rw [if_neg hd] at hs
    rw [if_neg hd, Bool.eq_false_iff.2 hd, hs]
    by_cases h0 : (((P / 18446744073709551616 : Nat)) : Int) > 0
    · simp only [num_Mul.j0, if_pos h0, num_Mul.j1, if_true]
      rw [chk_no (by unfold inR; omega)]
    · simp only [num_Mul.j0, if_neg h0, num_Mul.j1]
      by_cases h1 : ((P % 18446744073709551616 : Nat) : Int) > 9223372036854775807
      · rw [if_pos (decide_eq_true h1), chk_no (by unfold inR; omega)]
      · rw [if_neg (by simpa using h1), if_neg (by simp), chk_yes (by unfold inR; omega)]
        congr 2; unfold wrap64; omega
/-! quotients -/

theorem tdiv_in {c b : Int} (hc : inR c) : Int.natAbs (c.tdiv b) ≤ 9223372036854775808 := by
  rw [Int.natAbs_tdiv]; exact Nat.le_trans (Nat.div_le_self _ _) (by unfold inR at hc; omega)
theorem rmul1 {k : Nat} {a b : Int} (ha : inR a) (hb : inR b) (h0 : b ≠ 0) (hx : ¬ (a = -9223372036854775808 ∧ b = -1)) (hy : ¬ (b = -9223372036854775808 ∧ a = -1)) :
    furrowref4_Mul.j1 (k + 1) a b false = some (chk (a * b)) := by
  simp only [furrowref4_Mul.j1]
  rw [if_neg (by simp), if_neg h0]
  by_cases hr : inR (a * b)
  · rw [chk_yes hr, w64 hr, Int.mul_tdiv_cancel _ h0, if_pos (w64 ha)]
  · rw [chk_no hr, if_neg]
    intro e
    have hc : inR (wrap64 (a * b)) := by unfold inR wrap64; omega
    have hm : ∃ m : Int, a * b = wrap64 (a * b) + m * 18446744073709551616 ∧ m ≠ 0 := by
      refine ⟨(a * b - wrap64 (a * b)) / 18446744073709551616, ?_, ?_⟩
      · unfold wrap64; omega
      · intro e0; apply hr; unfold inR wrap64 at *; omega
    obtain ⟨m, e1, hm⟩ := hm
    have e2 := Int.mul_tdiv_add_tmod (wrap64 (a * b)) b
    have e3 : (Int.tmod (wrap64 (a * b)) b).natAbs < b.natAbs := by
      rw [Int.natAbs_tmod]; exact Nat.mod_lt _ (by omega)
    have e4 := @tdiv_in (wrap64 (a * b)) b hc
    have e5 : (wrap64 (a * b)).tdiv b = a := by
      by_cases h9 : (wrap64 (a * b)).tdiv b = 9223372036854775808
      · exfalso
        rw [h9] at e
        have ha' : a = -9223372036854775808 := by rw [← e]; unfold wrap64; omega
        rw [h9] at e2
        apply hx
        refine ⟨ha', ?_⟩
        unfold inR at *
        omega
      · exact (w64 (by omega)).symm.trans e
    rw [e5, Int.mul_comm b a] at e2
    unfold inR at *
    omega
theorem rmul_spec {k : Nat} {a b : Int} (hk : 2 ≤ k) (ha : inR a) (hb : inR b) : furrowref4_Mul.f k a b = some (chk (a * b)) := by
  obtain ⟨k, rfl⟩ : ∃ m, k = m + 2 := ⟨k - 2, by omega⟩
  unfold furrowref4_Mul.f
  by_cases h0 : a = 0
  · subst h0; rw [if_pos rfl, Int.zero_mul]; simp only [furrowref4_Mul.j0, if_true]; rfl
  · rw [if_neg h0]
    by_cases h1 : b = 0
    · subst h1; simp only [Int.mul_zero, furrowref4_Mul.j0]; rfl
    · have h1' : (b == 0) = false := by simpa using h1
      rw [h1']; simp only [furrowref4_Mul.j0]; rw [if_neg (by simp)]
      by_cases h2 : a = -1
      · rw [if_pos h2]
        by_cases h3 : b = -9223372036854775808
        · rw [if_pos h3]; subst h2 h3; rfl
        · rw [if_neg h3, rmul1 ha hb h1 (by omega) (by omega)]
          have h4 : (a == -9223372036854775808) = false := by subst h2; rfl
          rw [h4, rmul1 ha hb h1 (by omega) (by omega)]; split <;> rfl
      · rw [if_neg h2]
        by_cases h3 : b = -1
        · rw [if_pos h3]
          by_cases h4 : a = -9223372036854775808
          · subst h3 h4; rfl
          · rw [show (a == -9223372036854775808) = false by simpa using h4]
            exact rmul1 ha hb h1 (by omega) (by omega)
        · rw [if_neg h3]; exact rmul1 ha hb h1 (by omega) (by omega)

theorem mul_bd {a b A B : Int} (ha : -A ≤ a ∧ a ≤ A) (hb : -B ≤ b ∧ b ≤ B) : -(A * B) ≤ a * b ∧ a * b ≤ A * B := by
  have h1 : a.natAbs ≤ A.toNat := by omega
  have h2 : b.natAbs ≤ B.toNat := by omega
  have h3 : (a * b).natAbs ≤ A.toNat * B.toNat := by rw [Int.natAbs_mul]; exact Nat.mul_le_mul h1 h2
  have h4 : ((A.toNat * B.toNat : Nat) : Int) = A * B := by rw [Int.natCast_mul, Int.toNat_of_nonneg (by omega), Int.toNat_of_nonneg (by omega)]
  omega
theorem rd_drop {l : List Int} {i : Int} (h0 : 0 ≤ i) (h : i < (l.length : Int)) : l.drop i.toNat = rd l i :: l.drop (i + 1).toNat := by
  have hn : i.toNat < l.length := by omega
  have e : (i + 1).toNat = i.toNat + 1 := by omega
  rw [List.drop_eq_getElem_cons hn, e]
  congr 1
  simp [rd, List.getD, hn]
theorem rd_mem {l : List Int} {i : Int} (h0 : 0 ≤ i) (h : i < (l.length : Int)) : rd l i ∈ l := by
  have hn : i.toNat < l.length := by omega
  have e : rd l i = l[i.toNat] := by simp [rd, List.getD, hn]
  rw [e]; exact List.getElem_mem hn
theorem drop_end {l : List Int} {i : Int} (h : (l.length : Int) ≤ i) : l.drop i.toNat = [] := List.drop_of_length_le (by omega)
def fltE (c : Int) : List Flt := [⟨⟨#[102, 111, 114, 109]⟩, 0, some c⟩]
theorem fault_eq (c : Int) : lin_fault.f c = some (fltE c) := rfl

/-! forms made number by number; forms alike -/
def sameS : List Int → List Int → Bool
  | [], [] => true
  | a :: l, [] => a == 0 && sameS l []
  | [], b :: m => 0 == b && sameS [] m
  | a :: l, b :: m => a == b && sameS l m
theorem same_l {l m : List Int} {a b n : Int} (hn : n = mx (l.length : Int) (m.length : Int)) (hl : l.length < 4611686018427387904) (hm : m.length < 4611686018427387904) (d : Nat) :
    ∀ (k : Nat) (i : Int), 0 ≤ i → n - i = d → 2 * d + 1 < k → lin_Same.l0 k n i l a m b = some (sameS (l.drop i.toNat) (m.drop i.toNat) && (a == b)) := by
  have e : ((l.length : Int) ≤ n ∧ (m.length : Int) ≤ n) ∧ (n = (l.length : Int) ∨ n = (m.length : Int)) := by rw [hn]; unfold mx; split <;> omega
  induction d with
  | zero =>
    intro k i h0 hd hk
    obtain ⟨k, rfl⟩ : ∃ m, k = m + 1 := ⟨k - 1, by omega⟩
    simp only [lin_Same.l0]
    rw [if_neg (by omega), drop_end (by omega), drop_end (by omega)]
    simp [sameS]
  | succ d ih =>
    intro k i h0 hd hk
    obtain ⟨k, rfl⟩ : ∃ m, k = m + 1 := ⟨k - 1, by omega⟩
    obtain ⟨k, rfl⟩ : ∃ m, k = m + 1 := ⟨k - 1, by omega⟩
    have r := ih k (i + 1) (by omega) (by omega) (by omega)
    simp only [lin_Same.l0]
    rw [if_pos (by omega)]
    by_cases c1 : i < (l.length : Int)
    · rw [if_pos c1, if_pos h0, rd_drop h0 c1]
      simp only [lin_Same.j1]
      by_cases c2 : i < (m.length : Int)
      · rw [if_pos c2, if_pos h0, rd_drop h0 c2, w64 (by omega)]
        by_cases c : rd l i = rd m i
        · rw [if_pos c, r]; simp [sameS, c]
        · rw [if_neg c]; simp [sameS, c]
      · rw [if_neg c2, drop_end (l := m) (by omega), w64 (by omega)]
        rw [drop_end (l := m) (i := i + 1) (by omega)] at r
        by_cases c : rd l i = 0
        · rw [if_pos c, r]; simp [sameS, c]
        · rw [if_neg c]; simp [sameS, c]
    · have c2 : i < (m.length : Int) := by omega
      rw [if_neg c1, drop_end (l := l) (by omega), rd_drop h0 c2]
      rw [drop_end (l := l) (i := i + 1) (by omega)] at r
      simp only [lin_Same.j1]
      rw [if_pos c2, if_pos h0, w64 (by omega)]
      by_cases c : 0 = rd m i
      · rw [if_pos c, r]; simp [sameS, ← c]
      · rw [if_neg c]; simp [sameS, c]
theorem same_spec {l m : List Int} {a b : Int} {k : Nat} (hl : l.length < 4611686018427387904) (hm : m.length < 4611686018427387904) (hk : 2 * (l.length + m.length) + 2 < k) : lin_Same.f k l a m b = some (sameS l m && (a == b)) := by
  unfold lin_Same.f
  have e : mx (l.length : Int) (m.length : Int) = ((if l.length < m.length then m.length else l.length : Nat) : Int) := by unfold mx; split <;> split <;> omega
  rw [same_l rfl hl hm (if l.length < m.length then m.length else l.length) k 0 (by omega) (by rw [e]; omega) (by split <;> omega)]
  rfl
theorem sameS_refl : ∀ l : List Int, sameS l l = true
  | [] => by simp [sameS]
  | a :: l => by simp [sameS, sameS_refl l]
theorem sameS_eq {l m : List Int} (h : l.length = m.length) : sameS l m = decide (l = m) := by
  induction l generalizing m with
  | nil => cases m with | nil => simp [sameS] | cons b m => simp at h
  | cons a l ih =>
    cases m with
    | nil => simp at h
    | cons b m => simp only [sameS, ih (by simpa using h)]; by_cases c : a = b <;> by_cases c' : l = m <;> simp [c, c']
/-- are all numbers from a place on in range? -/
def allB (v : Int → Int) : Int → Nat → Bool
  | _, 0 => true
  | i, d + 1 => decide (inR (v i)) && allB v (i + 1) d
/-- a list number by number -/
def made (v : Int → Int) (n : Nat) : List Int := (List.range n).map fun (j : Nat) => v (j : Int)
theorem made_length (v : Int → Int) (n : Nat) : (made v n).length = n := by simp [made]
theorem made_succ (v : Int → Int) (n : Nat) : made v (n + 1) = made v n ++ [v (n : Int)] := by simp [made, List.range_succ]
def eachS (v : Int → Int) (n : Nat) : List Int × Int × List Flt := if allB v 0 (n + 1) = true then (made v n, v (n : Int), []) else ([], 0, fltE 5)
theorem set_made (v : Int → Int) (j r : Nat) (x : Int) : (made v j ++ List.replicate (r + 1) 0).set j x = made v j ++ [x] ++ List.replicate r 0 := by
  rw [List.set_append]
  simp [made_length, List.replicate_succ]
theorem each_l {GG : CloA} {v : Int → Int} {n : Nat} (hn : n < 35184372088833) (hg : ∀ i : Int, 0 ≤ i → i ≤ n → GG.f i = some (chk (v i))) (d : Nat) :
    ∀ (k : Nat) (j : Nat), j + d = n → d + 2 < k → lin_each.l0 GG k (n : Int) ((n : Int) + 1) (j : Int) (made v j ++ List.replicate d 0) 0 = some (if allB v (j : Int) (d + 1) = true then (made v n, v (n : Int), []) else ([], 0, fltE 5)) := by
  induction d with
  | zero =>
    intro k j hj hk
    obtain ⟨k, rfl⟩ : ∃ m, k = m + 1 := ⟨k - 1, by omega⟩
    obtain ⟨k, rfl⟩ : ∃ m, k = m + 1 := ⟨k - 1, by omega⟩
    obtain rfl : j = n := by omega
    rw [lin_each.l0, if_pos (by omega), hg _ (by omega) (by omega)]
    simp only [Option.bind_some]
    by_cases h : inR (v (j : Int))
    · have e : allB v (j : Int) (0 + 1) = true := by simp [allB, h]
      rw [chk_yes h, e, if_pos rfl, if_pos rfl, if_neg (by omega), w64 (by omega), lin_each.l0, if_neg (by omega)]
      simp
    · have e : allB v (j : Int) (0 + 1) = false := by simp [allB, h]
      rw [chk_no h, e, if_neg (by simp), if_neg (by simp), fault_eq]
      rfl
  | succ d ih =>
    intro k j hj hk
    obtain ⟨k, rfl⟩ : ∃ m, k = m + 1 := ⟨k - 1, by omega⟩
    rw [lin_each.l0, if_pos (by omega), hg _ (by omega) (by omega)]
    simp only [Option.bind_some]
    by_cases h : inR (v (j : Int))
    · have r := ih k (j + 1) (by omega) (by omega)
      have e : allB v (j : Int) (d + 1 + 1) = allB v ((j : Int) + 1) (d + 1) := by rw [allB, decide_eq_true h, Bool.true_and]
      rw [chk_yes h, e, if_pos rfl, if_pos (by omega), if_pos (by omega), if_pos (by simp [made_length]; omega), w64 (by omega)]
      have e2 : ((j : Int) + 1) = ((j + 1 : Nat) : Int) := by omega
      rw [show (((j : Int)).toNat) = j from rfl, set_made, ← made_succ, e2, r]
    · have e : allB v (j : Int) (d + 1 + 1) = false := by rw [allB, decide_eq_false h, Bool.false_and]
      rw [chk_no h, e, if_neg (by simp), if_neg (by simp), fault_eq]
      rfl
theorem each_spec {GG : CloA} {v : Int → Int} {n k : Nat} (hn : n < 35184372088832) (hg : ∀ i : Int, 0 ≤ i → i ≤ n → GG.f i = some (chk (v i))) (hk : n + 2 < k) : lin_each.f GG k (n : Int) = some (eachS v n) := by
  unfold lin_each.f
  rw [if_pos (by omega), if_pos (by omega), w64 (by omega)]
  have r := each_l (GG := GG) (v := v) (n := n) (by omega) hg n k 0 (by omega) hk
  simp only [made, List.range_zero, List.map_nil, List.nil_append] at r
  exact r
/-- a form's numbers; behind them its last -/
def partS (l : List Int) (K : Int) (i : Int) : Int := if i < (l.length : Int) then rd l i else K
theorem part_spec {l : List Int} {K i : Int} (h : 0 ≤ i) : lin_Form_part.f l K i = some (partS l K i) := by
  unfold lin_Form_part.f partS
  by_cases c : i < (l.length : Int)
  · rw [if_pos c, if_pos h, if_pos c]
  · rw [if_neg c, if_neg c]
theorem part_in {l : List Int} {K i : Int} (h0 : 0 ≤ i) (hl : ∀ z ∈ l, inR z) (hK : inR K) : inR (partS l K i) := by
  unfold partS; split
  · exact hl _ (rd_mem h0 ‹_›)
  · exact hK
theorem add_l {l m : List Int} {a b : Int} (h : l.length = m.length) (hl : ∀ z ∈ l, inR z) (hm : ∀ z ∈ m, inR z) (ha : inR a) (hb : inR b) (hlen : l.length < 35184372088832) :
    lin_Add.f l a m b = some (eachS (fun i => partS l a i + partS m b i) l.length) := by
  unfold lin_Add.f addE
  rw [if_pos (by omega), each_spec (v := fun i => partS l a i + partS m b i) hlen (fun i h0 hi => ?_) (by omega)]
  · rfl
  · simp only [part_spec h0, Option.bind_some]
    exact add_spec (part_in h0 hl ha) (part_in h0 hm hb)
theorem add_no {l m : List Int} {a b : Int} (h : l.length ≠ m.length) : lin_Add.f l a m b = some ([], 0, fltE 1) := by
  unfold lin_Add.f
  rw [if_neg (by omega)]; rfl
theorem scale_l {l : List Int} {a c : Int} (hl : ∀ z ∈ l, inR z) (ha : inR a) (hc : inR c) (hlen : l.length < 35184372088832) :
    lin_Scale.f l a c = some (eachS (fun i => partS l a i * c) l.length) := by
  unfold lin_Scale.f scaleE
  rw [each_spec (v := fun i => partS l a i * c) hlen (fun i h0 hi => ?_) (by omega)]
  · rfl
  · simp only [part_spec h0, Option.bind_some]
    exact mul_spec (by omega) (part_in h0 hl ha) hc
theorem allB_iff (v : Int → Int) (d : Nat) : ∀ i : Int, allB v i d = true ↔ ∀ j : Int, i ≤ j → j < i + d → inR (v j) := by
  induction d with
  | zero => intro i; simp [allB]; omega
  | succ d ih =>
    intro i
    simp only [allB, Bool.and_eq_true, decide_eq_true_eq, ih]
    constructor
    · rintro ⟨h1, h2⟩ j hj hj'
      by_cases e : i = j
      · subst e; exact h1
      · exact h2 j (by omega) (by omega)
    · intro h
      exact ⟨h i (by omega) (by omega), fun j hj hj' => h j (by omega) (by omega)⟩
theorem rd_get {l : List Int} {j : Nat} (h : j < l.length) : rd l (j : Int) = l[j] := by simp [rd, List.getD, h]
theorem made_get (v : Int → Int) {n j : Nat} (h : j < n) : rd (made v n) (j : Int) = v (j : Int) := by
  rw [rd_get (by rw [made_length]; exact h)]; simp [made]
theorem made_in {v : Int → Int} {n : Nat} (h : ∀ j : Int, 0 ≤ j → j < n → inR (v j)) : ∀ z ∈ made v n, inR z := by
  intro z hz
  simp only [made, List.mem_map, List.mem_range] at hz
  obtain ⟨j, hj, rfl⟩ := hz
  exact h _ (by omega) (by omega)
theorem made_congr {v u : Int → Int} {n : Nat} (h : ∀ j : Int, 0 ≤ j → j < n → v j = u j) : made v n = made u n := by
  simp only [made]
  apply List.map_congr_left
  intro j hj
  exact h _ (by omega) (by simpa using hj)
theorem part_made {v : Int → Int} {n : Nat} {j : Int} (h0 : 0 ≤ j) (h : j ≤ n) : partS (made v n) (v (n : Int)) j = v j := by
  unfold partS
  rw [made_length]
  by_cases c : j < (n : Int)
  · rw [if_pos c]
    obtain ⟨m, rfl⟩ : ∃ m : Nat, j = (m : Int) := ⟨j.toNat, by omega⟩
    exact made_get v (by omega)
  · rw [if_neg c, show j = (n : Int) by omega]

theorem each_ok {v : Int → Int} {n : Nat} (h : ∀ j : Int, 0 ≤ j → j ≤ n → inR (v j)) : eachS v n = (made v n, v (n : Int), []) := by
  unfold eachS
  rw [if_pos ((allB_iff v (n + 1) 0).2 fun j h0 h1 => h j h0 (by omega))]

/-! products of a hundred, lifted: what they come to, or that they are too great -/
theorem w01 : wrap64 ((0 : Int) + 1) = 1 := w64 (a := 1) (by omega)
theorem w12 : wrap64 ((1 : Int) + 1) = 2 := w64 (a := 2) (by omega)
def iS : ByteArray := ⟨#[105]⟩
def eS : ByteArray := ⟨#[]⟩
def LZ (L : List ByteArray) (z : List Int) : Prop := (L = [] ∧ z = []) ∨ (L = [iS] ∧ z = [0])
theorem r100 : inR 100 := by unfold inR; omega
section
variable {L : List ByteArray} {z : List Int} {e : S26} {M v : Int}
theorem constZ {K : Int} (h : LZ L z) : Says (fun k => lift_constant.f k z K) true := by
  have h0 : lin_Const.f 0 K = some ([], K) := rfl
  have h1 : Says (fun k => lin_Same.f k z K [] K) true := ⟨20, fun k hk => by
    rcases h with ⟨_, rfl⟩ | ⟨_, rfl⟩
    · show lin_Same.f k [] K [] K = some true
      rw [same_spec (by simp) (by simp) (by simp; omega)]; simp [sameS]
    · show lin_Same.f k [0] K [] K = some true
      rw [same_spec (by simp) (by simp) (by simp; omega)]; simp [sameS]⟩
  exact .eq (fun k => lift_constant.f.eq_1 ..) (.bind (v := ([], K)) ⟨0, fun _ _ => h0⟩ (.bind h1 .now))
def OutS (z : List Int) (M : Int) : List Int × Int × List Flt := if inR (100 * M) then (z, 100 * M, []) else ([], 0, fltE 5)
theorem scaleZ (h : LZ L z) (hM : inR M) : lin_Scale.f z 100 M = some (OutS z M) := by
  rcases h with ⟨_, rfl⟩ | ⟨_, rfl⟩
  · rw [scale_l (by simp) r100 hM (by simp)]
    unfold OutS eachS
    by_cases c : inR (100 * M)
    · rw [if_pos c, if_pos (by simpa [allB, partS] using c)]; rfl
    · rw [if_neg c, if_neg (by simpa [allB, partS] using c)]
  · rw [scale_l (by simp [inR]) r100 hM (by simp)]
    unfold OutS eachS
    have h0 : inR 0 := by unfold inR; omega
    by_cases c : inR (100 * M)
    · rw [if_pos c, if_pos (by simpa [allB, partS, rd, h0] using c)]; simp [made, partS, rd, List.range_succ]
    · rw [if_neg c, if_neg (by simpa [allB, partS, rd, h0] using c)]
theorem prodZ (h : LZ L z) (hM : inR M) : Says (fun k => Y.lift_product.f k z 100 z M) (OutS z M) :=
  .eq (fun k => Y.lift_product.f.eq_1 ..) (.bind (constZ h) (.pos rfl (.bind (v := OutS z M) ⟨0, fun _ _ => scaleZ h hM⟩ .now)))
def OfS (e : S26) (L : List ByteArray) (r : List Int × Int × List Flt) : Prop := Says (fun k => Y.lift_of.f k e.f0 e.f1 e.f2 e.f3 L) r
theorem ofs_num (h : LZ L z) : OfS ⟨1, v, eS, []⟩ L (z, v, []) := by
  rcases h with ⟨rfl, rfl⟩ | ⟨rfl, rfl⟩
  · exact .step (fun k => Y.lift_of.f.eq_2 ..) (.pos rfl (.bind (v := ([], v)) ⟨0, fun _ _ => rfl⟩ .now))
  · exact .step (fun k => Y.lift_of.f.eq_2 ..) (.pos rfl (.bind (v := ([0], v)) ⟨0, fun _ _ => rfl⟩ .now))
theorem idx_i : Says (fun k => slices_Index_string_string.f k [iS] iS) 0 := Says.more (fun k => slices_Index_string_string.mono _ _ k) (K := 5) (by decide +kernel)
theorem ofs_i : OfS ⟨2, 0, iS, []⟩ [iS] ([1], 0, []) :=
  .step (fun k => Y.lift_of.f.eq_2 ..) (.neg (by decide) (.pos rfl (.bind idx_i (.neg (by decide) (.bind (v := ([1], 0)) ⟨0, fun _ _ => rfl⟩ .now)))))
def mul100 (e : S26) : S26 := ⟨7, 0, eS, [⟨1, 100, eS, []⟩, e]⟩
theorem ofs_first {r : List Int × Int × List Flt} (h : LZ L z) (hr : Says (fun k => Y.lift_of.l0 k L [⟨z, 100⟩] [⟨1, 100, eS, []⟩, e] 2 1 7 0 eS [⟨1, 100, eS, []⟩, e]) r) : OfS (mul100 e) L r := by
  have h1 : OfS ⟨1, 100, eS, []⟩ L (z, 100, []) := ofs_num h
  refine .step (fun k => Y.lift_of.f.eq_2 ..) (.neg (by simp [mul100]) (.neg (by simp [mul100]) (.neg (by simp [mul100]) (.neg (by simp [mul100]) ?_))))
  refine .step (fun k => Y.lift_of.l0.eq_2 ..) (.pos (by simp [mul100]) (.pos (by simp) (.pos (by simp [mul100]) (.bind h1 (.pos rfl (.pos (by simp) ?_))))))
  rw [w01]
  exact hr
theorem ofs_mul (h : LZ L z) (hv : inR v) (he : OfS e L (z, v, [])) : OfS (mul100 e) L (OutS z v) := by
  refine ofs_first h (.step (fun k => Y.lift_of.l0.eq_2 ..) (.pos (by simp) (.pos (by simp) (.pos (by simp) (.bind he (.pos rfl (.pos (by simp) ?_)))))))
  rw [w12]
  exact .step (fun k => Y.lift_of.l0.eq_2 ..) (.neg (by simp) (.neg (by simp) (.pos rfl (.pos (by simp) (.pos (by simp) (.bind (prodZ h hv) .now))))))
theorem ofs_err {l : List Int} {m : Int} (h : LZ L z) (he : OfS e L (l, m, fltE 5)) : OfS (mul100 e) L ([], 0, fltE 5) :=
  ofs_first h (.step (fun k => Y.lift_of.l0.eq_2 ..) (.pos (by simp) (.pos (by simp) (.pos (by simp) (.bind he (.neg (by simp [fltE]) .now))))))
def addI (e : S26) : S26 := ⟨5, 0, eS, [e, ⟨2, 0, iS, []⟩]⟩
theorem adds (hv : inR v) : lin_Add.f [0] v [1] 0 = some ([1], v, []) := by
  have h0 : inR 0 := by unfold inR; omega
  have h1 : inR 1 := by unfold inR; omega
  rw [add_l (l := [0]) (m := [1]) rfl (by simp [h0]) (by simp [h1]) hv h0 (by simp)]
  unfold eachS
  rw [if_pos (by simpa [allB, partS, rd, h1] using hv)]
  simp [made, partS, rd, List.range_succ]
theorem ofs_add (hv : inR v) (he : OfS e [iS] ([0], v, [])) : OfS (addI e) [iS] ([1], v, []) := by
  refine .step (fun k => Y.lift_of.f.eq_2 ..) (.neg (by simp [addI]) (.neg (by simp [addI]) (.neg (by simp [addI]) (.neg (by simp [addI]) ?_))))
  refine .step (fun k => Y.lift_of.l0.eq_2 ..) (.pos (by simp [addI]) (.pos (by simp) (.pos (by simp [addI]) (.bind he (.pos rfl (.pos (by simp) ?_))))))
  rw [w01]
  refine .step (fun k => Y.lift_of.l0.eq_2 ..) (.pos (by simp [addI]) (.pos (by simp) (.pos (by simp [addI]) (.bind ofs_i (.pos rfl (.pos (by simp) ?_))))))
  rw [w12]
  exact .step (fun k => Y.lift_of.l0.eq_2 ..) (.neg (by simp [addI]) (.neg (by simp [addI]) (.neg (by simp [addI]) (.pos rfl (.pos (by simp) (.pos (by simp) (.bind (v := ([1], v, [])) ⟨0, fun _ _ => adds hv⟩ .now)))))))
theorem ofs_add_err {l : List Int} {m : Int} (he : OfS e [iS] (l, m, fltE 5)) : OfS (addI e) [iS] ([], 0, fltE 5) := by
  refine .step (fun k => Y.lift_of.f.eq_2 ..) (.neg (by simp [addI]) (.neg (by simp [addI]) (.neg (by simp [addI]) (.neg (by simp [addI]) ?_))))
  exact .step (fun k => Y.lift_of.l0.eq_2 ..) (.pos (by simp [addI]) (.pos (by simp) (.pos (by simp [addI]) (.bind he (.neg (by simp [fltE]) .now)))))
theorem Of_ok (he : OfS e L (z, v, [])) : Says (fun k => Y.lift_Of.f k e.f0 e.f1 e.f2 e.f3 L) (z, v, []) := .eq (fun k => Y.lift_Of.f.eq_1 ..) (.bind he (.pos rfl .now))
def deepE : List Flt := [⟨liftS, deepC, none⟩]
theorem fault2_eq : lift_fault2.f (fltE 5) = some deepE := by unfold lift_fault2.f; exact if_pos rfl
theorem Of_err {l : List Int} {m : Int} (he : OfS e L (l, m, fltE 5)) : Says (fun k => Y.lift_Of.f k e.f0 e.f1 e.f2 e.f3 L) ([], 0, deepE) :=
  .eq (fun k => Y.lift_Of.f.eq_1 ..) (.bind he (.neg (by simp [fltE]) (.bind (v := deepE) ⟨0, fun _ _ => fault2_eq⟩ .now)))
/-- What the loop has: an expression, its number, whether it is too great. -/
def St (e : S26) (v : Int) (o : Bool) : Prop := inR v ∧ ∀ L z, LZ L z → if o = true then ∃ l m, OfS e L (l, m, fltE 5) else OfS e L (z, v, [])
theorem st_num (hv : inR v) : St ⟨1, v, eS, []⟩ v false := ⟨hv, fun _ _ h => ofs_num h⟩
theorem st_mul {o : Bool} (h : St e v o) : St (mul100 e) (chk (100 * v)).1 (o || !(chk (100 * v)).2) := by
  obtain ⟨hv, h⟩ := h
  by_cases c : inR (100 * v)
  · rw [chk_yes c]
    refine ⟨c, fun L z hL => ?_⟩
    cases o with
    | true => obtain ⟨l, m, he⟩ := h L z hL; exact ⟨[], 0, ofs_err hL he⟩
    | false =>
      have := ofs_mul hL hv (h L z hL)
      unfold OutS at this
      rw [if_pos c] at this
      exact this
  · rw [chk_no c]
    refine ⟨by show inR 0; unfold inR; omega, fun L z hL => ?_⟩
    cases o with
    | true => obtain ⟨l, m, he⟩ := h L z hL; exact ⟨[], 0, ofs_err hL he⟩
    | false =>
      have := ofs_mul hL hv (h L z hL)
      unfold OutS at this
      rw [if_neg c] at this
      exact ⟨[], 0, this⟩
end

end Go.Proofs.YtnkckdbjeemjeaaDoor.Pure
