/- SysBox over numbers and lists. -/
import Derived.Test.YtkkpgjkjkcmcbaaDoorXx11
import Derived.Test.YtkkpgjkjkcmcbaaDoorXx12
import Derived.Test.YtkkpgjkjkcmcbaaDoorHandB
import Derived.Test.YtkkpgjkjkcmcbaaDoorXx9
import Derived.Laws.Bits64
namespace Go.Proofs.YtkkpgjkjkcmcbaaDoor.Pure
open Go.RowKit Go.Proofs.YtkkpgjkjkcmcbaaDoor.X Go.Proofs.YtkkpgjkjkcmcbaaDoor.Flt Go.Proofs.YtkkpgjkjkcmcbaaDoor.H Go.Proofs.YtkkpgjkjkcmcbaaDoorW.PrintWords Go.Proofs.YtkkpgjkjkcmcbaaDoorW.PrintLast Go.Proofs.YtkkpgjkjkcmcbaaDoorW.PrintMore
set_option linter.unusedVariables false
set_option linter.unusedSimpArgs false
theorem w64 {a : Int} (h : -9223372036854775808 ≤ a ∧ a ≤ 9223372036854775807) : wrap64 a = a := by unfold wrap64; omega

def inC (c : Int) : Prop := -1073741824 ≤ c ∧ c ≤ 1073741824
theorem rd_at (l : List Int) (i : Nat) (h : i < l.length) : rd l (i : Int) = l[i] := by
  unfold rd; rw [Int.toNat_natCast, List.getD_eq_getElem?_getD, List.getElem?_eq_getElem h]; rfl

theorem floor_spec {a b : Int} (ha : -4611686018427387904 ≤ a ∧ a ≤ 4611686018427387904) (hb : 1 ≤ b ∧ b ≤ 4611686018427387904) {k : Nat} (hk : 1 ≤ k) : num_Floor.f k a b = some (a / b, true) := by
  obtain ⟨k, rfl⟩ : ∃ m, k = m + 1 := ⟨k - 1, by omega⟩
  have hd : a / b ≤ 4611686018427387904 ∧ -4611686018427387904 ≤ a / b := by
    constructor
    · exact Int.le_trans (Int.ediv_le_ediv (by omega) ha.2) (Int.ediv_le_self _ (by omega))
    · refine (Int.le_ediv_iff_mul_le (by omega)).2 ?_
      have : b * 4611686018427387904 ≥ 4611686018427387904 := by omega
      omega
  have ht : Int.tdiv a b = a / b + (if Int.tmod a b ≠ 0 ∧ a < 0 then 1 else 0) := by
    rw [Int.tdiv_eq_ediv]
    have hs : b.sign = 1 := Int.sign_eq_one_of_pos (by omega)
    have hm : Int.tmod a b = 0 ↔ b ∣ a := Int.dvd_iff_tmod_eq_zero.symm
    by_cases h0 : 0 ≤ a
    · rw [if_pos (.inl h0), if_neg (by omega)]
    · by_cases h1 : b ∣ a
      · rw [if_pos (.inr h1), if_neg (fun z => z.1 (hm.2 h1))]
      · rw [if_neg (fun z => z.elim (fun z => absurd z h0) h1), if_pos ⟨fun z => h1 (hm.1 z), by omega⟩, hs]
  unfold num_Floor.f
  rw [if_neg (by omega), if_neg (by omega)]
  simp only [num_Floor.j0]
  rw [if_neg (by simp), if_neg (by omega)]
  by_cases hm : Int.tmod a b = 0
  · rw [if_pos hm, ht, if_neg (by simp [hm]), Int.add_zero, w64 (by omega)]
  · rw [if_neg hm]
    by_cases h0 : a < 0
    · rw [if_pos (by simp [h0]; omega), ht, if_pos ⟨hm, h0⟩, w64 (a := a / b + 1) (by omega)]
      have : a / b + 1 - 1 = a / b := by omega
      rw [this, w64 (by omega)]
    · rw [if_neg (by simp [h0]; omega), ht, if_neg (by simp [h0]), Int.add_zero, w64 (by omega)]

def okF (N : Nat) (f : S59) : Prop := f.f0.length = N ∧ (∀ c ∈ f.f0, inC c) ∧ inC f.f1
theorem rd59_at (l : List S59) (i : Nat) (h : i < l.length) : rd_T59 l (i : Int) = l[i] := by
  unfold rd_T59; rw [Int.toNat_natCast, List.getD_eq_getElem?_getD, List.getElem?_eq_getElem h]; rfl
theorem rd65_at (l : List S65) (i : Nat) (h : i < l.length) : rd_T65 l (i : Int) = l[i] := by
  unfold rd_T65; rw [Int.toNat_natCast, List.getD_eq_getElem?_getD, List.getElem?_eq_getElem h]; rfl
theorem w_succ {i n : Nat} (h : i < n) (hn : n ≤ 4611686018427387904) : wrap64 ((i : Int) + 1) = ((i + 1 : Nat) : Int) := by unfold wrap64; omega
def toR (f : S59) : S65 := ⟨f.f0, f.f1⟩
theorem Of_l1 (n m : Int) (eq ge : List S59) (out : List S65) (lg : ge.length ≤ 70) : ∀ (d i k : Nat) (o : List S65), i + d = ge.length → d < k → o.length = i →
    furrowlaw15_Of.l1 k (i : Int) n eq ge m out o = some (m, out, o ++ (ge.drop i).map toR) := by
  intro d
  induction d with
  | zero =>
    intro i k o hi hk ho
    obtain ⟨k, rfl⟩ : ∃ m, k = m + 1 := ⟨k - 1, by omega⟩
    simp only [furrowlaw15_Of.l1]
    rw [if_neg (by omega), List.drop_eq_nil_of_le (by omega)]
    simp
  | succ d ih =>
    intro i k o hi hk ho
    obtain ⟨k, rfl⟩ : ∃ m, k = m + 1 := ⟨k - 1, by omega⟩
    have hlt : i < ge.length := by omega
    have hd : ge.drop i = ge[i] :: ge.drop (i + 1) := List.drop_eq_getElem_cons hlt
    simp only [furrowlaw15_Of.l1, furrowlaw11_Of.f, Option.bind_some]
    rw [if_pos (by omega), if_pos (by omega), if_pos (by omega), rd59_at ge i hlt, w_succ hlt (by omega), ih (i + 1) k _ (by omega) (by omega) (by simp [ho]), hd, List.append_assoc]
    rfl
theorem Of_l0 (n m : Int) (eq ge : List S59) (le : eq.length ≤ 70) (lg : ge.length ≤ 70) : ∀ (d i k : Nat) (o : List S65), i + d = eq.length → d + 100 < k → o.length = i →
    furrowlaw15_Of.l0 k (i : Int) n eq ge m o = some (m, o ++ (eq.drop i).map toR, ge.map toR) := by
  intro d
  induction d with
  | zero =>
    intro i k o hi hk ho
    obtain ⟨k, rfl⟩ : ∃ m, k = m + 1 := ⟨k - 1, by omega⟩
    simp only [furrowlaw15_Of.l0]
    have h := Of_l1 n m eq ge o lg ge.length 0 k [] (by omega) (by omega) rfl
    rw [List.drop_zero] at h
    rw [if_neg (by omega), List.drop_eq_nil_of_le (by omega)]
    simpa using h
  | succ d ih =>
    intro i k o hi hk ho
    obtain ⟨k, rfl⟩ : ∃ m, k = m + 1 := ⟨k - 1, by omega⟩
    have hlt : i < eq.length := by omega
    have hd : eq.drop i = eq[i] :: eq.drop (i + 1) := List.drop_eq_getElem_cons hlt
    simp only [furrowlaw15_Of.l0, furrowlaw11_Of.f, Option.bind_some]
    rw [if_pos (by omega), if_pos (by omega), if_pos (by omega), rd59_at eq i hlt, w_succ hlt (by omega), ih (i + 1) k _ (by omega) (by omega) (by simp [ho]), hd, List.append_assoc]
    rfl
theorem Of_spec (n : Int) (eq ge : List S59) (le : eq.length ≤ 70) (lg : ge.length ≤ 70) (k : Nat) (hk : 200 ≤ k) : furrowlaw15_Of.f k n eq ge = some (n, eq.map toR, ge.map toR) := by
  unfold furrowlaw15_Of.f
  have h := Of_l0 n n eq ge le lg eq.length 0 k [] (by omega) (by omega) rfl
  rw [List.drop_zero] at h
  simpa using h

instance decInC (a : Int) : Decidable (inC a) := by unfold inC; infer_instance
def okR (N : Int) (f : S65) : Prop := (f.f0.length : Int) = N ∧ (∀ c ∈ f.f0, inC c) ∧ inC f.f1
theorem beyond_spec (a : Int) : furrowref20_beyond.f a 1073741824 = some (!decide (inC a)) := by
  unfold furrowref20_beyond.f
  have hw : wrap64 (-1073741824) = -1073741824 := by decide +kernel
  rw [hw]
  by_cases h : a > 1073741824
  · rw [if_pos h, decide_eq_false (by unfold inC; omega)]; rfl
  · rw [if_neg h]
    by_cases h2 : a < -1073741824
    · rw [decide_eq_true h2, decide_eq_false (by unfold inC; omega)]; rfl
    · rw [decide_eq_false h2, decide_eq_true (by unfold inC; omega)]; rfl

def at0 (C : List Int) (j : Nat) : Int := C.getD j 0
theorem at0_get {C : List Int} {j : Nat} (h : j < C.length) : at0 C j = C[j] := by unfold at0; rw [List.getD_eq_getElem?_getD, List.getElem?_eq_getElem h]; rfl
theorem rd92_at (l : List S92) (i : Nat) (h : i < l.length) : rd_T92 l (i : Int) = l[i] := by
  unfold rd_T92; rw [Int.toNat_natCast, List.getD_eq_getElem?_getD, List.getElem?_eq_getElem h]; rfl

theorem known15_yes : furrowlaw15_known.f 100 = some true := by decide +kernel
theorem known15_more {k : Nat} (h : 100 ≤ k) : furrowlaw15_known.f k = some true := by
  obtain ⟨d, rfl⟩ : ∃ d, k = 100 + d := ⟨k - 100, by omega⟩
  clear h
  induction d with
  | zero => exact known15_yes
  | succ d ih => exact furrowlaw15_known.mono (100 + d) _ ih

/-! a box told by its ends -/
theorem rd_at0 (l : List Int) (i : Nat) : rd l (i : Int) = at0 l i := by unfold rd at0; rw [Int.toNat_natCast]
def unitL (N i : Nat) (k : Int) : List Int := (List.replicate N 0).set i k
theorem unit_len (N i : Nat) (k : Int) : (unitL N i k).length = N := by unfold unitL; simp
theorem unit_get {N i j : Nat} {k : Int} (h : j < (unitL N i k).length) : (unitL N i k)[j] = if i = j then k else 0 := by
  have key : ∀ (L : List Int) (_ : L = (List.replicate N 0).set i k) (h : j < L.length), L[j] = if i = j then k else 0 := by
    intro L hL h
    subst hL
    rw [List.getElem_set]
    split
    · rfl
    · exact List.getElem_replicate _
  exact key _ rfl h
theorem unit_mem {N i : Nat} {k c : Int} (h : c ∈ unitL N i k) : c = k ∨ c = 0 := by
  obtain ⟨j, hj, rfl⟩ := List.mem_iff_getElem.1 h
  rw [unit_get hj]
  split
  · exact .inl rfl
  · exact .inr rfl
theorem alone_u (N n : Nat) (c : Int) (hc : c ≠ 0) (hn : n < N) (hN : N ≤ 16) : ∀ (d i k : Nat) (r : Int), i + d = N → 2 * d < k → ((i ≤ n ∧ r = -1) ∨ (n < i ∧ r = n)) → sys_alone.l0 k r (unitL N n c) (N : Int) (i : Int) = some (n : Int) := by
  have hlen := unit_len N n c
  intro d
  induction d with
  | zero =>
    intro i k r hi hk h
    obtain ⟨k, rfl⟩ : ∃ m, k = m + 1 := ⟨k - 1, by omega⟩
    simp only [sys_alone.l0]
    rw [if_neg (by omega)]
    rcases h with h | h
    · omega
    · rw [h.2]
  | succ d ih =>
    intro i k r hi hk h
    obtain ⟨k, rfl⟩ : ∃ m, k = m + 2 := ⟨k - 2, by omega⟩
    have hlt : i < (unitL N n c).length := by omega
    simp only [sys_alone.l0]
    rw [if_pos (by omega), if_pos (by omega), if_pos (by omega), rd_at _ i hlt, unit_get hlt]
    by_cases e : n = i
    · rw [if_pos e, if_neg hc]
      have hr : r = -1 := by rcases h with h | h <;> omega
      subst hr
      rw [show decide ((-1 : Int) ≥ 0) = false from by decide]
      simp only [sys_alone.j1]
      rw [if_neg (by simp), if_neg hc, w_succ hlt (by omega)]
      exact ih (i + 1) k _ (by omega) (by omega) (.inr ⟨by omega, by rw [e]⟩)
    · rw [if_neg e, if_pos rfl]
      simp only [sys_alone.j1]
      rw [if_neg (by simp), if_pos trivial, w_succ hlt (by omega)]
      exact ih (i + 1) k r (by omega) (by omega) (by omega)
theorem alone_unit (N n : Nat) (c K : Int) (hc : c ≠ 0) (hn : n < N) (hN : N ≤ 16) (k : Nat) (hk : 40 ≤ k) : sys_alone.f k (unitL N n c) K = some (n : Int) := by
  unfold sys_alone.f
  rw [unit_len]
  exact alone_u N n c hc hn hN N 0 k (-1) (by omega) (by omega) (.inl ⟨by omega, rfl⟩)
section
variable (l0 l1 l2 : List Int)
def kB (i : Nat) : Int := 1 + at0 l2 i
def rowA (i : Nat) : S59 := ⟨unitL l0.length i (kB l2 i), -at0 l0 i⟩
def rowB (i : Nat) : S59 := ⟨unitL l0.length i (-kB l2 i), at0 l0 i + at0 l1 i⟩
def rowsB : Nat → List S59
  | 0 => []
  | i + 1 => rowsB i ++ [rowA l0 l2 i, rowB l0 l1 l2 i]
theorem rowsB_len : ∀ m, (rowsB l0 l1 l2 m).length = 2 * m
  | 0 => rfl
  | m + 1 => by simp only [rowsB, List.length_append, rowsB_len m, List.length_cons, List.length_nil]; omega
theorem rowsB_get : ∀ (m i : Nat), i < m → (rowsB l0 l1 l2 m)[2 * i]? = some (rowA l0 l2 i) ∧ (rowsB l0 l1 l2 m)[2 * i + 1]? = some (rowB l0 l1 l2 i)
  | 0, i, h => absurd h (by omega)
  | m + 1, i, h => by
    have hl := rowsB_len l0 l1 l2 m
    simp only [rowsB]
    by_cases e : i = m
    · subst e
      rw [List.getElem?_append_right (by omega), List.getElem?_append_right (by omega), hl, Nat.sub_self, show 2 * i + 1 - 2 * i = 1 by omega]
      exact ⟨rfl, rfl⟩
    · rw [List.getElem?_append_left (by omega), List.getElem?_append_left (by omega)]
      exact rowsB_get m i (by omega)
theorem rowsB_mem : ∀ (m : Nat) (f : S59), f ∈ rowsB l0 l1 l2 m → ∃ i, i < m ∧ (f = rowA l0 l2 i ∨ f = rowB l0 l1 l2 i)
  | 0, f, h => absurd h (by simp [rowsB])
  | m + 1, f, h => by
    simp only [rowsB, List.mem_append, List.mem_cons, List.not_mem_nil, or_false] at h
    rcases h with h | h
    · obtain ⟨i, hi, e⟩ := rowsB_mem m f h
      exact ⟨i, by omega, e⟩
    · exact ⟨m, by omega, h⟩
/-- The numbers are of their kinds. -/
structure BoxOk : Prop where
  a : ∀ i, -32768 ≤ at0 l0 i ∧ at0 l0 i ≤ 32767
  b : ∀ i, 0 ≤ at0 l1 i ∧ at0 l1 i ≤ 65535
  c : ∀ i, 0 ≤ at0 l2 i ∧ at0 l2 i ≤ 255
  n : l0.length ≤ 4
  n1 : l0.length ≤ l1.length
  n2 : l0.length ≤ l2.length
variable {l0 l1 l2}
theorem BoxOk.k (h : BoxOk l0 l1 l2) (i : Nat) : 1 ≤ kB l2 i ∧ kB l2 i ≤ 256 := by have := h.c i; unfold kB; omega
theorem box_rows (h : BoxOk l0 l1 l2) : ∀ (d i k : Nat), i + d = l0.length → furrowlaw15_SysBox.l0 (k + d) l0 l1 l2 (i : Int) (l0.length : Int) (rowsB l0 l1 l2 i) = furrowlaw15_SysBox.l0 k l0 l1 l2 (l0.length : Int) (l0.length : Int) (rowsB l0 l1 l2 l0.length) := by
  intro d
  induction d with
  | zero =>
    intro i k hi
    have : i = l0.length := by omega
    subst this
    rfl
  | succ d ih =>
    intro i k hi
    have hlt : i < l0.length := by omega
    have h1 := h.n
    have h2 := h.n1
    have h3 := h.n2
    have ha := h.a i
    have hb := h.b i
    have hc := h.c i
    have hl := rowsB_len l0 l1 l2 i
    rw [show k + (d + 1) = k + d + 1 by omega]
    conv => lhs; simp only [furrowlaw15_SysBox.l0]
    rw [if_pos (by omega), if_pos (by omega), if_pos (by omega), if_pos (by omega), if_pos (by omega), Option.bind_some, Option.bind_some, if_pos (by omega), Int.toNat_natCast, Int.toNat_natCast, if_pos (by simp; omega), if_pos (by simp; omega), Option.bind_some, if_pos (by simp; omega)]
    rw [rd_at0, rd_at0, rd_at0, w64 (a := at0 l2 i) (by omega), w64 (a := 1 + at0 l2 i) (by omega), w64 (a := at0 l0 i) (by omega), w64 (a := -at0 l0 i) (by omega), w64 (a := at0 l1 i) (by omega), w64 (a := at0 l0 i + at0 l1 i) (by omega), w64 (a := -(1 + at0 l2 i)) (by omega), w_succ hlt (by omega)]
    exact ih (i + 1) k (by omega)
/-- The least number of turns that is enough, and the greatest that is not too many. -/
def cQ (a k : Int) : Int := if Int.tmod a k = 0 then a / k else a / k + 1
theorem cQ_spec {a k : Int} (hk : 1 ≤ k ∧ k ≤ 256) (ha : -32768 ≤ a ∧ a ≤ 32767) : a ≤ k * cQ a k ∧ k * (cQ a k - 1) < a ∧ -32769 ≤ cQ a k ∧ cQ a k ≤ 32768 := by
  have he := Int.emod_add_mul_ediv a k
  have hr := Int.emod_nonneg a (b := k) (by omega)
  have hr2 := Int.emod_lt_of_pos a (b := k) (by omega)
  have hm : Int.tmod a k = 0 ↔ a % k = 0 := by rw [← Int.dvd_iff_tmod_eq_zero, Int.dvd_iff_emod_eq_zero]
  have hq : -32768 ≤ a / k ∧ a / k ≤ 32767 := by
    constructor
    · refine (Int.le_ediv_iff_mul_le (by omega)).2 ?_
      have : k * 32768 ≥ 32768 := by omega
      omega
    · exact Int.le_trans (Int.ediv_le_ediv (by omega) ha.2) (Int.ediv_le_self _ (by omega))
  unfold cQ
  by_cases h : Int.tmod a k = 0
  · rw [if_pos h]
    have := hm.1 h
    have h2 : k * (a / k - 1) = k * (a / k) - k := by rw [Int.mul_sub, Int.mul_one]
    omega
  · rw [if_neg h]
    have : a % k ≠ 0 := fun z => h (hm.2 z)
    have h2 : k * (a / k + 1) = k * (a / k) + k := by rw [Int.mul_add, Int.mul_one]
    have h3 : a / k + 1 - 1 = a / k := by omega
    rw [h2, h3]
    omega
theorem fQ_spec {b k : Int} (hk : 1 ≤ k ∧ k ≤ 256) (hb : -32768 ≤ b ∧ b ≤ 98302) : k * (b / k) ≤ b ∧ b < k * (b / k + 1) ∧ -32768 ≤ b / k ∧ b / k ≤ 98302 := by
  have he := Int.emod_add_mul_ediv b k
  have hr := Int.emod_nonneg b (b := k) (by omega)
  have hr2 := Int.emod_lt_of_pos b (b := k) (by omega)
  have h2 : k * (b / k + 1) = k * (b / k) + k := by rw [Int.mul_add, Int.mul_one]
  have hq : -32768 ≤ b / k ∧ b / k ≤ 98302 := by
    constructor
    · refine (Int.le_ediv_iff_mul_le (by omega)).2 ?_
      have : k * 32768 ≥ 32768 := by omega
      omega
    · exact Int.le_trans (Int.ediv_le_ediv (by omega) hb.2) (Int.ediv_le_self _ (by omega))
  omega
theorem takeA {lo hi k a : Int} {be : Bool} (hk : 1 ≤ k ∧ k ≤ 256) (ha : -32768 ≤ a ∧ a ≤ 32767) : H.sys_span_take.f lo hi false be k (-a) = some (cQ a k, hi, true, be) := by
  unfold H.sys_span_take.f
  have hc := (cQ_spec hk ha).2.2
  rw [if_pos (by omega), w64 (a := -(-a)) (by omega), Int.neg_neg]
  unfold num_Ceil.f
  have hf : num_Floor.f 5 a k = some (a / k, true) := floor_spec (by omega) (by omega) (by omega)
  rw [hf, Option.bind_some]
  simp only [if_true]
  rw [if_neg (by omega)]
  unfold cQ at hc ⊢
  by_cases h : Int.tmod a k = 0
  · rw [if_pos h] at hc ⊢; simp [loS, h]
  · rw [if_neg h] at hc ⊢; rw [if_neg h, w64 (by omega)]; simp [loS]
theorem takeB {lo hi k b : Int} {ab : Bool} (hk : 1 ≤ k ∧ k ≤ 256) (hb : -32768 ≤ b ∧ b ≤ 98302) : H.sys_span_take.f lo hi ab false (-k) b = some (lo, b / k, ab, true) := by
  unfold H.sys_span_take.f
  rw [if_neg (by omega), w64 (a := -(-k)) (by omega), Int.neg_neg]
  have hf : num_Floor.f 5 b k = some (b / k, true) := floor_spec (by omega) (by omega) (by omega)
  rw [hf, Option.bind_some]
  simp [hiS]
variable (l0 l1 l2)
/-- What is known of variable j behind m rows. -/
def spB (m j : Nat) : S92 := ⟨if 2 * j < m then cQ (at0 l0 j) (kB l2 j) else 0, if 2 * j + 1 < m then (at0 l0 j + at0 l1 j) / kB l2 j else 0, decide (2 * j < m), decide (2 * j + 1 < m)⟩
def spansB (m : Nat) : List S92 := (List.range l0.length).map (spB l0 l1 l2 m)
variable {l0 l1 l2}
theorem spans_len (m : Nat) : (spansB l0 l1 l2 m).length = l0.length := by unfold spansB; simp
theorem spans_get {m j : Nat} (h : j < (spansB l0 l1 l2 m).length) : (spansB l0 l1 l2 m)[j] = spB l0 l1 l2 m j := by
  have key : ∀ (L : List S92) (_ : L = (List.range l0.length).map (spB l0 l1 l2 m)) (h : j < L.length), L[j] = spB l0 l1 l2 m j := by
    intro L hL h
    subst hL
    rw [List.getElem_map, List.getElem_range]
  exact key _ rfl h
theorem spans_set {m i : Nat} {s : S92} (hi : i < l0.length) (hs : s = spB l0 l1 l2 (m + 1) i) (ho : ∀ j, j ≠ i → spB l0 l1 l2 m j = spB l0 l1 l2 (m + 1) j) : (spansB l0 l1 l2 m).set i s = spansB l0 l1 l2 (m + 1) := by
  refine List.ext_getElem (by rw [List.length_set, spans_len, spans_len]) fun j h1 h2 => ?_
  rw [List.getElem_set, spans_get h2]
  by_cases e : i = j
  · rw [if_pos e, hs, e]
  · rw [if_neg e, spans_get (by rwa [List.length_set] at h1)]
    exact ho j (fun z => e z.symm)
theorem spB_other {m i j : Nat} (h : j ≠ i) (hm : m = 2 * i ∨ m = 2 * i + 1) : spB l0 l1 l2 m j = spB l0 l1 l2 (m + 1) j := by
  unfold spB
  have e1 : (2 * j < m) = (2 * j < m + 1) := propext (by omega)
  have e2 : (2 * j + 1 < m) = (2 * j + 1 < m + 1) := propext (by omega)
  simp only [e1, e2]
theorem box_l1 (h : BoxOk l0 l1 l2) : ∀ (d m k : Nat), m + d = 2 * l0.length → 40 ≤ k → sys_Bounds.l1 (k + d) (spansB l0 l1 l2 m) (rowsB l0 l1 l2 l0.length) ((rowsB l0 l1 l2 l0.length).length : Int) (m : Int) = sys_Bounds.l1 k (spansB l0 l1 l2 (2 * l0.length)) (rowsB l0 l1 l2 l0.length) ((rowsB l0 l1 l2 l0.length).length : Int) ((2 * l0.length : Nat) : Int) := by
  have hl := rowsB_len l0 l1 l2 l0.length
  have hn := h.n
  intro d
  induction d with
  | zero =>
    intro m k hm hk
    have : m = 2 * l0.length := by omega
    subst this
    rfl
  | succ d ih =>
    intro m k hm hk
    have hlt : m < (rowsB l0 l1 l2 l0.length).length := by omega
    rw [show k + (d + 1) = k + d + 1 by omega]
    conv => lhs; simp only [sys_Bounds.l1]
    rw [if_pos (by omega), if_pos (by omega), if_pos (by omega), rd59_at _ m hlt, w_succ hlt (by omega)]
    obtain ⟨i, hi⟩ : ∃ i, m = 2 * i ∨ m = 2 * i + 1 := ⟨m / 2, by omega⟩
    have hil : i < l0.length := by omega
    obtain ⟨g1, g2⟩ := rowsB_get l0 l1 l2 l0.length i hil
    have hk2 := h.k i
    have ha := h.a i
    have hb := h.b i
    have hsl := spans_len (l0 := l0) (l1 := l1) (l2 := l2) m
    rcases hi with hi | hi
    · have e : (rowsB l0 l1 l2 l0.length)[m] = rowA l0 l2 i := by
        rw [← hi, List.getElem?_eq_getElem hlt] at g1
        exact Option.some.inj g1
      rw [e]
      show ((sys_alone.f (k + d) (unitL l0.length i (kB l2 i)) (-at0 l0 i)).bind _) = _
      rw [alone_unit _ i _ _ (by omega) hil (by omega) _ (by omega), Option.bind_some, if_pos (by omega), if_pos (by omega), if_pos (by omega)]
      have hu : i < (rowA l0 l2 i).f0.length := by show i < (unitL _ _ _).length; rw [unit_len]; exact hil
      rw [if_pos (by omega), rd92_at _ i (by omega), spans_get (by omega), rd_at _ i hu]
      have hv : (rowA l0 l2 i).f0[i] = kB l2 i := (unit_get (N := l0.length) (i := i) (j := i) (k := kB l2 i) hu).trans (if_pos rfl)
      have hs : spB l0 l1 l2 m i = ⟨0, 0, false, false⟩ := by unfold spB; rw [if_neg (by omega), if_neg (by omega), decide_eq_false (by omega), decide_eq_false (by omega)]
      rw [hv, hs]
      show ((H.sys_span_take.f 0 0 false false (kB l2 i) (-at0 l0 i)).bind _) = _
      rw [takeA hk2 ha, Option.bind_some, Int.toNat_natCast]
      dsimp only
      rw [spans_set hil (by unfold spB; rw [if_pos (by omega), if_neg (by omega), decide_eq_true (by omega), decide_eq_false (by omega)]) (fun j hj => spB_other hj (.inl hi))]
      exact ih (m + 1) k (by omega) hk
    · have e : (rowsB l0 l1 l2 l0.length)[m] = rowB l0 l1 l2 i := by
        rw [← hi, List.getElem?_eq_getElem hlt] at g2
        exact Option.some.inj g2
      rw [e]
      show ((sys_alone.f (k + d) (unitL l0.length i (-kB l2 i)) (at0 l0 i + at0 l1 i)).bind _) = _
      rw [alone_unit _ i _ _ (by omega) hil (by omega) _ (by omega), Option.bind_some, if_pos (by omega), if_pos (by omega), if_pos (by omega)]
      have hu : i < (rowB l0 l1 l2 i).f0.length := by show i < (unitL _ _ _).length; rw [unit_len]; exact hil
      rw [if_pos (by omega), rd92_at _ i (by omega), spans_get (by omega), rd_at _ i hu]
      have hv : (rowB l0 l1 l2 i).f0[i] = -kB l2 i := (unit_get (N := l0.length) (i := i) (j := i) (k := -kB l2 i) hu).trans (if_pos rfl)
      have hs : spB l0 l1 l2 m i = ⟨cQ (at0 l0 i) (kB l2 i), 0, true, false⟩ := by unfold spB; rw [if_pos (by omega), if_neg (by omega), decide_eq_true (by omega), decide_eq_false (by omega)]
      rw [hv, hs]
      show ((H.sys_span_take.f (cQ (at0 l0 i) (kB l2 i)) 0 true false (-kB l2 i) (at0 l0 i + at0 l1 i)).bind _) = _
      rw [takeB hk2 (by omega), Option.bind_some, Int.toNat_natCast]
      dsimp only
      rw [spans_set hil (by unfold spB; rw [if_pos (by omega), if_pos (by omega), decide_eq_true (by omega), decide_eq_true (by omega)]) (fun j hj => spB_other hj (.inr hi))]
      exact ih (m + 1) k (by omega) hk
variable (l0 l1 l2)
def loB (i : Nat) : List Int := (List.range i).map fun j => cQ (at0 l0 j) (kB l2 j)
def hiB (i : Nat) : List Int := (List.range i).map fun j => (at0 l0 j + at0 l1 j) / kB l2 j
variable {l0 l1 l2}
theorem near {x : Int} (h : -32769 ≤ x ∧ x ≤ 98302) : H.sys_far.f x = some false := by
  unfold H.sys_far.f
  rw [if_neg (by omega), decide_eq_false (by omega)]
theorem box_l2 (h : BoxOk l0 l1 l2) : ∀ (d i k : Nat), i + d = l0.length → d < k → sys_Bounds.l2 k (loB l0 l2 i) (hiB l0 l1 l2 i) (spansB l0 l1 l2 (2 * l0.length)) ((spansB l0 l1 l2 (2 * l0.length)).length : Int) (i : Int) = some (loB l0 l2 l0.length, hiB l0 l1 l2 l0.length, true) := by
  have hsl := spans_len (l0 := l0) (l1 := l1) (l2 := l2) (2 * l0.length)
  have hn := h.n
  intro d
  induction d with
  | zero =>
    intro i k hi hk
    obtain ⟨k, rfl⟩ : ∃ m, k = m + 1 := ⟨k - 1, by omega⟩
    have : i = l0.length := by omega
    subst this
    simp only [sys_Bounds.l2]
    rw [if_neg (by omega)]
  | succ d ih =>
    intro i k hi hk
    obtain ⟨k, rfl⟩ : ∃ m, k = m + 1 := ⟨k - 1, by omega⟩
    have hlt : i < (spansB l0 l1 l2 (2 * l0.length)).length := by omega
    have hs : spB l0 l1 l2 (2 * l0.length) i = ⟨cQ (at0 l0 i) (kB l2 i), (at0 l0 i + at0 l1 i) / kB l2 i, true, true⟩ := by unfold spB; rw [if_pos (by omega), if_pos (by omega), decide_eq_true (by omega), decide_eq_true (by omega)]
    have ha := h.a i
    have hb := h.b i
    have c1 := cQ_spec (h.k i) (h.a i)
    have c2 := fQ_spec (b := at0 l0 i + at0 l1 i) (h.k i) (by omega)
    have z1 : (loB l0 l2 i).length = i := by unfold loB; simp
    have z2 : (hiB l0 l1 l2 i).length = i := by unfold hiB; simp
    simp only [sys_Bounds.l2]
    rw [if_pos (by omega), if_pos (by omega), if_pos (by omega), rd92_at _ i hlt, spans_get hlt, hs, if_pos rfl, if_pos rfl]
    dsimp only
    rw [near (by omega), Option.bind_some, if_neg (by simp), near (by omega), Option.bind_some, if_neg (by simp), Option.bind_some, if_pos (by simp; omega), Option.bind_some, if_pos (by simp; omega), w_succ hlt (by omega)]
    have e1 : loB l0 l2 i ++ [cQ (at0 l0 i) (kB l2 i)] = loB l0 l2 (i + 1) := by unfold loB; rw [List.range_succ, List.map_append]; rfl
    have e2 : hiB l0 l1 l2 i ++ [(at0 l0 i + at0 l1 i) / kB l2 i] = hiB l0 l1 l2 (i + 1) := by unfold hiB; rw [List.range_succ, List.map_append]; rfl
    rw [e1, e2]
    exact ih (i + 1) k (by omega) (by omega)
theorem box_bounds (h : BoxOk l0 l1 l2) (k : Nat) (hk : 100 ≤ k) : sys_Bounds.f k (l0.length : Int) [] (rowsB l0 l1 l2 l0.length) = some (loB l0 l2 l0.length, hiB l0 l1 l2 l0.length, true) := by
  have hn := h.n
  have hm : mx (l0.length : Int) 0 = (l0.length : Int) := by unfold mx; split <;> omega
  have hl := rowsB_len l0 l1 l2 l0.length
  have h0 : List.replicate l0.length z92 = spansB l0 l1 l2 0 := by
    refine List.ext_getElem (by simp [spans_len]) fun j h1 h2 => ?_
    rw [List.getElem_replicate, spans_get h2]
    rfl
  unfold H.sys_Bounds.f
  rw [hm, if_pos (by omega), if_pos (by omega), Int.toNat_natCast, h0]
  obtain ⟨k, rfl⟩ : ∃ m, k = m + 1 := ⟨k - 1, by omega⟩
  simp only [sys_Bounds.l0]
  rw [if_neg (by simp)]
  have h1 := box_l1 h (2 * l0.length) 0 (k - 2 * l0.length) (by omega) (by omega)
  rw [show k - 2 * l0.length + 2 * l0.length = k by omega] at h1
  refine Eq.trans h1 ?_
  obtain ⟨q, hq⟩ : ∃ m, k - 2 * l0.length = m + 1 := ⟨k - 2 * l0.length - 1, by omega⟩
  rw [hq]
  simp only [sys_Bounds.l1]
  rw [if_neg (by omega)]
  exact box_l2 h l0.length 0 q (by omega) (by omega)
theorem box_ok (h : BoxOk l0 l1 l2) : ∀ f ∈ rowsB l0 l1 l2 l0.length, okF l0.length f := by
  intro f hf
  obtain ⟨i, hi, e⟩ := rowsB_mem l0 l1 l2 l0.length f hf
  have hk := h.k i
  have ha := h.a i
  have hb := h.b i
  rcases e with rfl | rfl
  · refine ⟨unit_len _ _ _, fun c hc => ?_, ?_⟩
    · rcases unit_mem hc with rfl | rfl <;> unfold inC <;> omega
    · show inC (-at0 l0 i); unfold inC; omega
  · refine ⟨unit_len _ _ _, fun c hc => ?_, ?_⟩
    · rcases unit_mem hc with rfl | rfl <;> unfold inC <;> omega
    · show inC (at0 l0 i + at0 l1 i); unfold inC; omega
end
/-! what is well told passes the document's check -/
theorem CheckOk_l1 (N : Int) (E G L : List S65) (i : Nat) (hi : i < L.length) (hL : L.length ≤ 1000) (hN : 0 ≤ N ∧ N ≤ 16) (hlen : (L[i].f0.length : Int) = N) (hc : ∀ c ∈ L[i].f0, inC c) : ∀ (d j k : Nat), j + d = L[i].f0.length →
    furrowref20_Check.l1 (k + d + 1) L (i : Int) false (j : Int) N E G = furrowref20_Check.l0 k L ((i + 1 : Nat) : Int) N E G := by
  intro d
  induction d with
  | zero =>
    intro j k hj
    simp only [Nat.add_zero]
    conv => lhs; simp only [furrowref20_Check.l1]
    rw [if_neg (by omega), if_neg (by simp), w_succ hi (by omega)]
  | succ d ih =>
    intro j k hj
    have hlt : j < L[i].f0.length := by omega
    rw [show k + (d + 1) + 1 = k + d + 1 + 1 by omega]
    have hih := ih (j + 1) k (by omega)
    generalize k + d + 1 = K at *
    conv => lhs; simp only [furrowref20_Check.l1]
    rw [if_pos (by omega), if_neg (by simp), if_pos (by omega), if_pos (by omega), if_pos (by omega), rd65_at L i hi, if_pos (by omega), rd_at _ j hlt, beyond_spec, Option.bind_some, w_succ (n := L[i].f0.length) hlt (by omega), decide_eq_true (hc _ (List.getElem_mem hlt))]
    exact hih
theorem CheckOk_l0 (N : Int) (E G L : List S65) (hL : L.length ≤ 1000) (hN : 0 ≤ N ∧ N ≤ 16) (hok : ∀ f ∈ L, okR N f) : ∀ (d i k : Nat), i + d = L.length → 20 * d < k → furrowref20_Check.l0 k L (i : Int) N E G = some ([], 0) := by
  intro d
  induction d with
  | zero =>
    intro i k hi hk
    obtain ⟨k, rfl⟩ : ∃ m, k = m + 1 := ⟨k - 1, by omega⟩
    simp only [furrowref20_Check.l0]
    rw [if_neg (by omega)]
  | succ d ih =>
    intro i k hi hk
    obtain ⟨k, rfl⟩ : ∃ m, k = m + 1 := ⟨k - 1, by omega⟩
    have hlt : i < L.length := by omega
    obtain ⟨o1, o2, o3⟩ := hok _ (List.getElem_mem hlt)
    simp only [furrowref20_Check.l0]
    rw [if_pos (by omega), if_pos (by omega), rd65_at L i hlt, if_pos o1, beyond_spec, Option.bind_some, decide_eq_true o3]
    have h := CheckOk_l1 N E G L i hlt hL hN o1 o2 L[i].f0.length 0 (k - L[i].f0.length - 1) (by omega)
    rw [show k - L[i].f0.length - 1 + L[i].f0.length + 1 = k by omega] at h
    refine Eq.trans h (ih (i + 1) _ (by omega) (by omega))
theorem CheckOk (n : Int) (eq ge : List S59) (hn : 0 ≤ n ∧ n ≤ 16) (le : eq.length + ge.length ≤ 64) (he : ∀ f ∈ eq, okF n.toNat f) (hg : ∀ f ∈ ge, okF n.toNat f) (k : Nat) (hk : 5000 ≤ k) : furrowref20_Check.f k n (eq.map toR) (ge.map toR) = some ([], 0) := by
  obtain ⟨k, rfl⟩ : ∃ m, k = m + 1 := ⟨k - 1, by omega⟩
  unfold furrowref20_Check.f
  rw [if_neg (by omega), decide_eq_false (by omega)]
  simp only [furrowref20_Check.j0, furrowref20_all.f, Option.bind_some, List.nil_append, List.length_nil, List.length_map]
  rw [if_neg (by simp), if_pos (by omega), if_pos (by omega), Option.bind_some, if_neg (by simp; omega)]
  refine CheckOk_l0 n _ _ _ (by simp; omega) hn (fun f hf => ?_) _ 0 k (Nat.zero_add _) (by simp; omega)
  have key : ∀ (g : S59), okF n.toNat g → okR n (toR g) := fun g h => ⟨by have := h.1; show (g.f0.length : Int) = n; omega, h.2.1, h.2.2⟩
  rcases List.mem_append.1 hf with hf | hf
  · obtain ⟨g, hg1, rfl⟩ := List.mem_map.1 hf
    exact key g (he g hg1)
  · obtain ⟨g, hg1, rfl⟩ := List.mem_map.1 hf
    exact key g (hg g hg1)
theorem box_test {l0 l1 l2 : List Int} (h : BoxOk l0 l1 l2) : ∀ (d i k : Nat), i + d = l0.length → 6000 + d ≤ k → furrowlaw15_SysBox.l1 k l0 l1 l2 (loB l0 l2 l0.length) (hiB l0 l1 l2 l0.length) (i : Int) (l0.length : Int) (rowsB l0 l1 l2 l0.length) = some true := by
  have hn := h.n
  have h1 := h.n1
  have h2 := h.n2
  have z1 : (loB l0 l2 l0.length).length = l0.length := by unfold loB; simp
  have z2 : (hiB l0 l1 l2 l0.length).length = l0.length := by unfold hiB; simp
  have hl := rowsB_len l0 l1 l2 l0.length
  intro d
  induction d with
  | zero =>
    intro i k hi hk
    obtain ⟨k, rfl⟩ : ∃ m, k = m + 1 := ⟨k - 1, by omega⟩
    simp only [furrowlaw15_SysBox.l1]
    rw [if_neg (by omega), Of_spec (l0.length : Int) [] _ (by simp) (by omega) k (by omega), Option.bind_some]
    simp only []
    rw [CheckOk (l0.length : Int) [] _ (by omega) (by simp; omega) (by simp) (by rw [Int.toNat_natCast]; exact box_ok h) k (by omega), Option.bind_some]
    rfl
  | succ d ih =>
    intro i k hi hk
    obtain ⟨k, rfl⟩ : ∃ m, k = m + 1 := ⟨k - 1, by omega⟩
    have hlt : i < l0.length := by omega
    have ha := h.a i
    have hb := h.b i
    have hc := h.c i
    have hk2 := h.k i
    have c1 := cQ_spec (h.k i) (h.a i)
    have c2 := fQ_spec (b := at0 l0 i + at0 l1 i) (h.k i) (by omega)
    have g1 : rd (loB l0 l2 l0.length) (i : Int) = cQ (at0 l0 i) (kB l2 i) := by rw [rd_at _ i (by omega)]; unfold loB; simp
    have g2 : rd (hiB l0 l1 l2 l0.length) (i : Int) = (at0 l0 i + at0 l1 i) / kB l2 i := by rw [rd_at _ i (by omega)]; unfold hiB; simp
    have hw : wrap64 (1 + wrap64 (at0 l2 i)) = kB l2 i := by rw [w64 (a := at0 l2 i) (by omega), w64 (by omega)]; rfl
    have bd : ∀ (k x : Int), 1 ≤ k ∧ k ≤ 256 → -40000 ≤ x ∧ x ≤ 100000 → -30000000 ≤ k * x ∧ k * x ≤ 30000000 := fun k x hk hx => by
      have h1 : (k * x).natAbs ≤ 256 * 100000 := by rw [Int.natAbs_mul]; exact Nat.mul_le_mul (by omega) (by omega)
      omega
    simp only [furrowlaw15_SysBox.l1]
    rw [if_pos (by omega), if_pos (by omega), if_pos (by omega), if_pos (by omega), rd_at0 l2, rd_at0 l0, rd_at0 l1, g1, g2, hw, w64 (a := at0 l0 i) (by omega), w64 (a := at0 l1 i) (by omega), w64 (a := at0 l0 i + at0 l1 i) (by omega)]
    generalize hq : cQ (at0 l0 i) (kB l2 i) = q at *
    generalize hr : (at0 l0 i + at0 l1 i) / kB l2 i = r at *
    generalize kB l2 i = c at *
    have b1 := bd c q hk2 (by omega)
    have b2 := bd c (q - 1) hk2 (by omega)
    have b3 := bd c r hk2 (by omega)
    have b4 := bd c (r + 1) hk2 (by omega)
    rw [w64 (a := q - 1) (by omega), w64 (a := r + 1) (by omega), w64 (a := c * q) (by omega), w64 (a := c * (q - 1)) (by omega), w64 (a := c * r) (by omega), w64 (a := c * (r + 1)) (by omega), if_neg (by omega), if_neg (by omega), if_pos (by omega), if_pos (by omega), if_neg (by omega), if_neg (by omega), w_succ hlt (by omega)]
    exact ih (i + 1) k (by omega) (by omega)
theorem i16_of {a : Int} (h : (Lit.int .i16 a).wf = true) : -32768 ≤ a ∧ a ≤ 32767 := by
  simp only [Lit.wf, IntKind.min, IntKind.max, IntKind.signed, IntKind.bits, Bool.and_eq_true, decide_eq_true_eq, if_true] at h
  omega
theorem u16_of {a : Int} (h : (Lit.int .u16 a).wf = true) : 0 ≤ a ∧ a ≤ 65535 := by
  simp only [Lit.wf, IntKind.min, IntKind.max, IntKind.signed, IntKind.bits, Bool.and_eq_true, decide_eq_true_eq] at h
  simp at h
  omega
theorem u8_of {a : Int} (h : (Lit.int .u8 a).wf = true) : 0 ≤ a ∧ a ≤ 255 := by
  simp only [Lit.wf, IntKind.min, IntKind.max, IntKind.signed, IntKind.bits, Bool.and_eq_true, decide_eq_true_eq] at h
  simp at h
  omega
theorem at0_mem (l : List Int) (i : Nat) : at0 l i = 0 ∨ at0 l i ∈ l := by
  by_cases h : i < l.length
  · right; rw [at0_get h]; exact List.getElem_mem h
  · left; unfold at0; rw [List.getD_eq_getElem?_getD, List.getElem?_eq_none (by omega)]; rfl
theorem SysBox : furrowlaw15_SysBox.Pure := by
  intro l0 l1 l2 _ _ h0 _ _ h1 _ _ h2
  refine ⟨10000, ?_⟩
  unfold furrowlaw15_SysBox.f
  rw [known15_more (by omega), Option.bind_some, if_pos rfl]
  have hskip : ∀ k, furrowlaw15_SysBox.j0 (k + 1) l0 l1 l2 true = some true := fun k => by simp only [furrowlaw15_SysBox.j0]; rw [if_pos trivial]
  obtain ⟨k, hk⟩ : ∃ k, 10000 = k + 1 := ⟨9999, rfl⟩
  rw [hk]
  by_cases c1 : (l0.length : Int) > 4
  · rw [if_pos c1]; exact hskip k
  · rw [if_neg c1]
    by_cases c2 : (l1.length : Int) < (l0.length : Int)
    · rw [if_pos c2]; exact hskip k
    · rw [if_neg c2]
      by_cases c3 : (l2.length : Int) < (l0.length : Int)
      · rw [decide_eq_true c3]; exact hskip k
      · rw [decide_eq_false c3]
        have hb : BoxOk l0 l1 l2 := ⟨fun i => by rcases at0_mem l0 i with h | h; · omega
                                                 · exact i16_of (h0 _ h), fun i => by rcases at0_mem l1 i with h | h; · omega
                                                                                      · exact u16_of (h1 _ h), fun i => by rcases at0_mem l2 i with h | h; · omega
                                                                                                                           · exact u8_of (h2 _ h), by omega, by omega, by omega⟩
        have z1 : (loB l0 l2 l0.length).length = l0.length := by unfold loB; simp
        have z2 : (hiB l0 l1 l2 l0.length).length = l0.length := by unfold hiB; simp
        simp only [furrowlaw15_SysBox.j0]
        rw [if_neg (by simp)]
        have hr := box_rows hb l0.length 0 (k - l0.length) (by omega)
        rw [show k - l0.length + l0.length = k by omega] at hr
        refine Eq.trans hr ?_
        obtain ⟨q, hq⟩ : ∃ m, k - l0.length = m + 1 := ⟨k - l0.length - 1, by omega⟩
        rw [hq]
        conv => lhs; simp only [furrowlaw15_SysBox.l0]
        rw [if_neg (by omega), box_bounds hb q (by omega), Option.bind_some]
        simp only [if_true]
        rw [if_pos (by omega), z2, show ((l0.length : Int) != (l0.length : Int)) = false from by simp]
        obtain ⟨p, hp⟩ : ∃ m, q = m + 1 := ⟨q - 1, by omega⟩
        rw [hp]
        simp only [furrowlaw15_SysBox.j2]
        rw [if_neg (by simp)]
        exact box_test hb l0.length 0 p (by omega) (by omega)

end Go.Proofs.YtkkpgjkjkcmcbaaDoor.Pure
