/- NumGcd: what divides both divides them, and two of which one is a multiple of the other have the lesser one's size; no conditions. -/
import Derived.Test.YtfjfgcnbokefbaaPNumGcdx2
import Derived.Laws.Bits64
namespace Go.Proofs.Ytfjfgcnbokefbaa.Pure
open Go.RowKit Go.Proofs.Ytfjfgcnbokefbaa.PNumGcd Go.Proofs.YtfjfgcnbokefbaaW.PrintWords Go.Proofs.YtfjfgcnbokefbaaW.PrintLast

namespace NumGcd
/-! numbers -/
theorem i64_of {a : Int} (h : (Lit.int .i64 a).wf = true) : -9223372036854775808 ≤ a ∧ a ≤ 9223372036854775807 := by
  simp only [Lit.wf, IntKind.min, IntKind.max, IntKind.signed, IntKind.bits, Bool.and_eq_true, decide_eq_true_eq, if_true] at h
  omega
theorem w64 {a : Int} (h : -9223372036854775808 ≤ a ∧ a ≤ 9223372036854775807) : wrap64 a = a := by unfold wrap64; omega
theorem size_spec {a : Int} (h : -9223372036854775808 ≤ a ∧ a ≤ 9223372036854775807) : num_size.f a = some (a.natAbs : Int) := by
  unfold num_size.f; simp only [IntKind.wrap_u64]; split <;> (congr 1; omega)
theorem way_neg {a b c : Int} (hc : c < 0) (h : -9223372036854775808 ≤ c) : num_way.f a b c = some ((a - b) % 18446744073709551616, (c.natAbs : Int), decide (a ≥ b)) := by
  unfold num_way.f; rw [if_pos hc, size_spec ⟨h, by omega⟩]; simp only [Option.bind_some, IntKind.wrap_u64]; congr 2; omega
theorem way_pos {a b c : Int} (hc : 0 < c) (h : c ≤ 9223372036854775807) : num_way.f a b c = some ((b - a) % 18446744073709551616, (c.natAbs : Int), decide (b ≥ a)) := by
  unfold num_way.f; rw [if_neg (by omega), if_pos hc, size_spec ⟨by omega, h⟩]; simp only [Option.bind_some, IntKind.wrap_u64]; congr 2; omega
theorem way_zero {a b : Int} : num_way.f a b 0 = some (0, 0, false) := rfl
/-- does a loop go? -/
def goes (a b c : Int) : Prop := (0 < c ∧ a ≤ b) ∨ (c < 0 ∧ b ≤ a)
theorem way_on {a b c : Int} (ha : -9223372036854775808 ≤ a ∧ a ≤ 9223372036854775807) (hb : -9223372036854775808 ≤ b ∧ b ≤ 9223372036854775807) (hc : -9223372036854775808 ≤ c ∧ c ≤ 9223372036854775807) (h : goes a b c) :
    num_way.f a b c = some (((b - a).natAbs : Int), (c.natAbs : Int), true) := by
  rcases h with ⟨h, h'⟩ | ⟨h, h'⟩
  · rw [way_pos h hc.2]; congr 2
    · omega
    · congr 1; exact decide_eq_true h'
  · rw [way_neg h hc.1]; congr 2
    · omega
    · congr 1; exact decide_eq_true h'
theorem way_off {a b c : Int} (hc : -9223372036854775808 ≤ c ∧ c ≤ 9223372036854775807) (h : ¬ goes a b c) :
    ∃ x y, num_way.f a b c = some (x, y, false) := by
  unfold goes at h
  rcases Int.lt_trichotomy c 0 with h0 | h0 | h0
  · exact ⟨_, _, by rw [way_neg h0 hc.1]; congr 3; exact decide_eq_false (by omega)⟩
  · subst h0; exact ⟨_, _, rfl⟩
  · exact ⟨_, _, by rw [way_pos h0 hc.2]; congr 3; exact decide_eq_false (by omega)⟩
instance (a b c : Int) : Decidable (goes a b c) := by unfold goes; infer_instance
def times (a b c : Int) : Int := if goes a b c then (if (b - a).natAbs / c.natAbs = 18446744073709551615 then 18446744073709551615 else (((b - a).natAbs / c.natAbs : Nat) : Int) + 1) else 0
def last (a b c : Int) : Int := if goes a b c then a + (((b - a).natAbs / c.natAbs : Nat) : Int) * c else a
theorem goes_c {a b c : Int} (h : goes a b c) : 1 ≤ c.natAbs := by unfold goes at h; omega
theorem goes_q {a b c : Int} (ha : -9223372036854775808 ≤ a ∧ a ≤ 9223372036854775807) (hb : -9223372036854775808 ≤ b ∧ b ≤ 9223372036854775807) : (b - a).natAbs / c.natAbs ≤ 18446744073709551615 :=
  Nat.le_trans (Nat.div_le_self _ _) (by omega)
theorem times_spec {a b c : Int} (ha : -9223372036854775808 ≤ a ∧ a ≤ 9223372036854775807) (hb : -9223372036854775808 ≤ b ∧ b ≤ 9223372036854775807) (hc : -9223372036854775808 ≤ c ∧ c ≤ 9223372036854775807) :
    num_Times.f a b c = some (times a b c) := by
  unfold num_Times.f times
  by_cases h : goes a b c
  · have h1 := goes_c h
    have hq := @goes_q a b c ha hb
    rw [way_on ha hb hc h, if_pos h]
    simp only [Option.bind_some, if_true, IntKind.wrap_u64]
    rw [if_neg (by omega), Int.tdiv_eq_ediv_of_nonneg (by omega), ← Int.natCast_ediv]
    generalize (b - a).natAbs / c.natAbs = q at *
    by_cases e : q = 18446744073709551615
    · subst e; rfl
    · rw [if_neg (by omega), if_neg e]; congr 1; omega
  · obtain ⟨x, y, e⟩ := way_off hc h
    rw [e, if_neg h]; rfl
theorem last_mul {a b c : Int} (h : goes a b c) : (((b - a).natAbs / c.natAbs : Nat) : Int) * c = (if c < 0 then -1 else 1) * (((b - a).natAbs : Int) - (((b - a).natAbs % c.natAbs : Nat) : Int)) := by
  have e := Nat.div_add_mod (b - a).natAbs c.natAbs
  have e' : (c.natAbs : Int) * (((b - a).natAbs / c.natAbs : Nat) : Int) + (((b - a).natAbs % c.natAbs : Nat) : Int) = ((b - a).natAbs : Int) := by exact_mod_cast e
  rw [Int.mul_comm]
  rcases h with ⟨h, _⟩ | ⟨h, _⟩
  · rw [if_neg (by omega)]
    have hc : (c.natAbs : Int) = c := by omega
    rw [hc] at e'; omega
  · rw [if_pos h]
    have hc : c = -(c.natAbs : Int) := by omega
    generalize (c.natAbs : Int) = d at *
    subst hc
    rw [Int.neg_mul]; omega
theorem last_between {a b c : Int} (h : goes a b c) : (a ≤ b ∧ a ≤ last a b c ∧ last a b c ≤ b) ∨ (b ≤ a ∧ b ≤ last a b c ∧ last a b c ≤ a) := by
  have hm := last_mul h
  have hr : (b - a).natAbs % c.natAbs ≤ (b - a).natAbs := Nat.mod_le _ _
  unfold last
  rw [if_pos h, hm]
  rcases h with ⟨h, h'⟩ | ⟨h, h'⟩
  · rw [if_neg (by omega)]; omega
  · rw [if_pos h]; omega
theorem last_in {a b c : Int} (ha : -9223372036854775808 ≤ a ∧ a ≤ 9223372036854775807) (hb : -9223372036854775808 ≤ b ∧ b ≤ 9223372036854775807) : -9223372036854775808 ≤ last a b c ∧ last a b c ≤ 9223372036854775807 := by
  by_cases h : goes a b c
  · rcases last_between h with h | h <;> omega
  · unfold last; rw [if_neg h]; exact ha
theorem last_spec {a b c : Int} (ha : -9223372036854775808 ≤ a ∧ a ≤ 9223372036854775807) (hb : -9223372036854775808 ≤ b ∧ b ≤ 9223372036854775807) (hc : -9223372036854775808 ≤ c ∧ c ≤ 9223372036854775807) :
    num_Last.f a b c = some (last a b c) := by
  have hin := @last_in a b c ha hb
  unfold num_Last.f
  by_cases h : goes a b c
  · have h1 := goes_c h
    have hm := last_mul h
    have hr : (b - a).natAbs % c.natAbs ≤ (b - a).natAbs := Nat.mod_le _ _
    unfold last at hin ⊢
    rw [if_pos h] at hin ⊢
    rw [way_on ha hb hc h]
    rw [hm] at hin ⊢
    have e0 : ¬ ((c.natAbs : Int) = 0) := by omega
    simp only [Option.bind_some, if_true, IntKind.wrap_u64, if_neg e0]
    rw [Int.tmod_eq_emod_of_nonneg (by omega), ← Int.natCast_emod]
    generalize (b - a).natAbs % c.natAbs = r at *
    by_cases hc0 : c < 0
    · rw [if_pos hc0] at hin ⊢
      rw [if_pos hc0]; congr 1; unfold wrap64; omega
    · rw [if_neg hc0] at hin ⊢
      rw [if_neg hc0]; congr 1; unfold wrap64; omega
  · obtain ⟨x, y, e⟩ := way_off (b := b) hc h
    rw [e]; unfold last; rw [if_neg h]; rfl

theorem gcd_l {n : Nat} : ∀ (k x y : Nat), y ≤ n → n < k → num_Gcd.l0 k (x : Int) (y : Int) = some ((Nat.gcd x y : Nat) : Int) := by
  induction n with
  | zero =>
    intro k x y hy hk
    obtain ⟨k, rfl⟩ : ∃ m, k = m + 1 := ⟨k - 1, by omega⟩
    obtain rfl : y = 0 := by omega
    simp only [num_Gcd.l0]; rw [if_neg (by omega)]; simp
  | succ n ih =>
    intro k x y hy hk
    obtain ⟨k, rfl⟩ : ∃ m, k = m + 1 := ⟨k - 1, by omega⟩
    by_cases h0 : y = 0
    · subst h0; simp only [num_Gcd.l0]; rw [if_neg (by omega)]; simp
    · simp only [num_Gcd.l0]; rw [if_pos (by omega), if_neg (by omega), Int.tmod_eq_emod_of_nonneg (by omega), ← Int.natCast_emod]
      have hlt : x % y < y := Nat.mod_lt _ (by omega)
      rw [ih k y (x % y) (by omega) (by omega), Nat.gcd_comm x y, Nat.gcd_rec y x, Nat.gcd_comm y (x % y)]
theorem gcd_spec {k : Nat} {a b : Int} (hk : 10000000000000000000 ≤ k) (ha : -9223372036854775808 ≤ a ∧ a ≤ 9223372036854775807) (hb : -9223372036854775808 ≤ b ∧ b ≤ 9223372036854775807) :
    num_Gcd.f k a b = some ((Nat.gcd a.natAbs b.natAbs : Nat) : Int) := by
  unfold num_Gcd.f
  rw [size_spec ha, size_spec hb]; simp only [Option.bind_some]
  exact gcd_l k _ _ (Nat.le_refl _) (by omega)

end NumGcd
open NumGcd
theorem i32_of {a : Int} (h : (Lit.int .i32 a).wf = true) : -2147483648 ≤ a ∧ a ≤ 2147483647 := by
  simp only [Lit.wf, IntKind.min, IntKind.max, IntKind.signed, IntKind.bits, Bool.and_eq_true, decide_eq_true_eq, if_true] at h
  omega
theorem known_yes : furrowlaw1_known.f 10 = some true := by decide +kernel
theorem tmod_nat {a : Int} {g : Nat} (h : g ∣ a.natAbs) : a.tmod (g : Int) = 0 :=
  Int.dvd_iff_tmod_eq_zero.1 (Int.ofNat_dvd_left.2 h)
theorem natAbs_tdiv_nat (a : Int) (g : Nat) : (a.tdiv (g : Int)).natAbs = a.natAbs / g := by
  exact Int.natAbs_tdiv a (g : Int)
theorem NumGcd : furrowlaw1_NumGcd.Pure := by
  intro a b ha hb
  have ha := i32_of ha
  have hb := i32_of hb
  obtain ⟨k, hk⟩ : ∃ k : Nat, 10000000000000000000 ≤ k := ⟨_, Nat.le_refl _⟩
  refine ⟨k + 2, ?_⟩
  unfold furrowlaw1_NumGcd.f
  rw [at_rounds furrowlaw1_known.mono (by omega) known_yes]
  simp only [Option.bind_some, if_true]
  rw [w64 (a := a) (by omega), w64 (a := b) (by omega), gcd_spec (by omega) (by omega) (by omega)]
  simp only [Option.bind_some]
  have hz : Nat.gcd a.natAbs b.natAbs = 0 → a = 0 ∧ b = 0 := fun h => by
    have h1 := Nat.eq_zero_of_gcd_eq_zero_left h
    have h2 := Nat.eq_zero_of_gcd_eq_zero_right h
    omega
  have hle : Nat.gcd a.natAbs b.natAbs ≤ 2147483648 := by
    by_cases h0 : a = 0
    · subst h0; simp; omega
    · have := Nat.gcd_le_left b.natAbs (show 0 < a.natAbs by omega); omega
  by_cases hab : a = 0 ∧ b = 0
  · obtain ⟨rfl, rfl⟩ := hab
    rw [if_pos rfl]; simp [furrowlaw1_NumGcd.j0]
  · have hj : (if a = 0 then furrowlaw1_NumGcd.j0 (k + 2) a b ((Nat.gcd a.natAbs b.natAbs : Nat) : Int) (b == 0) else furrowlaw1_NumGcd.j0 (k + 2) a b ((Nat.gcd a.natAbs b.natAbs : Nat) : Int) false) = furrowlaw1_NumGcd.j0 (k + 2) a b ((Nat.gcd a.natAbs b.natAbs : Nat) : Int) false := by
      split
      · have : (b == 0) = false := by simp; omega
        rw [this]
      · rfl
    rw [hj]
    have hd1 : Nat.gcd a.natAbs b.natAbs ∣ a.natAbs := Nat.gcd_dvd_left _ _
    have hd2 : Nat.gcd a.natAbs b.natAbs ∣ b.natAbs := Nat.gcd_dvd_right _ _
    have hg0 : 0 < Nat.gcd a.natAbs b.natAbs := by
      rcases Nat.eq_zero_or_pos (Nat.gcd a.natAbs b.natAbs) with h | h
      · exact absurd (hz h) hab
      · exact h
    have hcop : Nat.gcd (a.natAbs / Nat.gcd a.natAbs b.natAbs) (b.natAbs / Nat.gcd a.natAbs b.natAbs) = 1 := by
      rw [Nat.gcd_div hd1 hd2, Nat.div_self hg0]
    have hcomm : Nat.gcd b.natAbs a.natAbs = Nat.gcd a.natAbs b.natAbs := Nat.gcd_comm _ _
    generalize Nat.gcd a.natAbs b.natAbs = g at *
    have q1 := natAbs_tdiv_nat a g
    have q2 := natAbs_tdiv_nat b g
    have l1 : a.natAbs / g ≤ a.natAbs := Nat.div_le_self _ _
    have l2 : b.natAbs / g ≤ b.natAbs := Nat.div_le_self _ _
    simp only [furrowlaw1_NumGcd.j0]
    rw [if_neg (by simp), if_neg (by omega), w64 (a := (g : Int)) (by omega), if_neg (by omega), if_pos (tmod_nat hd1), if_pos (tmod_nat hd2)]
    rw [gcd_spec (k := k + 1) (by omega) (by omega) (by omega), hcomm]
    simp only [Option.bind_some, bne_self_eq_false, furrowlaw1_NumGcd.j1]
    rw [if_neg (by simp)]
    by_cases ha0 : a = 0
    · rw [if_pos ha0]
    · rw [if_neg ha0]
      have ht : (b.tmod 1000).natAbs ≤ 999 := by
        have h1 : (b.tmod 1000).natAbs = b.natAbs % 1000 := Int.natAbs_tmod b 1000
        have h2 : b.natAbs % 1000 < 1000 := Nat.mod_lt _ (by omega)
        rw [h1]; exact Nat.le_of_lt_succ h2
      have hm : (a * b.tmod 1000).natAbs ≤ 2147483648 * 999 := by
        rw [Int.natAbs_mul]; exact Nat.mul_le_mul (by omega) ht
      have hgm : Nat.gcd a.natAbs (a * b.tmod 1000).natAbs = a.natAbs := by
        rw [Int.natAbs_mul]; exact Nat.gcd_eq_left (Nat.dvd_mul_right _ _)
      rw [w64 (a := a * b.tmod 1000) (by omega), gcd_spec (k := k) hk (by omega) (by omega), hgm]
      rw [w64 (a := (g : Int)) (by omega), w64 (a := a.tdiv (g : Int)) (by omega), w64 (a := b.tdiv (g : Int)) (by omega), gcd_spec (k := k) hk (by omega) (by omega), q1, q2, hcop]
      simp only [Option.bind_some]
      by_cases hneg : a < 0
      · rw [if_pos hneg, if_pos (by rw [IntKind.wrap_u64]; unfold wrap64; omega), if_neg (by omega)]; rfl
      · rw [if_neg hneg, if_pos (by rw [IntKind.wrap_u64]; omega), if_neg (by omega)]; rfl

end Go.Proofs.Ytfjfgcnbokefbaa.Pure
