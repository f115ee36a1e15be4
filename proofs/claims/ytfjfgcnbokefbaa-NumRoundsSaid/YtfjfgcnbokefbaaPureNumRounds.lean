/- NumRounds: a quotient rounded down is the one below, up the one above, and they part by one just where there is a rest; no conditions. -/
import Derived.Test.YtfjfgcnbokefbaaPNumRoundsx2
import Derived.Laws.Bits64
namespace Go.Proofs.Ytfjfgcnbokefbaa.Pure
open Go.RowKit Go.Proofs.Ytfjfgcnbokefbaa.PNumRounds Go.Proofs.YtfjfgcnbokefbaaW.PrintWords Go.Proofs.YtfjfgcnbokefbaaW.PrintLast

namespace NumRounds
/-! numbers -/
theorem i64_of {a : Int} (h : (Lit.int .i64 a).wf = true) : -9223372036854775808 ≤ a ∧ a ≤ 9223372036854775807 := by
  simp only [Lit.wf, IntKind.min, IntKind.max, IntKind.signed, IntKind.bits, Bool.and_eq_true, decide_eq_true_eq, if_true] at h
  omega
theorem w64 {a : Int} (h : -9223372036854775808 ≤ a ∧ a ≤ 9223372036854775807) : wrap64 a = a := by unfold wrap64; omega
theorem size_spec {a : Int} (h : -9223372036854775808 ≤ a ∧ a ≤ 9223372036854775807) : num_size.f a = some (a.natAbs : Int) := by
  unfold num_size.f; simp only [IntKind.wrap_u64]; split <;> (congr 1; omega)
theorem way_neg {a b c : Int} (hc : c < 0) (h : -9223372036854775808 ≤ c) : num_way.f a b c = some ((a - b) % 18446744073709551616, (c.natAbs : Int), decide (a ≥ b)) := by
  unfold num_way.f; rw [if_pos hc, size_spec ⟨h, by omega⟩]; simp only [Option.bind_some, IntKind.wrap_u64]; congr 2; omega
theorem way_pos {a b c : Int} (hc : 0 < c) (h : c ≤ 9223372036854775807) : num_way.f a b c = some ((b - a) % 18446744073709551616, (c.natAbs : Int), decide (b ≥ a)) := by
  unfold num_way.f; rw [if_neg (by omega), if_pos hc, size_spec ⟨by omega, h⟩]; simp only [Option.bind_some, IntKind.wrap_u64]; congr 2; omega
theorem way_zero {a b : Int} : num_way.f a b 0 = some (0, 0, false) := rfl
/-- does a loop go? -/
def goes (a b c : Int) : Prop := (0 < c ∧ a ≤ b) ∨ (c < 0 ∧ b ≤ a)
theorem way_on {a b c : Int} (ha : -9223372036854775808 ≤ a ∧ a ≤ 9223372036854775807) (hb : -9223372036854775808 ≤ b ∧ b ≤ 9223372036854775807) (hc : -9223372036854775808 ≤ c ∧ c ≤ 9223372036854775807) (h : goes a b c) :
    num_way.f a b c = some (((b - a).natAbs : Int), (c.natAbs : Int), true) := by
  rcases h with ⟨h, h'⟩ | ⟨h, h'⟩
  · rw [way_pos h hc.2]; congr 2
    · omega
    · congr 1; exact decide_eq_true h'
  · rw [way_neg h hc.1]; congr 2
    · omega
    · congr 1; exact decide_eq_true h'
theorem way_off {a b c : Int} (hc : -9223372036854775808 ≤ c ∧ c ≤ 9223372036854775807) (h : ¬ goes a b c) :
    ∃ x y, num_way.f a b c = some (x, y, false) := by
  unfold goes at h
  rcases Int.lt_trichotomy c 0 with h0 | h0 | h0
  · exact ⟨_, _, by rw [way_neg h0 hc.1]; congr 3; exact decide_eq_false (by omega)⟩
  · subst h0; exact ⟨_, _, rfl⟩
  · exact ⟨_, _, by rw [way_pos h0 hc.2]; congr 3; exact decide_eq_false (by omega)⟩
instance (a b c : Int) : Decidable (goes a b c) := by unfold goes; infer_instance
def times (a b c : Int) : Int := if goes a b c then (if (b - a).natAbs / c.natAbs = 18446744073709551615 then 18446744073709551615 else (((b - a).natAbs / c.natAbs : Nat) : Int) + 1) else 0
def last (a b c : Int) : Int := if goes a b c then a + (((b - a).natAbs / c.natAbs : Nat) : Int) * c else a
theorem goes_c {a b c : Int} (h : goes a b c) : 1 ≤ c.natAbs := by unfold goes at h; omega
theorem goes_q {a b c : Int} (ha : -9223372036854775808 ≤ a ∧ a ≤ 9223372036854775807) (hb : -9223372036854775808 ≤ b ∧ b ≤ 9223372036854775807) : (b - a).natAbs / c.natAbs ≤ 18446744073709551615 :=
  Nat.le_trans (Nat.div_le_self _ _) (by omega)
theorem times_spec {a b c : Int} (ha : -9223372036854775808 ≤ a ∧ a ≤ 9223372036854775807) (hb : -9223372036854775808 ≤ b ∧ b ≤ 9223372036854775807) (hc : -9223372036854775808 ≤ c ∧ c ≤ 9223372036854775807) :
    num_Times.f a b c = some (times a b c) := by
  unfold num_Times.f times
  by_cases h : goes a b c
  · have h1 := goes_c h
    have hq := @goes_q a b c ha hb
    rw [way_on ha hb hc h, if_pos h]
    simp only [Option.bind_some, if_true, IntKind.wrap_u64]
    rw [if_neg (by omega), Int.tdiv_eq_ediv_of_nonneg (by omega), ← Int.natCast_ediv]
    generalize (b - a).natAbs / c.natAbs = q at *
    by_cases e : q = 18446744073709551615
    · subst e; rfl
    · rw [if_neg (by omega), if_neg e]; congr 1; omega
  · obtain ⟨x, y, e⟩ := way_off hc h
    rw [e, if_neg h]; rfl
theorem last_mul {a b c : Int} (h : goes a b c) : (((b - a).natAbs / c.natAbs : Nat) : Int) * c = (if c < 0 then -1 else 1) * (((b - a).natAbs : Int) - (((b - a).natAbs % c.natAbs : Nat) : Int)) := by
  have e := Nat.div_add_mod (b - a).natAbs c.natAbs
  have e' : (c.natAbs : Int) * (((b - a).natAbs / c.natAbs : Nat) : Int) + (((b - a).natAbs % c.natAbs : Nat) : Int) = ((b - a).natAbs : Int) := by exact_mod_cast e
  rw [Int.mul_comm]
  rcases h with ⟨h, _⟩ | ⟨h, _⟩
  · rw [if_neg (by omega)]
    have hc : (c.natAbs : Int) = c := by omega
    rw [hc] at e'; omega
  · rw [if_pos h]
    have hc : c = -(c.natAbs : Int) := by omega
    generalize (c.natAbs : Int) = d at *
    subst hc
    rw [Int.neg_mul]; omega
theorem last_between {a b c : Int} (h : goes a b c) : (a ≤ b ∧ a ≤ last a b c ∧ last a b c ≤ b) ∨ (b ≤ a ∧ b ≤ last a b c ∧ last a b c ≤ a) := by
  have hm := last_mul h
  have hr : (b - a).natAbs % c.natAbs ≤ (b - a).natAbs := Nat.mod_le _ _
  unfold last
  rw [if_pos h, hm]
  rcases h with ⟨h, h'⟩ | ⟨h, h'⟩
  · rw [if_neg (by omega)]; omega
  · rw [if_pos h]; omega
theorem last_in {a b c : Int} (ha : -9223372036854775808 ≤ a ∧ a ≤ 9223372036854775807) (hb : -9223372036854775808 ≤ b ∧ b ≤ 9223372036854775807) : -9223372036854775808 ≤ last a b c ∧ last a b c ≤ 9223372036854775807 := by
  by_cases h : goes a b c
  · rcases last_between h with h | h <;> omega
  · unfold last; rw [if_neg h]; exact ha
theorem last_spec {a b c : Int} (ha : -9223372036854775808 ≤ a ∧ a ≤ 9223372036854775807) (hb : -9223372036854775808 ≤ b ∧ b ≤ 9223372036854775807) (hc : -9223372036854775808 ≤ c ∧ c ≤ 9223372036854775807) :
    num_Last.f a b c = some (last a b c) := by
  have hin := @last_in a b c ha hb
  unfold num_Last.f
  by_cases h : goes a b c
  · have h1 := goes_c h
    have hm := last_mul h
    have hr : (b - a).natAbs % c.natAbs ≤ (b - a).natAbs := Nat.mod_le _ _
    unfold last at hin ⊢
    rw [if_pos h] at hin ⊢
    rw [way_on ha hb hc h]
    rw [hm] at hin ⊢
    have e0 : ¬ ((c.natAbs : Int) = 0) := by omega
    simp only [Option.bind_some, if_true, IntKind.wrap_u64, if_neg e0]
    rw [Int.tmod_eq_emod_of_nonneg (by omega), ← Int.natCast_emod]
    generalize (b - a).natAbs % c.natAbs = r at *
    by_cases hc0 : c < 0
    · rw [if_pos hc0] at hin ⊢
      rw [if_pos hc0]; congr 1; unfold wrap64; omega
    · rw [if_neg hc0] at hin ⊢
      rw [if_neg hc0]; congr 1; unfold wrap64; omega
  · obtain ⟨x, y, e⟩ := way_off (b := b) hc h
    rw [e]; unfold last; rw [if_neg h]; rfl

/-! quotients -/
/-- which quotients there are -/
def quo (a b : Int) : Prop := b ≠ 0 ∧ ¬ (a = -9223372036854775808 ∧ b = -1)
instance (a b : Int) : Decidable (quo a b) := by unfold quo; infer_instance
theorem tdiv_in {a b : Int} (ha : -9223372036854775808 ≤ a ∧ a ≤ 9223372036854775807) (h : quo a b) : -9223372036854775808 ≤ a.tdiv b ∧ a.tdiv b ≤ 9223372036854775807 ∧ (a.tmod b ≠ 0 → -4611686018427387904 ≤ a.tdiv b ∧ a.tdiv b ≤ 4611686018427387903) := by
  have e : (a.tdiv b).natAbs = a.natAbs / b.natAbs := Int.natAbs_tdiv a b
  have e1 : a.natAbs / b.natAbs ≤ a.natAbs := Nat.div_le_self _ _
  unfold quo at h
  by_cases hb : b.natAbs = 1
  · rcases (by omega : b = 1 ∨ b = -1) with rfl | rfl
    · rw [Int.tdiv_one]; exact ⟨ha.1, ha.2, fun h => absurd (Int.dvd_iff_tmod_eq_zero.1 (Int.one_dvd a)) h⟩
    · rw [hb, Nat.div_one] at e; exact ⟨by omega, by omega, fun h => absurd (Int.dvd_iff_tmod_eq_zero.1 (Int.neg_dvd.2 (Int.one_dvd a))) h⟩
  · have e2 : a.natAbs / b.natAbs ≤ a.natAbs / 2 := Nat.div_le_div_left (by omega) (by omega)
    refine ⟨by omega, by omega, fun hr => ?_⟩
    refine ⟨by omega, ?_⟩
    by_cases h2 : b.natAbs = 2
    · by_cases ha0 : a = -9223372036854775808
      · exfalso; apply hr; rw [← Int.dvd_iff_tmod_eq_zero, ha0]; rcases (by omega : b = 2 ∨ b = -2) with rfl | rfl <;> decide
      · omega
    · have e3 : a.natAbs / b.natAbs ≤ a.natAbs / 3 := Nat.div_le_div_left (by omega) (by omega)
      omega
theorem fdiv_t {a b : Int} (hb : b ≠ 0) : a.fdiv b = a.tdiv b - (if a.tmod b = 0 then 0 else if (decide (a < 0) != decide (b < 0)) = true then 1 else 0) := by
  rw [Int.fdiv_eq_tdiv]
  congr 1
  by_cases h : b ∣ a
  · rw [if_pos h, if_pos (Int.dvd_iff_tmod_eq_zero.1 h)]
  · rw [if_neg h, if_neg (fun e => h (Int.dvd_iff_tmod_eq_zero.2 e))]
    by_cases h1 : a < 0 <;> by_cases h2 : b < 0
    · rw [if_neg (by omega), if_neg (by omega), Int.sign_eq_neg_one_of_neg h2]; simp [h1, h2]
    · rw [if_neg (by omega), if_pos (by omega), Int.sign_eq_one_of_pos (by omega)]; simp [h1, h2]
    · rw [if_pos (by omega), if_neg (by omega)]; simp [h1, h2]
    · rw [if_pos (by omega), if_pos (by omega)]; simp [h1, h2]
theorem fdiv_in {a b : Int} (ha : -9223372036854775808 ≤ a ∧ a ≤ 9223372036854775807) (h : quo a b) : -9223372036854775808 ≤ a.fdiv b ∧ a.fdiv b ≤ 9223372036854775807 ∧ (a.tmod b ≠ 0 → a.fdiv b + 1 ≤ 9223372036854775807) := by
  have ht := tdiv_in ha h
  rw [fdiv_t h.1]
  by_cases hr : a.tmod b = 0
  · rw [if_pos hr]; exact ⟨by omega, by omega, fun h => absurd hr h⟩
  · have := ht.2.2 hr
    rw [if_neg hr]
    split <;> exact ⟨by omega, by omega, fun _ => by omega⟩
theorem floor_no {k : Nat} {a b : Int} (h : ¬ quo a b) : num_Floor.f (k + 1) a b = some (0, false) := by
  unfold num_Floor.f
  unfold quo at h
  by_cases hb : b = 0
  · rw [if_pos hb]; simp only [num_Floor.j0]; rw [if_pos trivial]
  · rw [if_neg hb, if_pos (by omega)]; simp only [num_Floor.j0]; rw [if_pos (by simp; omega)]
theorem floor_yes {k : Nat} {a b : Int} (ha : -9223372036854775808 ≤ a ∧ a ≤ 9223372036854775807) (h : quo a b) : num_Floor.f (k + 1) a b = some (a.fdiv b, true) := by
  have hj : num_Floor.j0 (k + 1) a b false = some (a.fdiv b, true) := by
    have ht := tdiv_in ha h
    have hf := fdiv_in ha h
    have e := @fdiv_t a b h.1
    simp only [num_Floor.j0]
    rw [if_neg (by simp), if_neg h.1]
    by_cases hr : a.tmod b = 0
    · rw [if_pos hr] at e ⊢; rw [w64 ⟨ht.1, ht.2.1⟩, e, Int.sub_zero]
    · rw [if_neg hr] at e ⊢
      by_cases hs : (decide (a < 0) != decide (b < 0)) = true
      · rw [if_pos hs] at e ⊢; rw [w64 ⟨ht.1, ht.2.1⟩, ← e, w64 ⟨hf.1, hf.2.1⟩]
      · rw [if_neg hs] at e ⊢; rw [w64 ⟨ht.1, ht.2.1⟩, e, Int.sub_zero]
  have hq := h
  unfold quo at hq
  unfold num_Floor.f
  rw [if_neg hq.1]
  split
  · have : (b == -1) = false := by simp; omega
    rw [this]; exact hj
  · exact hj
theorem ceil_no {k : Nat} {a b : Int} (h : ¬ quo a b) : num_Ceil.f (k + 1) a b = some (0, false) := by
  unfold num_Ceil.f
  rw [floor_no h]; rfl
theorem ceil_yes {k : Nat} {a b : Int} (ha : -9223372036854775808 ≤ a ∧ a ≤ 9223372036854775807) (h : quo a b) : num_Ceil.f (k + 1) a b = some (a.fdiv b + (if a.tmod b = 0 then 0 else 1), true) := by
  have hf := fdiv_in ha h
  unfold num_Ceil.f
  rw [floor_yes ha h]; simp only [Option.bind_some, if_true]
  rw [if_neg h.1]
  split
  · simp
  · rename_i hr; have := hf.2.2 hr; rw [w64 (by omega)]
theorem fdiv_pos_le {a b : Int} (h : 0 < b) : a.fdiv b * b ≤ a ∧ a < a.fdiv b * b + b := by
  have h1 := @Int.mul_fdiv_self_le a b h
  have h2 := @Int.lt_mul_fdiv_self_add a b h
  rw [Int.mul_comm]; exact ⟨h1, h2⟩
theorem fdiv_neg_le {a b : Int} (h : b < 0) : a ≤ a.fdiv b * b ∧ a.fdiv b * b + b < a := by
  have e : a.fdiv b = (-a).fdiv (-b) := (Int.neg_fdiv_neg a b).symm
  have := @fdiv_pos_le (-a) (-b) (by omega)
  rw [← e, Int.mul_neg] at this
  omega
theorem fdiv_dvd {a b : Int} (hb : b ≠ 0) (h : a.tmod b = 0) : a.fdiv b = a.tdiv b ∧ a.tdiv b * b = a := by
  rw [fdiv_t hb, if_pos h]
  exact ⟨by omega, Int.tdiv_mul_cancel (Int.dvd_iff_tmod_eq_zero.2 h)⟩

end NumRounds
open NumRounds
theorem i32_of {a : Int} (h : (Lit.int .i32 a).wf = true) : -2147483648 ≤ a ∧ a ≤ 2147483647 := by
  simp only [Lit.wf, IntKind.min, IntKind.max, IntKind.signed, IntKind.bits, Bool.and_eq_true, decide_eq_true_eq, if_true] at h
  omega
theorem known_yes : furrowlaw1_known.f 10 = some true := by decide +kernel
theorem NumRounds : furrowlaw1_NumRounds.Pure := by
  intro a b ha hb
  have ha := i32_of ha
  have hb := i32_of hb
  refine ⟨9 + 1, ?_⟩
  unfold furrowlaw1_NumRounds.f
  rw [known_yes]
  simp only [Option.bind_some, if_true]
  rw [w64 (a := a) (by omega), w64 (a := b) (by omega)]
  by_cases h0 : b = 0
  · rw [if_pos h0, floor_no (by unfold quo; omega), ceil_no (by unfold quo; omega)]; rfl
  · rw [if_neg h0]
    have hq : quo a b := by unfold quo; omega
    rw [floor_yes (by omega) hq, ceil_yes (by omega) hq]
    simp only [Option.bind_some, if_true]
    rw [if_neg h0]
    have hin := fdiv_in (a := a) (b := b) (by omega) hq
    have ht := tdiv_in (a := a) (b := b) (by omega) hq
    have hp : (b < 0 → a ≤ a.fdiv b * b ∧ a.fdiv b * b + b < a) ∧ (0 < b → a.fdiv b * b ≤ a ∧ a < a.fdiv b * b + b) := ⟨fdiv_neg_le, fdiv_pos_le⟩
    by_cases hr : a.tmod b = 0
    · have hd := fdiv_dvd h0 hr
      rw [if_pos hr, if_pos (by rw [w64 ⟨ht.1, ht.2.1⟩]; exact hd.1), if_pos (by simp [hr])]
      simp only [furrowlaw1_NumRounds.j0]
      rw [if_neg (by simp), if_pos hr, Int.add_zero]
      rw [← hd.1] at hd
      rw [hd.2, w64 (a := a) (by omega)]
      by_cases hb0 : b < 0
      · rw [if_pos hb0, if_pos (by omega)]; simp
      · rw [if_neg hb0, if_pos (by omega)]; simp
    · have h1 := hin.2.2 hr
      rw [if_neg hr, if_neg hr, w64 (by omega)]
      simp only [furrowlaw1_NumRounds.j0]
      have e : (a.fdiv b + 1) * b = a.fdiv b * b + b := by rw [Int.add_mul, Int.one_mul]
      rw [if_neg (by simp), e]
      generalize a.fdiv b * b = p at *
      rw [w64 (a := p) (by omega), w64 (a := p + b) (by omega)]
      by_cases hb0 : b < 0
      · rw [if_pos hb0, if_pos (by omega)]; congr 1; exact decide_eq_true (by omega)
      · rw [if_neg hb0, if_pos (by omega)]; congr 1; exact decide_eq_true (by omega)

end Go.Proofs.Ytfjfgcnbokefbaa.Pure
