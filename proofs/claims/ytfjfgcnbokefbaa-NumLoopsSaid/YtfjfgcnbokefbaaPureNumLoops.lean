/- NumLoops: how often any loop goes, its last index, as the reference tells; no conditions. -/
import Derived.Test.YtfjfgcnbokefbaaPNumLoopsx2
import Derived.Laws.Bits64
namespace Go.Proofs.Ytfjfgcnbokefbaa.Pure
open Go.RowKit Go.Proofs.Ytfjfgcnbokefbaa.PNumLoops Go.Proofs.YtfjfgcnbokefbaaW.PrintWords Go.Proofs.YtfjfgcnbokefbaaW.PrintLast

namespace NumLoops
/-! numbers -/
theorem i64_of {a : Int} (h : (Lit.int .i64 a).wf = true) : -9223372036854775808 ≤ a ∧ a ≤ 9223372036854775807 := by
  simp only [Lit.wf, IntKind.min, IntKind.max, IntKind.signed, IntKind.bits, Bool.and_eq_true, decide_eq_true_eq, if_true] at h
  omega
theorem w64 {a : Int} (h : -9223372036854775808 ≤ a ∧ a ≤ 9223372036854775807) : wrap64 a = a := by unfold wrap64; omega
theorem size_spec {a : Int} (h : -9223372036854775808 ≤ a ∧ a ≤ 9223372036854775807) : num_size.f a = some (a.natAbs : Int) := by
  unfold num_size.f; simp only [IntKind.wrap_u64]; split <;> (congr 1; omega)
theorem way_neg {a b c : Int} (hc : c < 0) (h : -9223372036854775808 ≤ c) : num_way.f a b c = some ((a - b) % 18446744073709551616, (c.natAbs : Int), decide (a ≥ b)) := by
  unfold num_way.f; rw [if_pos hc, size_spec ⟨h, by omega⟩]; simp only [Option.bind_some, IntKind.wrap_u64]; congr 2; omega
theorem way_pos {a b c : Int} (hc : 0 < c) (h : c ≤ 9223372036854775807) : num_way.f a b c = some ((b - a) % 18446744073709551616, (c.natAbs : Int), decide (b ≥ a)) := by
  unfold num_way.f; rw [if_neg (by omega), if_pos hc, size_spec ⟨by omega, h⟩]; simp only [Option.bind_some, IntKind.wrap_u64]; congr 2; omega
theorem way_zero {a b : Int} : num_way.f a b 0 = some (0, 0, false) := rfl
/-- does a loop go? -/
def goes (a b c : Int) : Prop := (0 < c ∧ a ≤ b) ∨ (c < 0 ∧ b ≤ a)
theorem way_on {a b c : Int} (ha : -9223372036854775808 ≤ a ∧ a ≤ 9223372036854775807) (hb : -9223372036854775808 ≤ b ∧ b ≤ 9223372036854775807) (hc : -9223372036854775808 ≤ c ∧ c ≤ 9223372036854775807) (h : goes a b c) :
    num_way.f a b c = some (((b - a).natAbs : Int), (c.natAbs : Int), true) := by
  rcases h with ⟨h, h'⟩ | ⟨h, h'⟩
  · rw [way_pos h hc.2]; congr 2
    · omega
    · congr 1; exact decide_eq_true h'
  · rw [way_neg h hc.1]; congr 2
    · omega
    · congr 1; exact decide_eq_true h'
theorem way_off {a b c : Int} (hc : -9223372036854775808 ≤ c ∧ c ≤ 9223372036854775807) (h : ¬ goes a b c) :
    ∃ x y, num_way.f a b c = some (x, y, false) := by
  unfold goes at h
  rcases Int.lt_trichotomy c 0 with h0 | h0 | h0
  · exact ⟨_, _, by rw [way_neg h0 hc.1]; congr 3; exact decide_eq_false (by omega)⟩
  · subst h0; exact ⟨_, _, rfl⟩
  · exact ⟨_, _, by rw [way_pos h0 hc.2]; congr 3; exact decide_eq_false (by omega)⟩
instance (a b c : Int) : Decidable (goes a b c) := by unfold goes; infer_instance
def times (a b c : Int) : Int := if goes a b c then (if (b - a).natAbs / c.natAbs = 18446744073709551615 then 18446744073709551615 else (((b - a).natAbs / c.natAbs : Nat) : Int) + 1) else 0
def last (a b c : Int) : Int := if goes a b c then a + (((b - a).natAbs / c.natAbs : Nat) : Int) * c else a
theorem goes_c {a b c : Int} (h : goes a b c) : 1 ≤ c.natAbs := by unfold goes at h; omega
theorem goes_q {a b c : Int} (ha : -9223372036854775808 ≤ a ∧ a ≤ 9223372036854775807) (hb : -9223372036854775808 ≤ b ∧ b ≤ 9223372036854775807) : (b - a).natAbs / c.natAbs ≤ 18446744073709551615 :=
  Nat.le_trans (Nat.div_le_self _ _) (by omega)
theorem times_spec {a b c : Int} (ha : -9223372036854775808 ≤ a ∧ a ≤ 9223372036854775807) (hb : -9223372036854775808 ≤ b ∧ b ≤ 9223372036854775807) (hc : -9223372036854775808 ≤ c ∧ c ≤ 9223372036854775807) :
    num_Times.f a b c = some (times a b c) := by
  unfold num_Times.f times
  by_cases h : goes a b c
  · have h1 := goes_c h
    have hq := @goes_q a b c ha hb
    rw [way_on ha hb hc h, if_pos h]
    simp only [Option.bind_some, if_true, IntKind.wrap_u64]
    rw [if_neg (by omega), Int.tdiv_eq_ediv_of_nonneg (by omega), ← Int.natCast_ediv]
    generalize (b - a).natAbs / c.natAbs = q at *
    by_cases e : q = 18446744073709551615
    · subst e; rfl
    · rw [if_neg (by omega), if_neg e]; congr 1; omega
  · obtain ⟨x, y, e⟩ := way_off hc h
    rw [e, if_neg h]; rfl
theorem last_mul {a b c : Int} (h : goes a b c) : (((b - a).natAbs / c.natAbs : Nat) : Int) * c = (if c < 0 then -1 else 1) * (((b - a).natAbs : Int) - (((b - a).natAbs % c.natAbs : Nat) : Int)) := by
  have e := Nat.div_add_mod (b - a).natAbs c.natAbs
  have e' : (c.natAbs : Int) * (((b - a).natAbs / c.natAbs : Nat) : Int) + (((b - a).natAbs % c.natAbs : Nat) : Int) = ((b - a).natAbs : Int) := by exact_mod_cast e
  rw [Int.mul_comm]
  rcases h with ⟨h, _⟩ | ⟨h, _⟩
  · rw [if_neg (by omega)]
    have hc : (c.natAbs : Int) = c := by omega
    rw [hc] at e'; omega
  · rw [if_pos h]
    have hc : c = -(c.natAbs : Int) := by omega
    generalize (c.natAbs : Int) = d at *
    subst hc
    rw [Int.neg_mul]; omega
theorem last_between {a b c : Int} (h : goes a b c) : (a ≤ b ∧ a ≤ last a b c ∧ last a b c ≤ b) ∨ (b ≤ a ∧ b ≤ last a b c ∧ last a b c ≤ a) := by
  have hm := last_mul h
  have hr : (b - a).natAbs % c.natAbs ≤ (b - a).natAbs := Nat.mod_le _ _
  unfold last
  rw [if_pos h, hm]
  rcases h with ⟨h, h'⟩ | ⟨h, h'⟩
  · rw [if_neg (by omega)]; omega
  · rw [if_pos h]; omega
theorem last_in {a b c : Int} (ha : -9223372036854775808 ≤ a ∧ a ≤ 9223372036854775807) (hb : -9223372036854775808 ≤ b ∧ b ≤ 9223372036854775807) : -9223372036854775808 ≤ last a b c ∧ last a b c ≤ 9223372036854775807 := by
  by_cases h : goes a b c
  · rcases last_between h with h | h <;> omega
  · unfold last; rw [if_neg h]; exact ha
theorem last_spec {a b c : Int} (ha : -9223372036854775808 ≤ a ∧ a ≤ 9223372036854775807) (hb : -9223372036854775808 ≤ b ∧ b ≤ 9223372036854775807) (hc : -9223372036854775808 ≤ c ∧ c ≤ 9223372036854775807) :
    num_Last.f a b c = some (last a b c) := by
  have hin := @last_in a b c ha hb
  unfold num_Last.f
  by_cases h : goes a b c
  · have h1 := goes_c h
    have hm := last_mul h
    have hr : (b - a).natAbs % c.natAbs ≤ (b - a).natAbs := Nat.mod_le _ _
    unfold last at hin ⊢
    rw [if_pos h] at hin ⊢
    rw [way_on ha hb hc h]
    rw [hm] at hin ⊢
    have e0 : ¬ ((c.natAbs : Int) = 0) := by omega
    simp only [Option.bind_some, if_true, IntKind.wrap_u64, if_neg e0]
    rw [Int.tmod_eq_emod_of_nonneg (by omega), ← Int.natCast_emod]
    generalize (b - a).natAbs % c.natAbs = r at *
    by_cases hc0 : c < 0
    · rw [if_pos hc0] at hin ⊢
      rw [if_pos hc0]; congr 1; unfold wrap64; omega
    · rw [if_neg hc0] at hin ⊢
      rw [if_neg hc0]; congr 1; unfold wrap64; omega
  · obtain ⟨x, y, e⟩ := way_off (b := b) hc h
    rw [e]; unfold last; rw [if_neg h]; rfl

end NumLoops
open NumLoops
theorem rsize_spec {a : Int} (h : -9223372036854775808 ≤ a ∧ a ≤ 9223372036854775807) : furrowref4_Size.f a = some (a.natAbs : Int) := by
  unfold furrowref4_Size.f; simp only [IntKind.wrap_u64]; split <;> (congr 1; omega)
theorem goes_iff (a b c : Int) : goes a b c ↔ ¬ (c = 0 ∨ (c > 0 ∧ b < a) ∨ (c < 0 ∧ b > a)) := by unfold goes; omega
theorem rtimes_j {k : Nat} {a b c : Int} (ha : -9223372036854775808 ≤ a ∧ a ≤ 9223372036854775807) (hb : -9223372036854775808 ≤ b ∧ b ≤ 9223372036854775807) (hc : -9223372036854775808 ≤ c ∧ c ≤ 9223372036854775807) :
    furrowref4_Times.j0 (k + 1) a b c (!decide (goes a b c)) = some (times a b c) := by
  simp only [furrowref4_Times.j0]
  by_cases h : goes a b c
  · have h1 := goes_c h
    have hq := @goes_q a b c ha hb
    unfold times
    rw [if_pos h, if_neg (by simp [h])]
    simp only [rsize_spec hc, Option.bind_some, IntKind.wrap_u64]
    have e0 : ¬ ((c.natAbs : Int) = 0) := by omega
    have e1 : (if c < 0 then ((a % 18446744073709551616 - b % 18446744073709551616) % 18446744073709551616) else ((b % 18446744073709551616 - a % 18446744073709551616) % 18446744073709551616)) = ((b - a).natAbs : Int) := by
      rcases h with h | h
      · rw [if_neg (by omega)]; omega
      · rw [if_pos (by omega)]; omega
    by_cases hc0 : c < 0
    · rw [if_pos hc0] at e1 ⊢
      rw [e1, if_neg e0, Int.tdiv_eq_ediv_of_nonneg (by omega), ← Int.natCast_ediv]
      generalize (b - a).natAbs / c.natAbs = q at *
      by_cases e : q = 18446744073709551615
      · subst e; rfl
      · rw [if_neg (by omega), if_neg e]; congr 1; omega
    · rw [if_neg hc0] at e1 ⊢
      rw [e1, if_neg e0, Int.tdiv_eq_ediv_of_nonneg (by omega), ← Int.natCast_ediv]
      generalize (b - a).natAbs / c.natAbs = q at *
      by_cases e : q = 18446744073709551615
      · subst e; rfl
      · rw [if_neg (by omega), if_neg e]; congr 1; omega
  · unfold times
    rw [if_neg h, if_pos (by simp [h])]
theorem rtimes_spec {k : Nat} {a b c : Int} (ha : -9223372036854775808 ≤ a ∧ a ≤ 9223372036854775807) (hb : -9223372036854775808 ≤ b ∧ b ≤ 9223372036854775807) (hc : -9223372036854775808 ≤ c ∧ c ≤ 9223372036854775807) :
    furrowref4_Times.f (k + 1) a b c = some (times a b c) := by
  have hj := @rtimes_j k a b c ha hb hc
  have hg := goes_iff a b c
  unfold furrowref4_Times.f
  repeat' split
  all_goals (rw [← hj]; congr 1; by_cases h : goes a b c <;> simp [h] <;> (unfold goes at h; omega))
theorem rlast_j {k : Nat} {a b c : Int} (ha : -9223372036854775808 ≤ a ∧ a ≤ 9223372036854775807) (hb : -9223372036854775808 ≤ b ∧ b ≤ 9223372036854775807) (hc : -9223372036854775808 ≤ c ∧ c ≤ 9223372036854775807) :
    furrowref4_Last.j0 (k + 1) a b c (!decide (goes a b c)) = some (last a b c) := by
  have hin := @last_in a b c ha hb
  simp only [furrowref4_Last.j0]
  by_cases h : goes a b c
  · have h1 := goes_c h
    have hq := @goes_q a b c ha hb
    unfold last at hin ⊢
    rw [if_pos h] at hin ⊢
    rw [if_neg (by simp [h])]
    simp only [rsize_spec hc, Option.bind_some, IntKind.wrap_u64]
    have e0 : ¬ ((c.natAbs : Int) = 0) := by omega
    have e1 : (if c < 0 then ((a % 18446744073709551616 - b % 18446744073709551616) % 18446744073709551616) else ((b % 18446744073709551616 - a % 18446744073709551616) % 18446744073709551616)) = ((b - a).natAbs : Int) := by
      rcases h with h | h
      · rw [if_neg (by omega)]; omega
      · rw [if_pos (by omega)]; omega
    have e2 : ∀ q : Nat, q ≤ 18446744073709551615 → -9223372036854775808 ≤ a + (q : Int) * c → a + (q : Int) * c ≤ 9223372036854775807 →
        wrap64 ((a % 18446744073709551616 + ((q : Int) % 18446744073709551616 * (c % 18446744073709551616)) % 18446744073709551616) % 18446744073709551616) = a + (q : Int) * c := by
      intro q hq l1 l2
      rw [← Int.mul_emod]
      generalize (q : Int) * c = p at *
      unfold wrap64; omega
    by_cases hc0 : c < 0
    · rw [if_pos hc0] at e1 ⊢
      rw [e1, if_neg e0, Int.tdiv_eq_ediv_of_nonneg (by omega), ← Int.natCast_ediv, e2 _ hq hin.1 hin.2]
    · rw [if_neg hc0] at e1 ⊢
      rw [e1, if_neg e0, Int.tdiv_eq_ediv_of_nonneg (by omega), ← Int.natCast_ediv, e2 _ hq hin.1 hin.2]
  · unfold last
    rw [if_neg h, if_pos (by simp [h])]
theorem rlast_spec {k : Nat} {a b c : Int} (ha : -9223372036854775808 ≤ a ∧ a ≤ 9223372036854775807) (hb : -9223372036854775808 ≤ b ∧ b ≤ 9223372036854775807) (hc : -9223372036854775808 ≤ c ∧ c ≤ 9223372036854775807) :
    furrowref4_Last.f (k + 1) a b c = some (last a b c) := by
  have hj := @rlast_j k a b c ha hb hc
  have hg := goes_iff a b c
  unfold furrowref4_Last.f
  repeat' split
  all_goals (rw [← hj]; congr 1; by_cases h : goes a b c <;> simp [h] <;> (unfold goes at h; omega))
theorem known_yes : furrowlaw1_known.f 10 = some true := by decide +kernel
theorem NumLoops : furrowlaw1_NumLoops.Pure := by
  intro a b c ha hb hc
  have ha := i64_of ha
  have hb := i64_of hb
  have hc := i64_of hc
  refine ⟨10, ?_⟩
  unfold furrowlaw1_NumLoops.f
  rw [known_yes]
  simp only [Option.bind_some, if_true]
  rw [times_spec ha hb hc, rtimes_spec ha hb hc, last_spec ha hb hc, rlast_spec ha hb hc]
  simp

end Go.Proofs.Ytfjfgcnbokefbaa.Pure
