/- NestIndex: any loop's index at any turn; no conditions. -/
import Derived.Test.YtaoanbebgeeicaaGreatDoorXx16
import Derived.Laws.Bits64
namespace Go.Proofs.YtaoanbebgeeicaaGreatDoor.Pure
open Go.RowKit Go.Proofs.YtaoanbebgeeicaaGreatDoor.X Go.Proofs.YtaoanbebgeeicaaGreatDoor.H Go.Proofs.YtaoanbebgeeicaaGreatDoorW.PrintWords Go.Proofs.YtaoanbebgeeicaaGreatDoorW.PrintLast
set_option linter.unusedVariables false

namespace NestIndex
theorem i64_of {a : Int} (h : (Lit.int .i64 a).wf = true) : -9223372036854775808 ≤ a ∧ a ≤ 9223372036854775807 := by
  simp only [Lit.wf, IntKind.min, IntKind.max, IntKind.signed, IntKind.bits, Bool.and_eq_true, decide_eq_true_eq, if_true] at h
  omega
theorem w64 {a : Int} (h : -9223372036854775808 ≤ a ∧ a ≤ 9223372036854775807) : wrap64 a = a := by unfold wrap64; omega
/-- does a loop go? -/
def goes (a b c : Int) : Prop := (0 < c ∧ a ≤ b) ∨ (c < 0 ∧ b ≤ a)
instance (a b c : Int) : Decidable (goes a b c) := by unfold goes; infer_instance
def times (a b c : Int) : Int := if goes a b c then (if (b - a).natAbs / c.natAbs = 18446744073709551615 then 18446744073709551615 else (((b - a).natAbs / c.natAbs : Nat) : Int) + 1) else 0
def last (a b c : Int) : Int := if goes a b c then a + (((b - a).natAbs / c.natAbs : Nat) : Int) * c else a
theorem goes_c {a b c : Int} (h : goes a b c) : 1 ≤ c.natAbs := by unfold goes at h; omega
theorem goes_q {a b c : Int} (ha : -9223372036854775808 ≤ a ∧ a ≤ 9223372036854775807) (hb : -9223372036854775808 ≤ b ∧ b ≤ 9223372036854775807) : (b - a).natAbs / c.natAbs ≤ 18446744073709551615 :=
  Nat.le_trans (Nat.div_le_self _ _) (by omega)
theorem last_mul {a b c : Int} (h : goes a b c) : (((b - a).natAbs / c.natAbs : Nat) : Int) * c = (if c < 0 then -1 else 1) * (((b - a).natAbs : Int) - (((b - a).natAbs % c.natAbs : Nat) : Int)) := by
  have e := Nat.div_add_mod (b - a).natAbs c.natAbs
  have e' : (c.natAbs : Int) * (((b - a).natAbs / c.natAbs : Nat) : Int) + (((b - a).natAbs % c.natAbs : Nat) : Int) = ((b - a).natAbs : Int) := by exact_mod_cast e
  rw [Int.mul_comm]
  rcases h with ⟨h, _⟩ | ⟨h, _⟩
  · rw [if_neg (by omega)]
    have hc : (c.natAbs : Int) = c := by omega
    rw [hc] at e'; omega
  · rw [if_pos h]
    have hc : c = -(c.natAbs : Int) := by omega
    generalize (c.natAbs : Int) = d at *
    subst hc
    rw [Int.neg_mul]; omega
theorem last_between {a b c : Int} (h : goes a b c) : (a ≤ b ∧ a ≤ last a b c ∧ last a b c ≤ b) ∨ (b ≤ a ∧ b ≤ last a b c ∧ last a b c ≤ a) := by
  have hm := last_mul h
  have hr : (b - a).natAbs % c.natAbs ≤ (b - a).natAbs := Nat.mod_le _ _
  unfold last
  rw [if_pos h, hm]
  rcases h with ⟨h, h'⟩ | ⟨h, h'⟩
  · rw [if_neg (by omega)]; omega
  · rw [if_pos h]; omega
theorem last_in {a b c : Int} (ha : -9223372036854775808 ≤ a ∧ a ≤ 9223372036854775807) (hb : -9223372036854775808 ≤ b ∧ b ≤ 9223372036854775807) : -9223372036854775808 ≤ last a b c ∧ last a b c ≤ 9223372036854775807 := by
  by_cases h : goes a b c
  · rcases last_between h with h | h <;> omega
  · unfold last; rw [if_neg h]; exact ha
end NestIndex
open NestIndex
theorem rsize_spec {a : Int} (h : -9223372036854775808 ≤ a ∧ a ≤ 9223372036854775807) : furrowref4_Size.f a = some (a.natAbs : Int) := by
  unfold furrowref4_Size.f; simp only [IntKind.wrap_u64]; split <;> (congr 1; omega)
theorem goes_iff (a b c : Int) : goes a b c ↔ ¬ (c = 0 ∨ (c > 0 ∧ b < a) ∨ (c < 0 ∧ b > a)) := by unfold goes; omega
theorem rtimes_j {k : Nat} {a b c : Int} (ha : -9223372036854775808 ≤ a ∧ a ≤ 9223372036854775807) (hb : -9223372036854775808 ≤ b ∧ b ≤ 9223372036854775807) (hc : -9223372036854775808 ≤ c ∧ c ≤ 9223372036854775807) :
    furrowref4_Times.j0 (k + 1) a b c (!decide (goes a b c)) = some (times a b c) := by
  simp only [furrowref4_Times.j0]
  by_cases h : goes a b c
  · have h1 := goes_c h
    have hq := @goes_q a b c ha hb
    unfold times
    rw [if_pos h, if_neg (by simp [h])]
    simp only [rsize_spec hc, Option.bind_some, IntKind.wrap_u64]
    have e0 : ¬ ((c.natAbs : Int) = 0) := by omega
    have e1 : (if c < 0 then ((a % 18446744073709551616 - b % 18446744073709551616) % 18446744073709551616) else ((b % 18446744073709551616 - a % 18446744073709551616) % 18446744073709551616)) = ((b - a).natAbs : Int) := by
      rcases h with h | h
      · rw [if_neg (by omega)]; omega
      · rw [if_pos (by omega)]; omega
    by_cases hc0 : c < 0
    · rw [if_pos hc0] at e1 ⊢
      rw [e1, if_neg e0, Int.tdiv_eq_ediv_of_nonneg (by omega), ← Int.natCast_ediv]
      generalize (b - a).natAbs / c.natAbs = q at *
      by_cases e : q = 18446744073709551615
      · subst e; rfl
      · rw [if_neg (by omega), if_neg e]; congr 1; omega
    · rw [if_neg hc0] at e1 ⊢
      rw [e1, if_neg e0, Int.tdiv_eq_ediv_of_nonneg (by omega), ← Int.natCast_ediv]
      generalize (b - a).natAbs / c.natAbs = q at *
      by_cases e : q = 18446744073709551615
      · subst e; rfl
      · rw [if_neg (by omega), if_neg e]; congr 1; omega
  · unfold times
    rw [if_neg h, if_pos (by simp [h])]
theorem rtimes_spec {k : Nat} {a b c : Int} (ha : -9223372036854775808 ≤ a ∧ a ≤ 9223372036854775807) (hb : -9223372036854775808 ≤ b ∧ b ≤ 9223372036854775807) (hc : -9223372036854775808 ≤ c ∧ c ≤ 9223372036854775807) :
    furrowref4_Times.f (k + 1) a b c = some (times a b c) := by
  have hj := @rtimes_j k a b c ha hb hc
  have hg := goes_iff a b c
  unfold furrowref4_Times.f
  repeat' split
  all_goals (rw [← hj]; congr 1; by_cases h : goes a b c <;> simp [h] <;> (unfold goes at h; omega))
theorem rlast_j {k : Nat} {a b c : Int} (ha : -9223372036854775808 ≤ a ∧ a ≤ 9223372036854775807) (hb : -9223372036854775808 ≤ b ∧ b ≤ 9223372036854775807) (hc : -9223372036854775808 ≤ c ∧ c ≤ 9223372036854775807) :
    furrowref4_Last.j0 (k + 1) a b c (!decide (goes a b c)) = some (last a b c) := by
  have hin := @last_in a b c ha hb
  simp only [furrowref4_Last.j0]
  by_cases h : goes a b c
  · have h1 := goes_c h
    have hq := @goes_q a b c ha hb
    unfold last at hin ⊢
    rw [if_pos h] at hin ⊢
    rw [if_neg (by simp [h])]
    simp only [rsize_spec hc, Option.bind_some, IntKind.wrap_u64]
    have e0 : ¬ ((c.natAbs : Int) = 0) := by omega
    have e1 : (if c < 0 then ((a % 18446744073709551616 - b % 18446744073709551616) % 18446744073709551616) else ((b % 18446744073709551616 - a % 18446744073709551616) % 18446744073709551616)) = ((b - a).natAbs : Int) := by
      rcases h with h | h
      · rw [if_neg (by omega)]; omega
      · rw [if_pos (by omega)]; omega
    have e2 : ∀ q : Nat, q ≤ 18446744073709551615 → -9223372036854775808 ≤ a + (q : Int) * c → a + (q : Int) * c ≤ 9223372036854775807 →
        wrap64 ((a % 18446744073709551616 + ((q : Int) % 18446744073709551616 * (c % 18446744073709551616)) % 18446744073709551616) % 18446744073709551616) = a + (q : Int) * c := by
      intro q hq l1 l2
      rw [← Int.mul_emod]
      generalize (q : Int) * c = p at *
      unfold wrap64; omega
    by_cases hc0 : c < 0
    · rw [if_pos hc0] at e1 ⊢
      rw [e1, if_neg e0, Int.tdiv_eq_ediv_of_nonneg (by omega), ← Int.natCast_ediv, e2 _ hq hin.1 hin.2]
    · rw [if_neg hc0] at e1 ⊢
      rw [e1, if_neg e0, Int.tdiv_eq_ediv_of_nonneg (by omega), ← Int.natCast_ediv, e2 _ hq hin.1 hin.2]
  · unfold last
    rw [if_neg h, if_pos (by simp [h])]
theorem rlast_spec {k : Nat} {a b c : Int} (ha : -9223372036854775808 ≤ a ∧ a ≤ 9223372036854775807) (hb : -9223372036854775808 ≤ b ∧ b ≤ 9223372036854775807) (hc : -9223372036854775808 ≤ c ∧ c ≤ 9223372036854775807) :
    furrowref4_Last.f (k + 1) a b c = some (last a b c) := by
  have hj := @rlast_j k a b c ha hb hc
  have hg := goes_iff a b c
  unfold furrowref4_Last.f
  repeat' split
  all_goals (rw [← hj]; congr 1; by_cases h : goes a b c <;> simp [h] <;> (unfold goes at h; omega))
theorem wrap_mul (q c : Int) : ∃ m : Int, wrap64 (wrap64 q * c) = wrap64 (q * c) := by
  exact ⟨0, by
    obtain ⟨m, e⟩ : ∃ m : Int, wrap64 q = q + m * 18446744073709551616 := ⟨-((q + 9223372036854775808) / 18446744073709551616), by unfold wrap64; omega⟩
    have e2 : wrap64 q * c = q * c + (m * c) * 18446744073709551616 := by rw [e, Int.add_mul, Int.mul_assoc, Int.mul_comm 18446744073709551616 c, ← Int.mul_assoc]
    rw [e2]
    generalize q * c = p
    generalize m * c = r
    unfold wrap64; omega⟩
theorem wrap_add (a p : Int) : wrap64 (a + wrap64 p) = wrap64 (a + p) := by unfold wrap64; omega
theorem wrap_u (q : Int) : wrap64 (IntKind.u64.wrap q) = wrap64 q := by rw [IntKind.wrap_u64]; unfold wrap64; omega
theorem NestIndex : furrowlaw13_NestIndex.Pure := by
  intro a b c d ha hb hc hd
  have ha := i64_of ha
  have hb := i64_of hb
  have hc := i64_of hc
  refine ⟨1, ?_⟩
  unfold furrowlaw13_NestIndex.f
  have hk : furrowlaw13_known.f = some true := rfl
  have hin := @last_in a b c ha hb
  have h0 : wrap64 (a + wrap64 (0 * c)) = a := by rw [wrap_add, Int.zero_mul, Int.add_zero, w64 ha]
  have h1 : 0 < times a b c → times a b c < 18446744073709551615 → wrap64 (a + wrap64 (wrap64 (IntKind.u64.wrap (times a b c - 1)) * c)) = last a b c := by
    intro l1 l2
    obtain ⟨_, e⟩ := wrap_mul (times a b c - 1) c
    rw [wrap_u, e, wrap_add]
    unfold times at l1 l2 ⊢
    by_cases h : goes a b c
    · rw [if_pos h] at l1 l2 ⊢
      by_cases hq : (b - a).natAbs / c.natAbs = 18446744073709551615
      · rw [if_pos hq] at l2; omega
      · rw [if_neg hq] at l2 ⊢
        unfold last at hin ⊢
        rw [if_pos h] at hin ⊢
        rw [Int.add_sub_cancel, w64 hin]
    · rw [if_neg h] at l1; omega
  rw [hk]
  simp only [Option.bind_some, if_true, nest_Index.f]
  rw [rtimes_spec ha hb hc]
  simp only [Option.bind_some, rlast_spec ha hb hc, h0, if_true]
  have e9 : (wrap64 (a + wrap64 (d * c)) == wrap64 (a + wrap64 (d * c))) = true := beq_self_eq_true _
  by_cases l1 : times a b c > 0
  · rw [if_pos l1]
    by_cases l2 : times a b c < 18446744073709551615
    · rw [if_pos l2, if_pos (h1 l1 l2), e9]
    · rw [if_neg l2, e9]
  · rw [if_neg l1, e9]

end Go.Proofs.YtaoanbebgeeicaaGreatDoor.Pure
