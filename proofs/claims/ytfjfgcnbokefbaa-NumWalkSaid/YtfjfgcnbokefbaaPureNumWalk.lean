/- NumWalk: a loop's turns, walked one by one, are as many as are told, and the last one is as it is told; no conditions. -/
import Derived.Test.YtfjfgcnbokefbaaPNumWalkx2
import Derived.Laws.Bits64
namespace Go.Proofs.Ytfjfgcnbokefbaa.Pure
open Go.RowKit Go.Proofs.Ytfjfgcnbokefbaa.PNumWalk Go.Proofs.YtfjfgcnbokefbaaW.PrintWords Go.Proofs.YtfjfgcnbokefbaaW.PrintLast

namespace NumWalk
/-! numbers -/
theorem i64_of {a : Int} (h : (Lit.int .i64 a).wf = true) : -9223372036854775808 ≤ a ∧ a ≤ 9223372036854775807 := by
  simp only [Lit.wf, IntKind.min, IntKind.max, IntKind.signed, IntKind.bits, Bool.and_eq_true, decide_eq_true_eq, if_true] at h
  omega
theorem w64 {a : Int} (h : -9223372036854775808 ≤ a ∧ a ≤ 9223372036854775807) : wrap64 a = a := by unfold wrap64; omega
theorem size_spec {a : Int} (h : -9223372036854775808 ≤ a ∧ a ≤ 9223372036854775807) : num_size.f a = some (a.natAbs : Int) := by
  unfold num_size.f; simp only [IntKind.wrap_u64]; split <;> (congr 1; omega)
theorem way_neg {a b c : Int} (hc : c < 0) (h : -9223372036854775808 ≤ c) : num_way.f a b c = some ((a - b) % 18446744073709551616, (c.natAbs : Int), decide (a ≥ b)) := by
  unfold num_way.f; rw [if_pos hc, size_spec ⟨h, by omega⟩]; simp only [Option.bind_some, IntKind.wrap_u64]; congr 2; omega
theorem way_pos {a b c : Int} (hc : 0 < c) (h : c ≤ 9223372036854775807) : num_way.f a b c = some ((b - a) % 18446744073709551616, (c.natAbs : Int), decide (b ≥ a)) := by
  unfold num_way.f; rw [if_neg (by omega), if_pos hc, size_spec ⟨by omega, h⟩]; simp only [Option.bind_some, IntKind.wrap_u64]; congr 2; omega
theorem way_zero {a b : Int} : num_way.f a b 0 = some (0, 0, false) := rfl
/-- does a loop go? -/
def goes (a b c : Int) : Prop := (0 < c ∧ a ≤ b) ∨ (c < 0 ∧ b ≤ a)
theorem way_on {a b c : Int} (ha : -9223372036854775808 ≤ a ∧ a ≤ 9223372036854775807) (hb : -9223372036854775808 ≤ b ∧ b ≤ 9223372036854775807) (hc : -9223372036854775808 ≤ c ∧ c ≤ 9223372036854775807) (h : goes a b c) :
    num_way.f a b c = some (((b - a).natAbs : Int), (c.natAbs : Int), true) := by
  rcases h with ⟨h, h'⟩ | ⟨h, h'⟩
  · rw [way_pos h hc.2]; congr 2
    · omega
    · congr 1; exact decide_eq_true h'
  · rw [way_neg h hc.1]; congr 2
    · omega
    · congr 1; exact decide_eq_true h'
theorem way_off {a b c : Int} (hc : -9223372036854775808 ≤ c ∧ c ≤ 9223372036854775807) (h : ¬ goes a b c) :
    ∃ x y, num_way.f a b c = some (x, y, false) := by
  unfold goes at h
  rcases Int.lt_trichotomy c 0 with h0 | h0 | h0
  · exact ⟨_, _, by rw [way_neg h0 hc.1]; congr 3; exact decide_eq_false (by omega)⟩
  · subst h0; exact ⟨_, _, rfl⟩
  · exact ⟨_, _, by rw [way_pos h0 hc.2]; congr 3; exact decide_eq_false (by omega)⟩
instance (a b c : Int) : Decidable (goes a b c) := by unfold goes; infer_instance
def times (a b c : Int) : Int := if goes a b c then (if (b - a).natAbs / c.natAbs = 18446744073709551615 then 18446744073709551615 else (((b - a).natAbs / c.natAbs : Nat) : Int) + 1) else 0
def last (a b c : Int) : Int := if goes a b c then a + (((b - a).natAbs / c.natAbs : Nat) : Int) * c else a
theorem goes_c {a b c : Int} (h : goes a b c) : 1 ≤ c.natAbs := by unfold goes at h; omega
theorem goes_q {a b c : Int} (ha : -9223372036854775808 ≤ a ∧ a ≤ 9223372036854775807) (hb : -9223372036854775808 ≤ b ∧ b ≤ 9223372036854775807) : (b - a).natAbs / c.natAbs ≤ 18446744073709551615 :=
  Nat.le_trans (Nat.div_le_self _ _) (by omega)
theorem times_spec {a b c : Int} (ha : -9223372036854775808 ≤ a ∧ a ≤ 9223372036854775807) (hb : -9223372036854775808 ≤ b ∧ b ≤ 9223372036854775807) (hc : -9223372036854775808 ≤ c ∧ c ≤ 9223372036854775807) :
    num_Times.f a b c = some (times a b c) := by
  unfold num_Times.f times
  by_cases h : goes a b c
  · have h1 := goes_c h
    have hq := @goes_q a b c ha hb
    rw [way_on ha hb hc h, if_pos h]
    simp only [Option.bind_some, if_true, IntKind.wrap_u64]
    rw [if_neg (by omega), Int.tdiv_eq_ediv_of_nonneg (by omega), ← Int.natCast_ediv]
    generalize (b - a).natAbs / c.natAbs = q at *
    by_cases e : q = 18446744073709551615
    · subst e; rfl
    · rw [if_neg (by omega), if_neg e]; congr 1; omega
  · obtain ⟨x, y, e⟩ := way_off hc h
    rw [e, if_neg h]; rfl
theorem last_mul {a b c : Int} (h : goes a b c) : (((b - a).natAbs / c.natAbs : Nat) : Int) * c = (if c < 0 then -1 else 1) * (((b - a).natAbs : Int) - (((b - a).natAbs % c.natAbs : Nat) : Int)) := by
  have e := Nat.div_add_mod (b - a).natAbs c.natAbs
  have e' : (c.natAbs : Int) * (((b - a).natAbs / c.natAbs : Nat) : Int) + (((b - a).natAbs % c.natAbs : Nat) : Int) = ((b - a).natAbs : Int) := by exact_mod_cast e
  rw [Int.mul_comm]
  rcases h with ⟨h, _⟩ | ⟨h, _⟩
  · rw [if_neg (by omega)]
    have hc : (c.natAbs : Int) = c := by omega
    rw [hc] at e'; omega
  · rw [if_pos h]
    have hc : c = -(c.natAbs : Int) := by omega
    generalize (c.natAbs : Int) = d at *
    subst hc
    rw [Int.neg_mul]; omega
theorem last_between {a b c : Int} (h : goes a b c) : (a ≤ b ∧ a ≤ last a b c ∧ last a b c ≤ b) ∨ (b ≤ a ∧ b ≤ last a b c ∧ last a b c ≤ a) := by
  have hm := last_mul h
  have hr : (b - a).natAbs % c.natAbs ≤ (b - a).natAbs := Nat.mod_le _ _
  unfold last
  rw [if_pos h, hm]
  rcases h with ⟨h, h'⟩ | ⟨h, h'⟩
  · rw [if_neg (by omega)]; omega
  · rw [if_pos h]; omega
theorem last_in {a b c : Int} (ha : -9223372036854775808 ≤ a ∧ a ≤ 9223372036854775807) (hb : -9223372036854775808 ≤ b ∧ b ≤ 9223372036854775807) : -9223372036854775808 ≤ last a b c ∧ last a b c ≤ 9223372036854775807 := by
  by_cases h : goes a b c
  · rcases last_between h with h | h <;> omega
  · unfold last; rw [if_neg h]; exact ha
theorem last_spec {a b c : Int} (ha : -9223372036854775808 ≤ a ∧ a ≤ 9223372036854775807) (hb : -9223372036854775808 ≤ b ∧ b ≤ 9223372036854775807) (hc : -9223372036854775808 ≤ c ∧ c ≤ 9223372036854775807) :
    num_Last.f a b c = some (last a b c) := by
  have hin := @last_in a b c ha hb
  unfold num_Last.f
  by_cases h : goes a b c
  · have h1 := goes_c h
    have hm := last_mul h
    have hr : (b - a).natAbs % c.natAbs ≤ (b - a).natAbs := Nat.mod_le _ _
    unfold last at hin ⊢
    rw [if_pos h] at hin ⊢
    rw [way_on ha hb hc h]
    rw [hm] at hin ⊢
    have e0 : ¬ ((c.natAbs : Int) = 0) := by omega
    simp only [Option.bind_some, if_true, IntKind.wrap_u64, if_neg e0]
    rw [Int.tmod_eq_emod_of_nonneg (by omega), ← Int.natCast_emod]
    generalize (b - a).natAbs % c.natAbs = r at *
    by_cases hc0 : c < 0
    · rw [if_pos hc0] at hin ⊢
      rw [if_pos hc0]; congr 1; unfold wrap64; omega
    · rw [if_neg hc0] at hin ⊢
      rw [if_neg hc0]; congr 1; unfold wrap64; omega
  · obtain ⟨x, y, e⟩ := way_off (b := b) hc h
    rw [e]; unfold last; rw [if_neg h]; rfl

end NumWalk
open NumWalk
theorem i16_of {a : Int} (h : (Lit.int .i16 a).wf = true) : -32768 ≤ a ∧ a ≤ 32767 := by
  simp only [Lit.wf, IntKind.min, IntKind.max, IntKind.signed, IntKind.bits, Bool.and_eq_true, decide_eq_true_eq, if_true] at h
  omega
theorem walked {a b s : Int} {m : Nat} (hm : m ≤ 1000000) (h : goes (a + (m : Int) * s) b s) (h' : ¬ goes (a + (m : Int) * s + s) b s) :
    times a b s = (m : Int) + 1 ∧ last a b s = a + (m : Int) * s := by
  have hs := goes_c h
  have hg : goes a b s ∧ (b - a).natAbs / s.natAbs = m := by
    unfold goes at h h' ⊢
    rcases Int.lt_trichotomy s 0 with h0 | h0 | h0
    · obtain ⟨d, rfl⟩ : ∃ d : Nat, s = -(d : Int) := ⟨s.natAbs, by omega⟩
      rw [Int.mul_neg, ← Int.natCast_mul] at h h'
      have hd : (-(d : Int)).natAbs = d := by omega
      rw [hd]
      refine ⟨by omega, Nat.div_eq_of_lt_le (by omega) ?_⟩
      rw [Nat.succ_mul]; omega
    · omega
    · obtain ⟨d, rfl⟩ : ∃ d : Nat, s = (d : Int) := ⟨s.natAbs, by omega⟩
      rw [← Int.natCast_mul] at h h'
      have hd : (d : Int).natAbs = d := by omega
      rw [hd]
      refine ⟨by omega, Nat.div_eq_of_lt_le (by omega) ?_⟩
      rw [Nat.succ_mul]; omega
  unfold times last
  rw [if_pos hg.1, if_pos hg.1, hg.2, if_neg (by omega)]
  exact ⟨rfl, rfl⟩
theorem walk_l {a b s : Int} (ha : -32768 ≤ a ∧ a ≤ 32767) (hb : -32768 ≤ b ∧ b ≤ 32767) (hs : -32768 ≤ s ∧ s ≤ 32767) (hs0 : s ≠ 0) (d : Nat) :
    ∀ (k m : Nat) (x l : Int), d < k → (s > 0 → b - x < d) → (s < 0 → x - b < d) → x = a + (m : Int) * s → (m = 0 → l = a) → (0 < m → l = x - s ∧ goes l b s) →
      (s > 0 → a + (m : Int) ≤ x ∧ x ≤ 65535) → (s < 0 → x ≤ a - (m : Int) ∧ -65536 ≤ x) → furrowlaw1_NumWalk.l0 k a b (m : Int) l s x = some true := by
  have wa : wrap64 a = a := w64 (by omega)
  have wb : wrap64 b = b := w64 (by omega)
  induction d with
  | zero =>
    intro k m x l hk h1 h2 hx hl0 hl1 hp hn
    obtain ⟨k, rfl⟩ : ∃ j, k = j + 1 := ⟨k - 1, by omega⟩
    have fin : times a b s = (m : Int) ∧ last a b s = l := by
      cases m with
      | zero =>
        have hng : ¬ goes a b s := by unfold goes; simp at hx; omega
        unfold times last; rw [if_neg hng, if_neg hng, hl0 rfl]; exact ⟨rfl, rfl⟩
      | succ m =>
        obtain ⟨e, hg⟩ := hl1 (by omega)
        have e1 : ((m + 1 : Nat) : Int) * s = (m : Int) * s + s := by rw [Int.natCast_add, Int.add_mul]; simp
        have e2 : l = a + (m : Int) * s := by omega
        have := @walked a b s m (by omega) (by rw [← e2]; exact hg) (by rw [← e2]; unfold goes; omega)
        rw [this.1, this.2]; exact ⟨by omega, e2.symm⟩
    have hT := @times_spec a b s (by omega) (by omega) (by omega)
    have hL := @last_spec a b s (by omega) (by omega) (by omega)
    simp only [furrowlaw1_NumWalk.l0, wa, wb, hT, hL, Option.bind_some, fin.1, fin.2]
    by_cases hsp : s > 0
    · rw [if_pos hsp, if_neg (by omega), if_neg (by omega)]; simp
    · rw [if_neg hsp, if_pos (by omega), if_neg (by omega)]; simp
  | succ d ih =>
    intro k m x l hk h1 h2 hx hl0 hl1 hp hn
    obtain ⟨k, rfl⟩ : ∃ j, k = j + 1 := ⟨k - 1, by omega⟩
    by_cases hg : goes x b s
    · have e1 : ((m + 1 : Nat) : Int) * s = (m : Int) * s + s := by rw [Int.natCast_add, Int.add_mul]; simp
      have em : IntKind.u64.wrap ((m : Int) + 1) = ((m + 1 : Nat) : Int) := by rw [IntKind.wrap_u64]; omega
      have ex : wrap64 (x + s) = x + s := w64 (by omega)
      have hg' := hg
      unfold goes at hg'
      have hr := ih k (m + 1) (x + s) x (by omega) (by omega) (by omega) (by omega) (by omega) (fun _ => ⟨by omega, hg⟩) (by omega) (by omega)
      simp only [furrowlaw1_NumWalk.l0, wb, em, ex]
      by_cases hsp : s > 0
      · rw [if_pos hsp, if_pos (by omega)]; exact hr
      · rw [if_neg hsp, if_pos (by omega), if_pos (by omega)]; exact hr
    · have hg' := hg
      unfold goes at hg'
      have fin : times a b s = (m : Int) ∧ last a b s = l := by
        cases m with
        | zero =>
          have hng : ¬ goes a b s := by unfold goes; simp at hx; omega
          unfold times last; rw [if_neg hng, if_neg hng, hl0 rfl]; exact ⟨rfl, rfl⟩
        | succ m =>
          obtain ⟨e, hg⟩ := hl1 (by omega)
          have e1 : ((m + 1 : Nat) : Int) * s = (m : Int) * s + s := by rw [Int.natCast_add, Int.add_mul]; simp
          have e2 : l = a + (m : Int) * s := by omega
          have := @walked a b s m (by omega) (by rw [← e2]; exact hg) (by rw [← e2]; unfold goes; omega)
          rw [this.1, this.2]; exact ⟨by omega, e2.symm⟩
      have hT := @times_spec a b s (by omega) (by omega) (by omega)
      have hL := @last_spec a b s (by omega) (by omega) (by omega)
      simp only [furrowlaw1_NumWalk.l0, wa, wb, hT, hL, Option.bind_some, fin.1, fin.2]
      by_cases hsp : s > 0
      · rw [if_pos hsp, if_neg (by omega), if_neg (by omega)]; simp
      · rw [if_neg hsp, if_pos (by omega), if_neg (by omega)]; simp
theorem known_yes : furrowlaw1_known.f 10 = some true := by decide +kernel
theorem NumWalk : furrowlaw1_NumWalk.Pure := by
  intro a b c ha hb hc
  have ha := i16_of ha
  have hb := i16_of hb
  have hc := i16_of hc
  refine ⟨200000, ?_⟩
  unfold furrowlaw1_NumWalk.f
  rw [at_rounds furrowlaw1_known.mono (by omega) known_yes]
  simp only [Option.bind_some, if_true]
  rw [w64 (a := a) (by omega), w64 (a := b) (by omega), w64 (a := c) (by omega)]
  by_cases h0 : c = 0
  · rw [if_pos h0, times_spec (by omega) (by omega) (by omega)]; unfold times goes; simp
  · rw [if_neg h0]
    exact walk_l ha hb hc h0 100000 200000 0 a a (by omega) (by omega) (by omega) (by simp) (fun _ => rfl) (fun h => by omega) (by omega) (by omega)

end Go.Proofs.Ytfjfgcnbokefbaa.Pure
