/- Plain lemmas on systems: forms at a point, the greatest number that divides all; no program in sight. -/
import Derived.Test.YtkkpgjkjkcmcbaaDoorXx5
import Derived.Test.YtkkpgjkjkcmcbaaDoorXx10
import Derived.Laws.Bits64
namespace Go.Proofs.YtkkpgjkjkcmcbaaDoor.Pure
open Go.RowKit Go.Proofs.YtkkpgjkjkcmcbaaDoor.X Go.Proofs.YtkkpgjkjkcmcbaaDoor.Flt Go.Proofs.YtkkpgjkjkcmcbaaDoor.H Go.Proofs.YtkkpgjkjkcmcbaaDoorW.PrintWords Go.Proofs.YtkkpgjkjkcmcbaaDoorW.PrintLast Go.Proofs.YtkkpgjkjkcmcbaaDoorW.PrintMore
set_option linter.unusedVariables false
set_option linter.unusedSimpArgs false
theorem w64 {a : Int} (h : -9223372036854775808 ≤ a ∧ a ≤ 9223372036854775807) : wrap64 a = a := by unfold wrap64; omega

/-! systems: forms at a point -/
def dot : List Int → List Int → Int
  | c :: cs, x :: xs => c * x + dot cs xs
  | _, _ => 0
def inC (c : Int) : Prop := -1073741824 ≤ c ∧ c ≤ 1073741824
def inP (x : Int) : Prop := -268435456 ≤ x ∧ x ≤ 268435456
theorem mul_in {c x : Int} (hc : inC c) (hx : inP x) : -288230376151711744 ≤ c * x ∧ c * x ≤ 288230376151711744 := by
  have h1 : c.natAbs ≤ 1073741824 := by unfold inC at hc; omega
  have h2 : x.natAbs ≤ 268435456 := by unfold inP at hx; omega
  have h3 : (c * x).natAbs ≤ 1073741824 * 268435456 := by rw [Int.natAbs_mul]; exact Nat.mul_le_mul h1 h2
  omega
theorem rd_at (l : List Int) (i : Nat) (h : i < l.length) : rd l (i : Int) = l[i] := by
  unfold rd; rw [Int.toNat_natCast, List.getD_eq_getElem?_getD, List.getElem?_eq_getElem h]; rfl
theorem of_l0 (C p : List Int) (hlen : C.length ≤ p.length) (hC : ∀ c ∈ C, inC c) (hp : ∀ x ∈ p, inP x) (hn : C.length ≤ 16) : ∀ (d i k : Nat) (s : Int), i + d = C.length → d < k → -(2147483648 + (i : Int) * 288230376151711744) ≤ s → s ≤ 2147483648 + (i : Int) * 288230376151711744 →
    sys_of.l0 k p s C (C.length : Int) (i : Int) = some (s + dot (C.drop i) (p.drop i)) := by
  intro d
  induction d with
  | zero =>
    intro i k s hi hk h1 h2
    obtain ⟨k, rfl⟩ : ∃ m, k = m + 1 := ⟨k - 1, by omega⟩
    simp only [sys_of.l0]
    rw [if_neg (by omega), List.drop_eq_nil_of_le (by omega)]
    simp [dot]
  | succ d ih =>
    intro i k s hi hk h1 h2
    obtain ⟨k, rfl⟩ : ∃ m, k = m + 1 := ⟨k - 1, by omega⟩
    have hlt : i < C.length := by omega
    have hlp : i < p.length := by omega
    have hm := mul_in (hC _ (List.getElem_mem hlt)) (hp _ (List.getElem_mem hlp))
    have hw : wrap64 ((i : Int) + 1) = ((i + 1 : Nat) : Int) := by unfold wrap64; omega
    have hdC : C.drop i = C[i] :: C.drop (i + 1) := List.drop_eq_getElem_cons hlt
    have hdp : p.drop i = p[i] :: p.drop (i + 1) := List.drop_eq_getElem_cons hlp
    simp only [sys_of.l0]
    have hdot : dot (C[i] :: C.drop (i + 1)) (p[i] :: p.drop (i + 1)) = C[i] * p[i] + dot (C.drop (i + 1)) (p.drop (i + 1)) := rfl
    rw [if_pos (by omega), if_pos (by omega), if_pos (by omega), if_pos (by omega), rd_at C i hlt, rd_at p i hlp, hw, hdC, hdp, hdot]
    generalize C[i] * p[i] = q at *
    have hq : wrap64 q = q := by unfold wrap64; omega
    have hs : wrap64 (s + q) = s + q := by unfold wrap64; omega
    rw [hq, hs, ih (i + 1) k (s + q) (by omega) (by omega) (by omega) (by omega), Int.add_assoc]
theorem of_spec (C p : List Int) (K : Int) (hK : inC K) (hlen : C.length ≤ p.length) (hC : ∀ c ∈ C, inC c) (hp : ∀ x ∈ p, inP x) (hn : C.length ≤ 16) (k : Nat) (hk : C.length < k) : sys_of.f k C K p = some (K + dot C p) := by
  unfold inC at hK
  unfold sys_of.f
  have h := of_l0 C p hlen hC hp hn C.length 0 k K (by omega) hk (by omega) (by omega)
  rw [List.drop_zero, List.drop_zero] at h
  exact h
theorem value_l0 (C p : List Int) (K : Int) (hlen : C.length ≤ p.length) (hC : ∀ c ∈ C, inC c) (hp : ∀ x ∈ p, inP x) (hn : C.length ≤ 16) : ∀ (d i k : Nat) (s : Int), i + d = C.length → d < k → -(2147483648 + (i : Int) * 288230376151711744) ≤ s → s ≤ 2147483648 + (i : Int) * 288230376151711744 →
    furrowref20_value.l0 k p s (i : Int) C K = some (s + dot (C.drop i) (p.drop i)) := by
  intro d
  induction d with
  | zero =>
    intro i k s hi hk h1 h2
    obtain ⟨k, rfl⟩ : ∃ m, k = m + 1 := ⟨k - 1, by omega⟩
    simp only [furrowref20_value.l0]
    rw [List.drop_eq_nil_of_le (by omega)]
    have e : ∀ l : List Int, s + dot [] l = s := fun l => by simp [dot]
    rw [e]
    split
    · rw [if_neg (by omega)]
    · rfl
  | succ d ih =>
    intro i k s hi hk h1 h2
    obtain ⟨k, rfl⟩ : ∃ m, k = m + 1 := ⟨k - 1, by omega⟩
    have hlt : i < C.length := by omega
    have hlp : i < p.length := by omega
    have hm := mul_in (hC _ (List.getElem_mem hlt)) (hp _ (List.getElem_mem hlp))
    have hw : wrap64 ((i : Int) + 1) = ((i + 1 : Nat) : Int) := by unfold wrap64; omega
    have hdC : C.drop i = C[i] :: C.drop (i + 1) := List.drop_eq_getElem_cons hlt
    have hdp : p.drop i = p[i] :: p.drop (i + 1) := List.drop_eq_getElem_cons hlp
    simp only [furrowref20_value.l0]
    have hdot : dot (C[i] :: C.drop (i + 1)) (p[i] :: p.drop (i + 1)) = C[i] * p[i] + dot (C.drop (i + 1)) (p.drop (i + 1)) := rfl
    rw [if_pos (by omega), if_pos (by omega), if_pos (by omega), rd_at C i hlt, rd_at p i hlp, hw, hdC, hdp, hdot]
    generalize C[i] * p[i] = q at *
    have hq : wrap64 q = q := by unfold wrap64; omega
    have hs : wrap64 (s + q) = s + q := by unfold wrap64; omega
    rw [hq, hs, ih (i + 1) k (s + q) (by omega) (by omega) (by omega) (by omega), Int.add_assoc]
theorem value_spec (C p : List Int) (K : Int) (hK : inC K) (hlen : C.length ≤ p.length) (hC : ∀ c ∈ C, inC c) (hp : ∀ x ∈ p, inP x) (hn : C.length ≤ 16) (k : Nat) (hk : C.length < k) : furrowref20_value.f k C K p = some (K + dot C p) := by
  unfold inC at hK
  unfold furrowref20_value.f
  have h := value_l0 C p K hlen hC hp hn C.length 0 k K (by omega) hk (by omega) (by omega)
  rw [List.drop_zero, List.drop_zero] at h
  exact h
/-! the greatest number that divides all -/
theorem size_nat {a : Int} (h : inC a) : num_size.f a = some (a.natAbs : Int) := by
  unfold inC at h
  unfold num_size.f; simp only [IntKind.wrap_u64]; split <;> (congr 1; omega)
theorem ngcd_l0 (b : Nat) : ∀ (a k : Nat), b < k → num_Gcd.l0 k (a : Int) (b : Int) = some ((Nat.gcd a b : Nat) : Int) := by
  induction b using Nat.strongRecOn with
  | _ b ih =>
    intro a k hk
    obtain ⟨k, rfl⟩ : ∃ m, k = m + 1 := ⟨k - 1, by omega⟩
    simp only [num_Gcd.l0]
    by_cases hb : b = 0
    · subst hb
      rw [if_neg (by omega), Nat.gcd_zero_right]
    · have hlt : a % b < b := Nat.mod_lt _ (by omega)
      have hm : Int.tmod (a : Int) (b : Int) = ((a % b : Nat) : Int) := by rw [Int.tmod_eq_emod_of_nonneg (by omega)]; rfl
      rw [if_pos (by omega), if_neg (by omega), hm, ih (a % b) hlt b k (by omega), Nat.gcd_comm a b, Nat.gcd_rec b a, Nat.gcd_comm]
theorem ngcd {c : Int} (hc : inC c) {k : Nat} (hk : 1 ≤ k) : num_Gcd.f k c 0 = some ((c.natAbs : Nat) : Int) := by
  have h0 : num_size.f 0 = some ((0 : Nat) : Int) := rfl
  unfold num_Gcd.f
  rw [size_nat hc, h0, Option.bind_some, Option.bind_some, ngcd_l0 0 c.natAbs k (by omega), Nat.gcd_zero_right]
/-- The greatest number that divides all, from one on. -/
def gL : Nat → List Int → Nat
  | g, [] => g
  | g, c :: cs => gL (Nat.gcd g c.natAbs) cs
theorem gcd_l1 (C : List Int) (i : Int) (M R : Nat) (n : Nat) : ∀ (g k : Nat), n + M < k → (∀ k', M ≤ k' → sys_gcd.l0 k' ((Nat.gcd g n : Nat) : Int) C (C.length : Int) (wrap64 (i + 1)) = some (R : Int)) → sys_gcd.l1 k (g : Int) (n : Int) C (C.length : Int) i = some (R : Int) := by
  induction n using Nat.strongRecOn with
  | _ n ih =>
    intro g k hk h
    obtain ⟨k, rfl⟩ : ∃ m, k = m + 1 := ⟨k - 1, by omega⟩
    simp only [sys_gcd.l1]
    by_cases hn : n = 0
    · subst hn
      rw [if_neg (by omega)]
      have := h k (by omega)
      rwa [Nat.gcd_zero_right] at this
    · have hlt : g % n < n := Nat.mod_lt _ (by omega)
      have hm : Int.tmod (g : Int) (n : Int) = ((g % n : Nat) : Int) := by rw [Int.tmod_eq_emod_of_nonneg (by omega)]; rfl
      rw [if_pos (by omega), if_neg (by omega), hm]
      refine ih (g % n) hlt n k (by omega) fun k' hk' => ?_
      have := h k' hk'
      rwa [Nat.gcd_comm g n, Nat.gcd_rec n g, Nat.gcd_comm] at this
theorem gcd_l0 (C : List Int) (hC : ∀ c ∈ C, inC c) (hn : C.length ≤ 16) : ∀ (d i k g : Nat), i + d = C.length → 1073741826 * d < k → sys_gcd.l0 k (g : Int) C (C.length : Int) (i : Int) = some ((gL g (C.drop i) : Nat) : Int) := by
  intro d
  induction d with
  | zero =>
    intro i k g hi hk
    obtain ⟨k, rfl⟩ : ∃ m, k = m + 1 := ⟨k - 1, by omega⟩
    simp only [sys_gcd.l0]
    rw [if_neg (by omega), List.drop_eq_nil_of_le (by omega)]
    rfl
  | succ d ih =>
    intro i k g hi hk
    obtain ⟨k, rfl⟩ : ∃ m, k = m + 1 := ⟨k - 1, by omega⟩
    have hlt : i < C.length := by omega
    have hw : wrap64 ((i : Int) + 1) = ((i + 1 : Nat) : Int) := by unfold wrap64; omega
    have hdC : C.drop i = C[i] :: C.drop (i + 1) := List.drop_eq_getElem_cons hlt
    have hc := hC _ (List.getElem_mem hlt)
    simp only [sys_gcd.l0]
    rw [if_pos (by omega), if_pos (by omega), if_pos (by omega), rd_at C i hlt, ngcd hc (by omega), Option.bind_some, hdC]
    show _ = some ((gL (Nat.gcd g C[i].natAbs) (C.drop (i + 1)) : Nat) : Int)
    by_cases hg : g = 0
    · subst hg
      rw [if_pos (by rfl), hw, ih (i + 1) k _ (by omega) (by omega), Nat.gcd_zero_left]
    · rw [if_neg (by omega)]
      by_cases h0 : C[i].natAbs = 0
      · rw [h0, if_neg (by omega), hw, ih (i + 1) k g (by omega) (by omega), Nat.gcd_zero_right]
      · rw [if_pos (by omega)]
        unfold inC at hc
        refine gcd_l1 C i (1073741826 * d + 1) _ _ g k (by omega) fun k' hk' => ?_
        rw [hw]
        exact ih (i + 1) k' _ (by omega) (by omega)
theorem gcd_spec (C : List Int) (hC : ∀ c ∈ C, inC c) (hn : C.length ≤ 16) (k : Nat) (hk : 17179869217 ≤ k) : sys_gcd.f k C = some ((gL 0 C : Nat) : Int) := by
  unfold sys_gcd.f
  have h := gcd_l0 C hC hn C.length 0 k 0 (by omega) (by omega)
  rw [List.drop_zero] at h
  exact h
theorem gL_dvd : ∀ (C : List Int) (g : Nat), gL g C ∣ g ∧ ∀ c ∈ C, gL g C ∣ c.natAbs
  | [], g => ⟨Nat.dvd_refl g, by simp⟩
  | c :: cs, g => by
    obtain ⟨h1, h2⟩ := gL_dvd cs (Nat.gcd g c.natAbs)
    refine ⟨Nat.dvd_trans h1 (Nat.gcd_dvd_left _ _), fun x hx => ?_⟩
    rcases List.mem_cons.1 hx with rfl | hx
    · exact Nat.dvd_trans h1 (Nat.gcd_dvd_right _ _)
    · exact h2 x hx
theorem gL_zero {C : List Int} (h : gL 0 C = 0) : ∀ c ∈ C, c = 0 := by
  intro c hc
  have := (gL_dvd C 0).2 c hc
  rw [h, Nat.zero_dvd] at this
  omega
theorem gL_le {C : List Int} (hC : ∀ c ∈ C, inC c) : gL 0 C ≤ 1073741824 := by
  by_cases hz : ∀ c ∈ C, c = 0
  · have : ∀ (C : List Int), (∀ c ∈ C, c = 0) → gL 0 C = 0 := by
      intro C
      induction C with
      | nil => intro _; rfl
      | cons c cs ih =>
        intro h
        have hc : c = 0 := h c (by simp)
        subst hc
        show gL (Nat.gcd 0 0) cs = 0
        exact ih fun x hx => h x (by simp [hx])
    rw [this C hz]; omega
  · obtain ⟨c, hc⟩ := Classical.not_forall.1 hz
    obtain ⟨hm, h0⟩ := Classical.not_imp.1 hc
    have h1 := (gL_dvd C 0).2 c hm
    have h2 := hC c hm
    unfold inC at h2
    have := Nat.le_of_dvd (by omega) h1
    omega

end Go.Proofs.YtkkpgjkjkcmcbaaDoor.Pure
