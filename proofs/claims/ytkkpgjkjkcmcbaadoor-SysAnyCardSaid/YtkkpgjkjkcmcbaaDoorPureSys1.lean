/- Forms at a point, what divides all; no conditions. -/
import Derived.Test.YtkkpgjkjkcmcbaaDoorXx1
import Derived.Test.YtkkpgjkjkcmcbaaDoorXx15
import Derived.Laws.Bits64
import Derived.Test.YtkkpgjkjkcmcbaaDoorXx4
import Derived.Test.YtkkpgjkjkcmcbaaDoorXx5
import Derived.Test.YtkkpgjkjkcmcbaaDoorXx7
import Derived.Test.YtkkpgjkjkcmcbaaDoorHandH
namespace Go.Proofs.YtkkpgjkjkcmcbaaDoor.Pure
open Go.RowKit Go.Proofs.YtkkpgjkjkcmcbaaDoor.X Go.Proofs.YtkkpgjkjkcmcbaaDoor.Flt Go.Proofs.YtkkpgjkjkcmcbaaDoor.H Go.Proofs.YtkkpgjkjkcmcbaaDoorW.PrintWords Go.Proofs.YtkkpgjkjkcmcbaaDoorW.PrintLast Go.Proofs.YtkkpgjkjkcmcbaaDoorW.PrintMore
set_option linter.unusedVariables false
set_option linter.unusedSimpArgs false
theorem w64 {a : Int} (h : -9223372036854775808 ≤ a ∧ a ≤ 9223372036854775807) : wrap64 a = a := by unfold wrap64; omega

/-! systems: forms at a point -/
def dot : List Int → List Int → Int
  | c :: cs, x :: xs => c * x + dot cs xs
  | _, _ => 0
def inC (c : Int) : Prop := -1073741824 ≤ c ∧ c ≤ 1073741824
def inP (x : Int) : Prop := -268435456 ≤ x ∧ x ≤ 268435456
theorem mul_in {c x : Int} (hc : inC c) (hx : inP x) : -288230376151711744 ≤ c * x ∧ c * x ≤ 288230376151711744 := by
  have h1 : c.natAbs ≤ 1073741824 := by unfold inC at hc; omega
  have h2 : x.natAbs ≤ 268435456 := by unfold inP at hx; omega
  have h3 : (c * x).natAbs ≤ 1073741824 * 268435456 := by rw [Int.natAbs_mul]; exact Nat.mul_le_mul h1 h2
  omega
theorem rd_at (l : List Int) (i : Nat) (h : i < l.length) : rd l (i : Int) = l[i] := by
  unfold rd; rw [Int.toNat_natCast, List.getD_eq_getElem?_getD, List.getElem?_eq_getElem h]; rfl
theorem of_l0 (C p : List Int) (hlen : C.length ≤ p.length) (hC : ∀ c ∈ C, inC c) (hp : ∀ x ∈ p, inP x) (hn : C.length ≤ 16) : ∀ (d i k : Nat) (s : Int), i + d = C.length → d < k → -(2147483648 + (i : Int) * 288230376151711744) ≤ s → s ≤ 2147483648 + (i : Int) * 288230376151711744 →
    sys_of.l0 k p s C (C.length : Int) (i : Int) = some (s + dot (C.drop i) (p.drop i)) := by
  intro d
  induction d with
  | zero =>
    intro i k s hi hk h1 h2
    obtain ⟨k, rfl⟩ : ∃ m, k = m + 1 := ⟨k - 1, by omega⟩
    simp only [sys_of.l0]
    rw [if_neg (by omega), List.drop_eq_nil_of_le (by omega)]
    simp [dot]
  | succ d ih =>
    intro i k s hi hk h1 h2
    obtain ⟨k, rfl⟩ : ∃ m, k = m + 1 := ⟨k - 1, by omega⟩
    have hlt : i < C.length := by omega
    have hlp : i < p.length := by omega
    have hm := mul_in (hC _ (List.getElem_mem hlt)) (hp _ (List.getElem_mem hlp))
    have hw : wrap64 ((i : Int) + 1) = ((i + 1 : Nat) : Int) := by unfold wrap64; omega
    have hdC : C.drop i = C[i] :: C.drop (i + 1) := List.drop_eq_getElem_cons hlt
    have hdp : p.drop i = p[i] :: p.drop (i + 1) := List.drop_eq_getElem_cons hlp
    simp only [sys_of.l0]
    have hdot : dot (C[i] :: C.drop (i + 1)) (p[i] :: p.drop (i + 1)) = C[i] * p[i] + dot (C.drop (i + 1)) (p.drop (i + 1)) := rfl
    rw [if_pos (by omega), if_pos (by omega), if_pos (by omega), if_pos (by omega), rd_at C i hlt, rd_at p i hlp, hw, hdC, hdp, hdot]
    generalize C[i] * p[i] = q at *
    have hq : wrap64 q = q := by unfold wrap64; omega
    have hs : wrap64 (s + q) = s + q := by unfold wrap64; omega
    rw [hq, hs, ih (i + 1) k (s + q) (by omega) (by omega) (by omega) (by omega), Int.add_assoc]
theorem of_spec (C p : List Int) (K : Int) (hK : inC K) (hlen : C.length ≤ p.length) (hC : ∀ c ∈ C, inC c) (hp : ∀ x ∈ p, inP x) (hn : C.length ≤ 16) (k : Nat) (hk : C.length < k) : sys_of.f k C K p = some (K + dot C p) := by
  unfold inC at hK
  unfold sys_of.f
  have h := of_l0 C p hlen hC hp hn C.length 0 k K (by omega) hk (by omega) (by omega)
  rw [List.drop_zero, List.drop_zero] at h
  exact h
theorem value_l0 (C p : List Int) (K : Int) (hlen : C.length ≤ p.length) (hC : ∀ c ∈ C, inC c) (hp : ∀ x ∈ p, inP x) (hn : C.length ≤ 16) : ∀ (d i k : Nat) (s : Int), i + d = C.length → d < k → -(2147483648 + (i : Int) * 288230376151711744) ≤ s → s ≤ 2147483648 + (i : Int) * 288230376151711744 →
    furrowref20_value.l0 k p s (i : Int) C K = some (s + dot (C.drop i) (p.drop i)) := by
  intro d
  induction d with
  | zero =>
    intro i k s hi hk h1 h2
    obtain ⟨k, rfl⟩ : ∃ m, k = m + 1 := ⟨k - 1, by omega⟩
    simp only [furrowref20_value.l0]
    rw [List.drop_eq_nil_of_le (by omega)]
    have e : ∀ l : List Int, s + dot [] l = s := fun l => by simp [dot]
    rw [e]
    split
    · rw [if_neg (by omega)]
    · rfl
  | succ d ih =>
    intro i k s hi hk h1 h2
    obtain ⟨k, rfl⟩ : ∃ m, k = m + 1 := ⟨k - 1, by omega⟩
    have hlt : i < C.length := by omega
    have hlp : i < p.length := by omega
    have hm := mul_in (hC _ (List.getElem_mem hlt)) (hp _ (List.getElem_mem hlp))
    have hw : wrap64 ((i : Int) + 1) = ((i + 1 : Nat) : Int) := by unfold wrap64; omega
    have hdC : C.drop i = C[i] :: C.drop (i + 1) := List.drop_eq_getElem_cons hlt
    have hdp : p.drop i = p[i] :: p.drop (i + 1) := List.drop_eq_getElem_cons hlp
    simp only [furrowref20_value.l0]
    have hdot : dot (C[i] :: C.drop (i + 1)) (p[i] :: p.drop (i + 1)) = C[i] * p[i] + dot (C.drop (i + 1)) (p.drop (i + 1)) := rfl
    rw [if_pos (by omega), if_pos (by omega), if_pos (by omega), rd_at C i hlt, rd_at p i hlp, hw, hdC, hdp, hdot]
    generalize C[i] * p[i] = q at *
    have hq : wrap64 q = q := by unfold wrap64; omega
    have hs : wrap64 (s + q) = s + q := by unfold wrap64; omega
    rw [hq, hs, ih (i + 1) k (s + q) (by omega) (by omega) (by omega) (by omega), Int.add_assoc]
theorem value_spec (C p : List Int) (K : Int) (hK : inC K) (hlen : C.length ≤ p.length) (hC : ∀ c ∈ C, inC c) (hp : ∀ x ∈ p, inP x) (hn : C.length ≤ 16) (k : Nat) (hk : C.length < k) : furrowref20_value.f k C K p = some (K + dot C p) := by
  unfold inC at hK
  unfold furrowref20_value.f
  have h := value_l0 C p K hlen hC hp hn C.length 0 k K (by omega) hk (by omega) (by omega)
  rw [List.drop_zero, List.drop_zero] at h
  exact h
/-! the greatest number that divides all -/
theorem size_nat {a : Int} (h : inC a) : num_size.f a = some (a.natAbs : Int) := by
  unfold inC at h
  unfold num_size.f; simp only [IntKind.wrap_u64]; split <;> (congr 1; omega)
theorem ngcd_l0 (b : Nat) : ∀ (a k : Nat), b < k → num_Gcd.l0 k (a : Int) (b : Int) = some ((Nat.gcd a b : Nat) : Int) := by
  induction b using Nat.strongRecOn with
  | _ b ih =>
    intro a k hk
    obtain ⟨k, rfl⟩ : ∃ m, k = m + 1 := ⟨k - 1, by omega⟩
    simp only [num_Gcd.l0]
    by_cases hb : b = 0
    · subst hb
      rw [if_neg (by omega), Nat.gcd_zero_right]
    · have hlt : a % b < b := Nat.mod_lt _ (by omega)
      have hm : Int.tmod (a : Int) (b : Int) = ((a % b : Nat) : Int) := by rw [Int.tmod_eq_emod_of_nonneg (by omega)]; rfl
      rw [if_pos (by omega), if_neg (by omega), hm, ih (a % b) hlt b k (by omega), Nat.gcd_comm a b, Nat.gcd_rec b a, Nat.gcd_comm]
theorem ngcd {c : Int} (hc : inC c) {k : Nat} (hk : 1 ≤ k) : num_Gcd.f k c 0 = some ((c.natAbs : Nat) : Int) := by
  have h0 : num_size.f 0 = some ((0 : Nat) : Int) := rfl
  unfold num_Gcd.f
  rw [size_nat hc, h0, Option.bind_some, Option.bind_some, ngcd_l0 0 c.natAbs k (by omega), Nat.gcd_zero_right]
/-- The greatest number that divides all, from one on. -/
def gL : Nat → List Int → Nat
  | g, [] => g
  | g, c :: cs => gL (Nat.gcd g c.natAbs) cs
theorem gcd_l1 (C : List Int) (i : Int) (M R : Nat) (n : Nat) : ∀ (g k : Nat), n + M < k → (∀ k', M ≤ k' → sys_gcd.l0 k' ((Nat.gcd g n : Nat) : Int) C (C.length : Int) (wrap64 (i + 1)) = some (R : Int)) → sys_gcd.l1 k (g : Int) (n : Int) C (C.length : Int) i = some (R : Int) := by
  induction n using Nat.strongRecOn with
  | _ n ih =>
    intro g k hk h
    obtain ⟨k, rfl⟩ : ∃ m, k = m + 1 := ⟨k - 1, by omega⟩
    simp only [sys_gcd.l1]
    by_cases hn : n = 0
    · subst hn
      rw [if_neg (by omega)]
      have := h k (by omega)
      rwa [Nat.gcd_zero_right] at this
    · have hlt : g % n < n := Nat.mod_lt _ (by omega)
      have hm : Int.tmod (g : Int) (n : Int) = ((g % n : Nat) : Int) := by rw [Int.tmod_eq_emod_of_nonneg (by omega)]; rfl
      rw [if_pos (by omega), if_neg (by omega), hm]
      refine ih (g % n) hlt n k (by omega) fun k' hk' => ?_
      have := h k' hk'
      rwa [Nat.gcd_comm g n, Nat.gcd_rec n g, Nat.gcd_comm] at this
theorem gcd_l0 (C : List Int) (hC : ∀ c ∈ C, inC c) (hn : C.length ≤ 16) : ∀ (d i k g : Nat), i + d = C.length → 1073741826 * d < k → sys_gcd.l0 k (g : Int) C (C.length : Int) (i : Int) = some ((gL g (C.drop i) : Nat) : Int) := by
  intro d
  induction d with
  | zero =>
    intro i k g hi hk
    obtain ⟨k, rfl⟩ : ∃ m, k = m + 1 := ⟨k - 1, by omega⟩
    simp only [sys_gcd.l0]
    rw [if_neg (by omega), List.drop_eq_nil_of_le (by omega)]
    rfl
  | succ d ih =>
    intro i k g hi hk
    obtain ⟨k, rfl⟩ : ∃ m, k = m + 1 := ⟨k - 1, by omega⟩
    have hlt : i < C.length := by omega
    have hw : wrap64 ((i : Int) + 1) = ((i + 1 : Nat) : Int) := by unfold wrap64; omega
    have hdC : C.drop i = C[i] :: C.drop (i + 1) := List.drop_eq_getElem_cons hlt
    have hc := hC _ (List.getElem_mem hlt)
    simp only [sys_gcd.l0]
    rw [if_pos (by omega), if_pos (by omega), if_pos (by omega), rd_at C i hlt, ngcd hc (by omega), Option.bind_some, hdC]
    show _ = some ((gL (Nat.gcd g C[i].natAbs) (C.drop (i + 1)) : Nat) : Int)
    by_cases hg : g = 0
    · subst hg
      rw [if_pos (by rfl), hw, ih (i + 1) k _ (by omega) (by omega), Nat.gcd_zero_left]
    · rw [if_neg (by omega)]
      by_cases h0 : C[i].natAbs = 0
      · rw [h0, if_neg (by omega), hw, ih (i + 1) k g (by omega) (by omega), Nat.gcd_zero_right]
      · rw [if_pos (by omega)]
        unfold inC at hc
        refine gcd_l1 C i (1073741826 * d + 1) _ _ g k (by omega) fun k' hk' => ?_
        rw [hw]
        exact ih (i + 1) k' _ (by omega) (by omega)
theorem gcd_spec (C : List Int) (hC : ∀ c ∈ C, inC c) (hn : C.length ≤ 16) (k : Nat) (hk : 17179869217 ≤ k) : sys_gcd.f k C = some ((gL 0 C : Nat) : Int) := by
  unfold sys_gcd.f
  have h := gcd_l0 C hC hn C.length 0 k 0 (by omega) (by omega)
  rw [List.drop_zero] at h
  exact h
theorem gL_dvd : ∀ (C : List Int) (g : Nat), gL g C ∣ g ∧ ∀ c ∈ C, gL g C ∣ c.natAbs
  | [], g => ⟨Nat.dvd_refl g, by simp⟩
  | c :: cs, g => by
    obtain ⟨h1, h2⟩ := gL_dvd cs (Nat.gcd g c.natAbs)
    refine ⟨Nat.dvd_trans h1 (Nat.gcd_dvd_left _ _), fun x hx => ?_⟩
    rcases List.mem_cons.1 hx with rfl | hx
    · exact Nat.dvd_trans h1 (Nat.gcd_dvd_right _ _)
    · exact h2 x hx
theorem gL_zero {C : List Int} (h : gL 0 C = 0) : ∀ c ∈ C, c = 0 := by
  intro c hc
  have := (gL_dvd C 0).2 c hc
  rw [h, Nat.zero_dvd] at this
  omega
theorem gL_le {C : List Int} (hC : ∀ c ∈ C, inC c) : gL 0 C ≤ 1073741824 := by
  by_cases hz : ∀ c ∈ C, c = 0
  · have : ∀ (C : List Int), (∀ c ∈ C, c = 0) → gL 0 C = 0 := by
      intro C
      induction C with
      | nil => intro _; rfl
      | cons c cs ih =>
        intro h
        have hc : c = 0 := h c (by simp)
        subst hc
        show gL (Nat.gcd 0 0) cs = 0
        exact ih fun x hx => h x (by simp [hx])
    rw [this C hz]; omega
  · obtain ⟨c, hc⟩ := Classical.not_forall.1 hz
    obtain ⟨hm, h0⟩ := Classical.not_imp.1 hc
    have h1 := (gL_dvd C 0).2 c hm
    have h2 := hC c hm
    unfold inC at h2
    have := Nat.le_of_dvd (by omega) h1
    omega

/-! a form made tight -/
theorem floor_spec {a b : Int} (ha : -4611686018427387904 ≤ a ∧ a ≤ 4611686018427387904) (hb : 1 ≤ b ∧ b ≤ 4611686018427387904) {k : Nat} (hk : 1 ≤ k) : num_Floor.f k a b = some (a / b, true) := by
  obtain ⟨k, rfl⟩ : ∃ m, k = m + 1 := ⟨k - 1, by omega⟩
  have hd : a / b ≤ 4611686018427387904 ∧ -4611686018427387904 ≤ a / b := by
    constructor
    · exact Int.le_trans (Int.ediv_le_ediv (by omega) ha.2) (Int.ediv_le_self _ (by omega))
    · refine (Int.le_ediv_iff_mul_le (by omega)).2 ?_
      have : b * 4611686018427387904 ≥ 4611686018427387904 := by omega
      omega
  have ht : Int.tdiv a b = a / b + (if Int.tmod a b ≠ 0 ∧ a < 0 then 1 else 0) := by
    rw [Int.tdiv_eq_ediv]
    have hs : b.sign = 1 := Int.sign_eq_one_of_pos (by omega)
    have hm : Int.tmod a b = 0 ↔ b ∣ a := Int.dvd_iff_tmod_eq_zero.symm
    by_cases h0 : 0 ≤ a
    · rw [if_pos (.inl h0), if_neg (by omega)]
    · by_cases h1 : b ∣ a
      · rw [if_pos (.inr h1), if_neg (fun z => z.1 (hm.2 h1))]
      · rw [if_neg (fun z => z.elim (fun z => absurd z h0) h1), if_pos ⟨fun z => h1 (hm.1 z), by omega⟩, hs]
  unfold num_Floor.f
  rw [if_neg (by omega), if_neg (by omega)]
  simp only [num_Floor.j0]
  rw [if_neg (by simp), if_neg (by omega)]
  by_cases hm : Int.tmod a b = 0
  · rw [if_pos hm, ht, if_neg (by simp [hm]), Int.add_zero, w64 (by omega)]
  · rw [if_neg hm]
    by_cases h0 : a < 0
    · rw [if_pos (by simp [h0]; omega), ht, if_pos ⟨hm, h0⟩, w64 (a := a / b + 1) (by omega)]
      have : a / b + 1 - 1 = a / b := by omega
      rw [this, w64 (by omega)]
    · rw [if_neg (by simp [h0]; omega), ht, if_neg (by simp [h0]), Int.add_zero, w64 (by omega)]
def quoL (g : Int) (C : List Int) : List Int := C.map fun c => Int.tdiv c g
theorem tight_l0 (C : List Int) (K g : Int) (hg : 2 ≤ g ∧ g ≤ 1073741824) (hC : ∀ c ∈ C, inC c) (hK : inC K) (hn : C.length ≤ 16) : ∀ (d i k : Nat) (out : List Int), i + d = C.length → d + 1 < k → out.length = i →
    sys_tight.l0 k g C (C.length : Int) (i : Int) C K out 0 = some (out ++ quoL g (C.drop i), K / g, true, true) := by
  intro d
  induction d with
  | zero =>
    intro i k out hi hk ho
    obtain ⟨k, rfl⟩ : ∃ m, k = m + 1 := ⟨k - 1, by omega⟩
    unfold inC at hK
    simp only [sys_tight.l0]
    rw [if_neg (by omega), List.drop_eq_nil_of_le (by omega), floor_spec (by omega) (by omega) (by omega), Option.bind_some]
    simp [quoL]
  | succ d ih =>
    intro i k out hi hk ho
    obtain ⟨k, rfl⟩ : ∃ m, k = m + 1 := ⟨k - 1, by omega⟩
    have hlt : i < C.length := by omega
    have hw : wrap64 ((i : Int) + 1) = ((i + 1 : Nat) : Int) := by unfold wrap64; omega
    have hdC : C.drop i = C[i] :: C.drop (i + 1) := List.drop_eq_getElem_cons hlt
    have hc := hC _ (List.getElem_mem hlt)
    unfold inC at hc
    have hq : wrap64 (Int.tdiv C[i] g) = Int.tdiv C[i] g := by
      refine w64 ?_
      have h1 : (Int.tdiv C[i] g).natAbs ≤ C[i].natAbs := by rw [Int.natAbs_tdiv]; exact Nat.div_le_self _ _
      omega
    simp only [sys_tight.l0]
    rw [if_pos (by omega), if_pos (by omega), if_pos (by omega), if_neg (by omega), if_pos (by omega), rd_at C i hlt, hq, hw, ih (i + 1) k _ (by omega) (by omega) (by simp [ho]), hdC, List.append_assoc]
    rfl
/-- What tight tells. -/
def tS (C : List Int) (K kind : Int) : List Int × Int × Bool × Bool :=
  if gL 0 C = 0 then ([], 0, false, decide (K = 0) || (kind == 1 && decide (K > 0)))
  else if gL 0 C = 1 then (C, K, true, true)
  else if kind = 0 ∧ Int.tmod K (gL 0 C : Int) ≠ 0 then ([], 0, false, false)
  else (quoL (gL 0 C : Int) C, K / (gL 0 C : Int), true, true)
theorem tight_spec (C : List Int) (K kind : Int) (hC : ∀ c ∈ C, inC c) (hK : inC K) (hn : C.length ≤ 16) (hk1 : kind = 0 ∨ kind = 1) (k : Nat) (hk : 17179869217 ≤ k) : sys_tight.f k C K kind = some (tS C K kind) := by
  have hle := gL_le hC
  unfold sys_tight.f tS
  rw [gcd_spec C hC hn k hk, Option.bind_some]
  by_cases h0 : gL 0 C = 0
  · rw [h0, if_pos rfl, if_pos (by rfl)]
    by_cases hK0 : K = 0
    · rw [if_pos hK0]; simp [hK0]
    · rw [if_neg hK0]
      rcases hk1 with rfl | rfl
      · rw [if_neg (by omega)]; simp [hK0]
      · rw [if_pos rfl]; simp [hK0]
  · rw [if_neg h0, if_neg (by omega), if_neg (by omega)]
    by_cases h1 : gL 0 C = 1
    · rw [if_pos h1, h1, if_pos (by rfl)]
    · rw [if_neg h1, if_neg (by omega), w64 (a := (gL 0 C : Int)) (by omega)]
      have hl : sys_tight.j0 k (gL 0 C : Int) false C K = some (quoL (gL 0 C : Int) C, K / (gL 0 C : Int), true, true) := by
        obtain ⟨k, rfl⟩ : ∃ m, k = m + 1 := ⟨k - 1, by omega⟩
        simp only [sys_tight.j0]
        rw [if_neg (by simp)]
        have h := tight_l0 C K (gL 0 C : Int) (by omega) hC hK hn C.length 0 k [] (by omega) (by omega) rfl
        rw [List.drop_zero] at h
        exact h
      rcases hk1 with rfl | rfl
      · rw [if_pos rfl, if_neg (by omega)]
        by_cases hm : Int.tmod K (gL 0 C : Int) = 0
        · rw [hm, if_neg (by simp), show ((0 : Int) != 0) = false from rfl, hl]
        · rw [if_pos ⟨rfl, hm⟩, bne_iff_ne.mpr hm]
          obtain ⟨k, rfl⟩ : ∃ m, k = m + 1 := ⟨k - 1, by omega⟩
          simp only [sys_tight.j0]
          simp
      · rw [if_neg (by omega), if_neg (by omega), hl]
theorem dot_zero : ∀ (C p : List Int), (∀ c ∈ C, c = 0) → dot C p = 0
  | [], p, _ => by simp [dot]
  | c :: cs, [], _ => by simp [dot]
  | c :: cs, x :: xs, h => by
    simp only [dot]
    rw [h c (by simp), dot_zero cs xs fun z hz => h z (by simp [hz]), Int.zero_mul, Int.add_zero]
theorem dot_quo (g : Int) (hg : g ≠ 0) : ∀ (C p : List Int), (∀ c ∈ C, g ∣ c) → dot C p = g * dot (quoL g C) p
  | [], p, _ => by simp [dot, quoL]
  | c :: cs, [], _ => by simp [dot, quoL]
  | c :: cs, x :: xs, h => by
    have hc : g * Int.tdiv c g = c := Int.mul_tdiv_cancel' (h c (by simp))
    show c * x + dot cs xs = g * (Int.tdiv c g * x + dot (quoL g cs) xs)
    rw [dot_quo g hg cs xs fun z hz => h z (by simp [hz]), Int.mul_add, ← Int.mul_assoc, hc]
/-- Does a form hold at a point: as an equation, as an inequality. -/
def holdsF (kind : Int) (C : List Int) (K : Int) (p : List Int) : Prop := if kind = 0 then K + dot C p = 0 else 0 ≤ K + dot C p
instance (kind : Int) (C : List Int) (K : Int) (p : List Int) : Decidable (holdsF kind C K p) := by unfold holdsF; infer_instance
theorem gL_int {C : List Int} (c : Int) (h : c ∈ C) : (gL 0 C : Int) ∣ c := by
  have := (gL_dvd C 0).2 c h
  exact Int.ofNat_dvd_left.2 this
theorem tS_holds {C : List Int} {K kind : Int} (hk1 : kind = 0 ∨ kind = 1) (p : List Int) : holdsF kind C K p ↔ (tS C K kind).2.2.2 = true ∧ ((tS C K kind).2.2.1 = true → holdsF kind (tS C K kind).1 (tS C K kind).2.1 p) := by
  unfold tS
  by_cases h0 : gL 0 C = 0
  · rw [if_pos h0]
    unfold holdsF
    rw [dot_zero C p (gL_zero h0)]
    rcases hk1 with rfl | rfl <;> simp <;> omega
  · rw [if_neg h0]
    by_cases h1 : gL 0 C = 1
    · rw [if_pos h1]; simp
    · rw [if_neg h1]
      have hd := dot_quo (gL 0 C : Int) (by omega) C p (fun c hc => gL_int c hc)
      generalize hG : (gL 0 C : Int) = g at *
      have hg : 2 ≤ g := by omega
      have e0 : ∀ (C : List Int) (K : Int), holdsF 0 C K p ↔ K + dot C p = 0 := fun _ _ => by unfold holdsF; simp
      have e1 : ∀ (C : List Int) (K : Int), holdsF 1 C K p ↔ 0 ≤ K + dot C p := fun _ _ => by unfold holdsF; simp
      have he := Int.emod_add_mul_ediv K g
      have hr := Int.emod_nonneg K (b := g) (by omega)
      have hr2 := Int.emod_lt_of_pos K (b := g) (by omega)
      have hm : Int.tmod K g = 0 ↔ K % g = 0 := by rw [← Int.dvd_iff_tmod_eq_zero, Int.dvd_iff_emod_eq_zero]
      have hmul : g * (K / g + dot (quoL g C) p) = g * (K / g) + g * dot (quoL g C) p := Int.mul_add _ _ _
      rcases hk1 with rfl | rfl
      · by_cases hm0 : Int.tmod K g = 0
        · rw [if_neg (fun z => z.2 hm0), e0, e0, hd]
          generalize dot (quoL g C) p = D at *
          have : K % g = 0 := hm.1 hm0
          refine ⟨fun h => ⟨rfl, fun _ => ?_⟩, fun h => ?_⟩
          · have h2 : g * (K / g + D) = 0 := by omega
            rcases Int.mul_eq_zero.1 h2 with h3 | h3
            · omega
            · exact h3
          · have h1 : K / g + D = 0 := h.2 rfl
            rw [h1, Int.mul_zero] at hmul; omega
        · rw [if_pos ⟨rfl, hm0⟩, e0, hd]
          refine ⟨fun h => ?_, fun h => Bool.noConfusion h.1⟩
          have hK : K = g * (-dot (quoL g C) p) := by rw [Int.mul_neg]; omega
          exact absurd (Int.dvd_iff_tmod_eq_zero.1 ⟨_, hK⟩) hm0
      · rw [if_neg (by simp), e1, e1, hd]
        generalize dot (quoL g C) p = D at *
        refine ⟨fun h => ⟨rfl, fun _ => ?_⟩, fun h => ?_⟩
        · show 0 ≤ K / g + D
          refine Int.not_lt.1 fun hn => ?_
          have h2 : g * (K / g + D) ≤ g * (-1) := Int.mul_le_mul_of_nonneg_left (by omega) (by omega)
          omega
        · have h1 : 0 ≤ K / g + D := h.2 rfl
          have h2 : 0 ≤ g * (K / g + D) := Int.mul_nonneg (by omega) h1
          omega
theorem tS_len {C : List Int} {K kind : Int} (h : (tS C K kind).2.2.1 = true) : (tS C K kind).1.length = C.length := by
  unfold tS at h ⊢
  by_cases h0 : gL 0 C = 0
  · rw [if_pos h0] at h; simp at h
  · rw [if_neg h0] at h ⊢
    by_cases h1 : gL 0 C = 1
    · rw [if_pos h1]
    · rw [if_neg h1] at h ⊢
      by_cases h2 : kind = 0 ∧ Int.tmod K (gL 0 C : Int) ≠ 0
      · rw [if_pos h2] at h; simp at h
      · rw [if_neg h2]; simp [quoL]
theorem tS_in {C : List Int} {K kind : Int} (hC : ∀ c ∈ C, inC c) (hK : inC K) : (∀ c ∈ (tS C K kind).1, inC c) ∧ inC (tS C K kind).2.1 := by
  have z : inC 0 := by unfold inC; omega
  unfold tS
  by_cases h0 : gL 0 C = 0
  · rw [if_pos h0]; exact ⟨by simp, z⟩
  · rw [if_neg h0]
    by_cases h1 : gL 0 C = 1
    · rw [if_pos h1]; exact ⟨hC, hK⟩
    · rw [if_neg h1]
      by_cases h2 : kind = 0 ∧ Int.tmod K (gL 0 C : Int) ≠ 0
      · rw [if_pos h2]; exact ⟨by simp, z⟩
      · rw [if_neg h2]
        refine ⟨fun c hc => ?_, ?_⟩
        · obtain ⟨a, ha, rfl⟩ := List.mem_map.1 hc
          have := hC a ha
          have h3 : (Int.tdiv a (gL 0 C : Int)).natAbs ≤ a.natAbs := by rw [Int.natAbs_tdiv]; exact Nat.div_le_self _ _
          unfold inC at this ⊢; omega
        · unfold inC at hK ⊢
          have hg : (1 : Int) ≤ (gL 0 C : Int) := by omega
          generalize (gL 0 C : Int) = g at *
          constructor
          · refine (Int.le_ediv_iff_mul_le (by omega)).2 ?_
            have : g * 1073741824 ≥ 1073741824 := by omega
            omega
          · exact Int.le_trans (Int.ediv_le_ediv (by omega) hK.2) (Int.ediv_le_self _ (by omega))

/-! rows of forms made tight; a system at a point -/
def okF (N : Nat) (f : S59) : Prop := f.f0.length = N ∧ (∀ c ∈ f.f0, inC c) ∧ inC f.f1
theorem rd59_at (l : List S59) (i : Nat) (h : i < l.length) : rd_T59 l (i : Int) = l[i] := by
  unfold rd_T59; rw [Int.toNat_natCast, List.getD_eq_getElem?_getD, List.getElem?_eq_getElem h]; rfl
theorem rd65_at (l : List S65) (i : Nat) (h : i < l.length) : rd_T65 l (i : Int) = l[i] := by
  unfold rd_T65; rw [Int.toNat_natCast, List.getD_eq_getElem?_getD, List.getElem?_eq_getElem h]; rfl
theorem w_succ {i n : Nat} (h : i < n) (hn : n ≤ 4611686018427387904) : wrap64 ((i : Int) + 1) = ((i + 1 : Nat) : Int) := by unfold wrap64; omega
/-- What rows tells. -/
def rowsS (kind : Int) : List S59 → Option (List S59)
  | [] => some []
  | f :: fs => if (tS f.f0 f.f1 kind).2.2.2 = true then (rowsS kind fs).map fun r => if (tS f.f0 f.f1 kind).2.2.1 = true then (⟨(tS f.f0 f.f1 kind).1, (tS f.f0 f.f1 kind).2.1⟩ : S59) :: r else r else none
def rowsR (out : List S59) : Option (List S59) → List S59 × Bool
  | some r => (out ++ r, true)
  | none => ([], false)
theorem rows_l0 {N : Nat} (kind : Int) (hk1 : kind = 0 ∨ kind = 1) (l : List S59) (hl : ∀ f ∈ l, okF N f) (hN : N ≤ 16) (hlen : l.length ≤ 70) : ∀ (d i k : Nat) (out : List S59), i + d = l.length → 17179869217 + d < k → out.length ≤ i →
    sys_rows.l0 k kind out l (l.length : Int) (i : Int) = some (rowsR out (rowsS kind (l.drop i))) := by
  intro d
  induction d with
  | zero =>
    intro i k out hi hk ho
    obtain ⟨k, rfl⟩ : ∃ m, k = m + 1 := ⟨k - 1, by omega⟩
    simp only [sys_rows.l0]
    rw [if_neg (by omega), List.drop_eq_nil_of_le (by omega)]
    simp [rowsS, rowsR]
  | succ d ih =>
    intro i k out hi hk ho
    obtain ⟨k, rfl⟩ : ∃ m, k = m + 1 := ⟨k - 1, by omega⟩
    have hlt : i < l.length := by omega
    obtain ⟨h1, h2, h3⟩ := hl _ (List.getElem_mem hlt)
    have hd : l.drop i = l[i] :: l.drop (i + 1) := List.drop_eq_getElem_cons hlt
    simp only [sys_rows.l0]
    rw [if_pos (by omega), if_pos (by omega), if_pos (by omega), rd59_at l i hlt, tight_spec _ _ kind h2 h3 (by omega) hk1 k (by omega), Option.bind_some, hd, w_succ hlt (by omega)]
    simp only [rowsS]
    by_cases hm : (tS l[i].f0 l[i].f1 kind).2.2.2 = true
    · rw [if_pos hm, if_pos hm]
      by_cases hs : (tS l[i].f0 l[i].f1 kind).2.2.1 = true
      · rw [if_pos hs, if_pos (by omega), ih (i + 1) k _ (by omega) (by omega) (by simp; omega)]
        cases rowsS kind (l.drop (i + 1)) with
        | none => rfl
        | some r => simp [rowsR, hs]
      · rw [if_neg hs, ih (i + 1) k _ (by omega) (by omega) (by omega)]
        cases rowsS kind (l.drop (i + 1)) with
        | none => rfl
        | some r => simp [rowsR, hs]
    · rw [if_neg hm, if_neg hm]
      rfl
theorem rows_spec {N : Nat} (kind : Int) (hk1 : kind = 0 ∨ kind = 1) (l : List S59) (hl : ∀ f ∈ l, okF N f) (hN : N ≤ 16) (hlen : l.length ≤ 70) (k : Nat) (hk : 17179869300 ≤ k) : sys_rows.f k l kind = some (rowsR [] (rowsS kind l)) := by
  unfold sys_rows.f
  have h := rows_l0 kind hk1 l hl hN hlen l.length 0 k [] (by omega) (by omega) (by simp)
  rw [List.drop_zero] at h
  exact h
theorem rowsS_holds {kind : Int} (hk1 : kind = 0 ∨ kind = 1) (p : List Int) : ∀ l : List S59, (∀ f ∈ l, holdsF kind f.f0 f.f1 p) ↔ ∃ r, rowsS kind l = some r ∧ ∀ f ∈ r, holdsF kind f.f0 f.f1 p
  | [] => by simp [rowsS]
  | f :: fs => by
    have ih := rowsS_holds hk1 p fs
    have ht := tS_holds (C := f.f0) (K := f.f1) hk1 p
    rw [List.forall_mem_cons, ih, ht]
    simp only [rowsS]
    constructor
    · rintro ⟨⟨h1, h2⟩, r, h3, h4⟩
      rw [if_pos h1, h3]
      refine ⟨_, rfl, ?_⟩
      dsimp only
      by_cases hs : (tS f.f0 f.f1 kind).2.2.1 = true
      · rw [if_pos hs]
        intro x hx
        rcases List.mem_cons.1 hx with rfl | hx
        · exact h2 hs
        · exact h4 x hx
      · rw [if_neg hs]; exact h4
    · rintro ⟨r, h1, h2⟩
      by_cases hm : (tS f.f0 f.f1 kind).2.2.2 = true
      · rw [if_pos hm] at h1
        cases hr : rowsS kind fs with
        | none => rw [hr] at h1; cases h1
        | some r' =>
          rw [hr] at h1
          obtain rfl := Option.some.inj h1
          dsimp only at h2
          by_cases hs : (tS f.f0 f.f1 kind).2.2.1 = true
          · rw [if_pos hs] at h2
            exact ⟨⟨hm, fun _ => h2 ⟨_, _⟩ (by simp)⟩, r', rfl, fun x hx => h2 x (by simp [hx])⟩
          · rw [if_neg hs] at h2
            exact ⟨⟨hm, fun h => absurd h hs⟩, r', rfl, h2⟩
      · rw [if_neg hm] at h1; cases h1
theorem rowsS_ok {kind : Int} {N : Nat} : ∀ (l r : List S59), (∀ f ∈ l, okF N f) → rowsS kind l = some r → (∀ f ∈ r, okF N f) ∧ r.length ≤ l.length
  | [], r, _, h => by
    simp only [rowsS] at h
    obtain rfl := Option.some.inj h
    simp
  | f :: fs, r, hl, h => by
    simp only [rowsS] at h
    by_cases hm : (tS f.f0 f.f1 kind).2.2.2 = true
    · rw [if_pos hm] at h
      cases hr : rowsS kind fs with
      | none => rw [hr] at h; cases h
      | some r' =>
        rw [hr] at h
        obtain rfl := Option.some.inj h
        obtain ⟨h1, h2⟩ := rowsS_ok fs r' (fun x hx => hl x (by simp [hx])) hr
        obtain ⟨k1, k2, k3⟩ := hl f (by simp)
        dsimp only
        by_cases hs : (tS f.f0 f.f1 kind).2.2.1 = true
        · rw [if_pos hs]
          refine ⟨fun x hx => ?_, by simp; omega⟩
          rcases List.mem_cons.1 hx with rfl | hx
          · exact ⟨by rw [← k1]; exact tS_len hs, (tS_in k2 k3).1, (tS_in k2 k3).2⟩
          · exact h1 x hx
        · rw [if_neg hs]
          exact ⟨h1, by simp; omega⟩
    · rw [if_neg hm] at h; cases h
/-- What Tight tells. -/
def tightS (N : Int) (eq ge : List S59) : Int × List S59 × List S59 × Bool := match rowsS 0 eq, rowsS 1 ge with
  | some a, some b => (N, a, b, true)
  | _, _ => (0, [], [], false)
theorem Tight_spec {N : Nat} (n : Int) (eq ge : List S59) (he : ∀ f ∈ eq, okF N f) (hg : ∀ f ∈ ge, okF N f) (hN : N ≤ 16) (le : eq.length ≤ 70) (lg : ge.length ≤ 70) (k : Nat) (hk : 17179869300 ≤ k) : sys_Tight.f k n eq ge = some (tightS n eq ge) := by
  unfold sys_Tight.f tightS
  rw [rows_spec 0 (.inl rfl) eq he hN le k hk, rows_spec 1 (.inr rfl) ge hg hN lg k hk, Option.bind_some, Option.bind_some]
  cases rowsS 0 eq <;> cases rowsS 1 ge <;> simp [rowsR]
/-- Does all of a system hold at a point. -/
def holdsAll (eq ge : List S59) (p : List Int) : Bool := eq.all (fun f => decide (holdsF 0 f.f0 f.f1 p)) && ge.all (fun f => decide (holdsF 1 f.f0 f.f1 p))
theorem holdsAll_iff {eq ge : List S59} {p : List Int} : holdsAll eq ge p = true ↔ (∀ f ∈ eq, holdsF 0 f.f0 f.f1 p) ∧ ∀ f ∈ ge, holdsF 1 f.f0 f.f1 p := by
  unfold holdsAll
  simp [List.all_eq_true]
theorem idx_spec (G : List Int → Int → Option Bool) (g : S59 → Bool) (l : List S59) (hG : ∀ f ∈ l, G f.f0 f.f1 = some (g f)) (hlen : l.length ≤ 4611686018427387904) : ∀ (d i k : Nat), i + d = l.length → d < k →
    ∃ r : Int, idxF G k l (i : Int) = some r ∧ (0 ≤ r ↔ (l.drop i).any g = true) := by
  intro d
  induction d with
  | zero =>
    intro i k hi hk
    obtain ⟨k, rfl⟩ : ∃ m, k = m + 1 := ⟨k - 1, by omega⟩
    refine ⟨-1, ?_, ?_⟩
    · simp only [idxF]; rw [if_neg (by omega)]
    · rw [List.drop_eq_nil_of_le (by omega)]; simp
  | succ d ih =>
    intro i k hi hk
    obtain ⟨k, rfl⟩ : ∃ m, k = m + 1 := ⟨k - 1, by omega⟩
    have hlt : i < l.length := by omega
    have hd : l.drop i = l[i] :: l.drop (i + 1) := List.drop_eq_getElem_cons hlt
    simp only [idxF]
    rw [if_pos (by omega), if_pos (by omega), rd59_at l i hlt, hG _ (List.getElem_mem hlt), Option.bind_some, hd, w_succ hlt hlen]
    by_cases h : g l[i] = true
    · rw [if_pos h]
      exact ⟨i, rfl, by rw [List.any_cons, h, Bool.true_or]; exact ⟨fun _ => rfl, fun _ => by omega⟩⟩
    · rw [if_neg h]
      obtain ⟨r, h1, h2⟩ := ih (i + 1) k (by omega) (by omega)
      exact ⟨r, h1, by rw [h2, List.any_cons]; simp [h]⟩
theorem Holds_spec {N : Nat} (n : Int) (eq ge : List S59) (p : List Int) (he : ∀ f ∈ eq, okF N f) (hg : ∀ f ∈ ge, okF N f) (hN : N ≤ 16) (hp : p.length = N) (hp2 : ∀ x ∈ p, inP x) (le : eq.length ≤ 70) (lg : ge.length ≤ 70) (k : Nat) (hk : 100 ≤ k) : sys_Holds.f k n eq ge p = some (holdsAll eq ge p) := by
  have ho : ∀ f : S59, okF N f → sys_of.f k f.f0 f.f1 p = some (f.f1 + dot f.f0 p) := fun f hf => of_spec f.f0 p f.f1 hf.2.2 (by rw [hf.1, hp]; omega) hf.2.1 hp2 (by rw [hf.1]; exact hN) k (by rw [hf.1]; omega)
  have h1 : ∀ f ∈ eq, isNot k p f.f0 f.f1 = some (!decide (holdsF 0 f.f0 f.f1 p)) := fun f hf => by
    unfold isNot holdsF
    rw [ho f (he f hf), Option.bind_some]
    by_cases h : f.f1 + dot f.f0 p = 0 <;> simp [h]
  have h2 : ∀ f ∈ ge, isNeg k p f.f0 f.f1 = some (!decide (holdsF 1 f.f0 f.f1 p)) := fun f hf => by
    unfold isNeg holdsF
    rw [ho f (hg f hf), Option.bind_some]
    congr 1
    by_cases h : 0 ≤ f.f1 + dot f.f0 p
    · simp [h]
    · simp [h]; omega
  obtain ⟨r, e1, e2⟩ := idx_spec _ (fun f => !decide (holdsF 0 f.f0 f.f1 p)) eq h1 (by omega) eq.length 0 k (by omega) (by omega)
  obtain ⟨s, e3, e4⟩ := idx_spec _ (fun f => !decide (holdsF 1 f.f0 f.f1 p)) ge h2 (by omega) ge.length 0 k (by omega) (by omega)
  have z : ((0 : Nat) : Int) = 0 := rfl
  rw [z] at e1 e3
  rw [List.drop_zero] at e2 e4
  unfold sys_Holds.f
  rw [e1, Option.bind_some]
  have hall : ∀ (l : List S59) (g : S59 → Bool), l.any (fun f => !g f) = !l.all g := fun l g => by
    induction l with
    | nil => rfl
    | cons a l ih => simp only [List.any_cons, List.all_cons, ih, Bool.not_and]
  rw [hall] at e2 e4
  unfold holdsAll
  by_cases h : r ≥ 0
  · rw [if_pos h]
    have := e2.1 h
    rw [Bool.not_eq_true'] at this
    rw [this]; rfl
  · rw [if_neg h, e3, Option.bind_some]
    have h5 : eq.all (fun f => decide (holdsF 0 f.f0 f.f1 p)) = true := by
      cases hq : eq.all (fun f => decide (holdsF 0 f.f0 f.f1 p)) with
      | true => rfl
      | false => rw [hq] at e2; exact absurd (e2.2 rfl) h
    rw [h5, Bool.true_and]
    congr 1
    cases hq : ge.all (fun f => decide (holdsF 1 f.f0 f.f1 p)) with
    | true => rw [hq] at e4; have : ¬ 0 ≤ s := fun z => by have := e4.1 z; cases this
              simp; omega
    | false => rw [hq] at e4; have := e4.2 rfl; simp; omega
/-! as the document's -/
def toR (f : S59) : S65 := ⟨f.f0, f.f1⟩
theorem value_ok {N : Nat} {p : List Int} (hN : N ≤ 16) (hp : p.length = N) (hp2 : ∀ x ∈ p, inP x) {k : Nat} (hk : 100 ≤ k) (f : S59) (hf : okF N f) : furrowref20_value.f k (toR f).f0 (toR f).f1 p = some (f.f1 + dot f.f0 p) :=
  value_spec f.f0 p f.f1 hf.2.2 (by rw [hf.1, hp]; omega) hf.2.1 hp2 (by rw [hf.1]; exact hN) k (by rw [hf.1]; omega)
theorem rHolds_l1 {N : Nat} (n : Int) (eq ge : List S59) (p : List Int) (hg : ∀ f ∈ ge, okF N f) (hN : N ≤ 16) (hp : p.length = N) (hp2 : ∀ x ∈ p, inP x) (lg : ge.length ≤ 70) : ∀ (d i k : Nat), i + d = ge.length → 100 + d < k →
    furrowref20_Holds.l1 k p (i : Int) n (eq.map toR) (ge.map toR) = some ((ge.drop i).all fun f => decide (holdsF 1 f.f0 f.f1 p)) := by
  intro d
  induction d with
  | zero =>
    intro i k hi hk
    obtain ⟨k, rfl⟩ : ∃ m, k = m + 1 := ⟨k - 1, by omega⟩
    simp only [furrowref20_Holds.l1, List.length_map]
    rw [if_neg (by omega), List.drop_eq_nil_of_le (by omega)]
    rfl
  | succ d ih =>
    intro i k hi hk
    obtain ⟨k, rfl⟩ : ∃ m, k = m + 1 := ⟨k - 1, by omega⟩
    have hlt : i < ge.length := by omega
    have hd : ge.drop i = ge[i] :: ge.drop (i + 1) := List.drop_eq_getElem_cons hlt
    simp only [furrowref20_Holds.l1, List.length_map]
    rw [if_pos (by omega), if_pos (by omega), rd65_at _ i (by rw [List.length_map]; exact hlt), List.getElem_map, value_ok hN hp hp2 (by omega) _ (hg _ (List.getElem_mem hlt)), Option.bind_some, hd, List.all_cons, w_succ hlt (by omega)]
    unfold holdsF
    by_cases h : ge[i].f1 + dot ge[i].f0 p < 0
    · rw [if_pos h]
      have : ¬ 0 ≤ ge[i].f1 + dot ge[i].f0 p := by omega
      simp [this]
    · rw [if_neg h, ih (i + 1) k (by omega) (by omega)]
      have : 0 ≤ ge[i].f1 + dot ge[i].f0 p := by omega
      simp [this, holdsF]
theorem rHolds_l0 {N : Nat} (n : Int) (eq ge : List S59) (p : List Int) (he : ∀ f ∈ eq, okF N f) (hg : ∀ f ∈ ge, okF N f) (hN : N ≤ 16) (hp : p.length = N) (hp2 : ∀ x ∈ p, inP x) (le : eq.length ≤ 70) (lg : ge.length ≤ 70) : ∀ (d i k : Nat), i + d = eq.length → 200 + d < k →
    furrowref20_Holds.l0 k p (i : Int) n (eq.map toR) (ge.map toR) = some (((eq.drop i).all fun f => decide (holdsF 0 f.f0 f.f1 p)) && ge.all fun f => decide (holdsF 1 f.f0 f.f1 p)) := by
  intro d
  induction d with
  | zero =>
    intro i k hi hk
    obtain ⟨k, rfl⟩ : ∃ m, k = m + 1 := ⟨k - 1, by omega⟩
    simp only [furrowref20_Holds.l0, List.length_map]
    have h := rHolds_l1 n eq ge p hg hN hp hp2 lg ge.length 0 k (by omega) (by omega)
    rw [List.drop_zero] at h
    rw [if_neg (by omega), List.drop_eq_nil_of_le (by omega)]
    simpa using h
  | succ d ih =>
    intro i k hi hk
    obtain ⟨k, rfl⟩ : ∃ m, k = m + 1 := ⟨k - 1, by omega⟩
    have hlt : i < eq.length := by omega
    have hd : eq.drop i = eq[i] :: eq.drop (i + 1) := List.drop_eq_getElem_cons hlt
    simp only [furrowref20_Holds.l0, List.length_map]
    rw [if_pos (by omega), if_pos (by omega), rd65_at _ i (by rw [List.length_map]; exact hlt), List.getElem_map, value_ok hN hp hp2 (by omega) _ (he _ (List.getElem_mem hlt)), Option.bind_some, hd, List.all_cons, w_succ hlt (by omega)]
    by_cases h : eq[i].f1 + dot eq[i].f0 p = 0
    · rw [if_pos h, ih (i + 1) k (by omega) (by omega)]
      simp [h, holdsF]
    · rw [if_neg h]
      simp [h, holdsF]
theorem rHolds_spec {N : Nat} (n : Int) (eq ge : List S59) (p : List Int) (he : ∀ f ∈ eq, okF N f) (hg : ∀ f ∈ ge, okF N f) (hN : N ≤ 16) (hp : p.length = N) (hp2 : ∀ x ∈ p, inP x) (le : eq.length ≤ 70) (lg : ge.length ≤ 70) (k : Nat) (hk : 300 ≤ k) : furrowref20_Holds.f k n (eq.map toR) (ge.map toR) p = some (holdsAll eq ge p) := by
  unfold furrowref20_Holds.f holdsAll
  have h := rHolds_l0 n eq ge p he hg hN hp hp2 le lg eq.length 0 k (by omega) (by omega)
  rw [List.drop_zero] at h
  exact h
theorem Of_l1 (n m : Int) (eq ge : List S59) (out : List S65) (lg : ge.length ≤ 70) : ∀ (d i k : Nat) (o : List S65), i + d = ge.length → d < k → o.length = i →
    furrowlaw15_Of.l1 k (i : Int) n eq ge m out o = some (m, out, o ++ (ge.drop i).map toR) := by
  intro d
  induction d with
  | zero =>
    intro i k o hi hk ho
    obtain ⟨k, rfl⟩ : ∃ m, k = m + 1 := ⟨k - 1, by omega⟩
    simp only [furrowlaw15_Of.l1]
    rw [if_neg (by omega), List.drop_eq_nil_of_le (by omega)]
    simp
  | succ d ih =>
    intro i k o hi hk ho
    obtain ⟨k, rfl⟩ : ∃ m, k = m + 1 := ⟨k - 1, by omega⟩
    have hlt : i < ge.length := by omega
    have hd : ge.drop i = ge[i] :: ge.drop (i + 1) := List.drop_eq_getElem_cons hlt
    simp only [furrowlaw15_Of.l1, furrowlaw11_Of.f, Option.bind_some]
    rw [if_pos (by omega), if_pos (by omega), if_pos (by omega), rd59_at ge i hlt, w_succ hlt (by omega), ih (i + 1) k _ (by omega) (by omega) (by simp [ho]), hd, List.append_assoc]
    rfl
theorem Of_l0 (n m : Int) (eq ge : List S59) (le : eq.length ≤ 70) (lg : ge.length ≤ 70) : ∀ (d i k : Nat) (o : List S65), i + d = eq.length → d + 100 < k → o.length = i →
    furrowlaw15_Of.l0 k (i : Int) n eq ge m o = some (m, o ++ (eq.drop i).map toR, ge.map toR) := by
  intro d
  induction d with
  | zero =>
    intro i k o hi hk ho
    obtain ⟨k, rfl⟩ : ∃ m, k = m + 1 := ⟨k - 1, by omega⟩
    simp only [furrowlaw15_Of.l0]
    have h := Of_l1 n m eq ge o lg ge.length 0 k [] (by omega) (by omega) rfl
    rw [List.drop_zero] at h
    rw [if_neg (by omega), List.drop_eq_nil_of_le (by omega)]
    simpa using h
  | succ d ih =>
    intro i k o hi hk ho
    obtain ⟨k, rfl⟩ : ∃ m, k = m + 1 := ⟨k - 1, by omega⟩
    have hlt : i < eq.length := by omega
    have hd : eq.drop i = eq[i] :: eq.drop (i + 1) := List.drop_eq_getElem_cons hlt
    simp only [furrowlaw15_Of.l0, furrowlaw11_Of.f, Option.bind_some]
    rw [if_pos (by omega), if_pos (by omega), if_pos (by omega), rd59_at eq i hlt, w_succ hlt (by omega), ih (i + 1) k _ (by omega) (by omega) (by simp [ho]), hd, List.append_assoc]
    rfl
theorem Of_spec (n : Int) (eq ge : List S59) (le : eq.length ≤ 70) (lg : ge.length ≤ 70) (k : Nat) (hk : 200 ≤ k) : furrowlaw15_Of.f k n eq ge = some (n, eq.map toR, ge.map toR) := by
  unfold furrowlaw15_Of.f
  have h := Of_l0 n n eq ge le lg eq.length 0 k [] (by omega) (by omega) rfl
  rw [List.drop_zero] at h
  simpa using h

theorem Few_l1 (n : Int) (eq ge : List S59) (lg : ge.length ≤ 70) : ∀ (d i k : Nat), i + d = ge.length → d < k → ∃ b, furrowlaw15_Few.l1 k (i : Int) n eq ge = some b := by
  intro d
  induction d with
  | zero =>
    intro i k hi hk
    obtain ⟨k, rfl⟩ : ∃ m, k = m + 1 := ⟨k - 1, by omega⟩
    exact ⟨true, by simp only [furrowlaw15_Few.l1]; rw [if_neg (by omega)]⟩
  | succ d ih =>
    intro i k hi hk
    obtain ⟨k, rfl⟩ : ∃ m, k = m + 1 := ⟨k - 1, by omega⟩
    simp only [furrowlaw15_Few.l1]
    rw [if_pos (by omega), if_pos (by omega), w_succ (n := ge.length) (by omega) (by omega)]
    by_cases h : (((rd_T59 ge (i : Int)).f0).length : Int) > 20
    · exact ⟨false, by rw [if_pos h]⟩
    · rw [if_neg h]; exact ih (i + 1) k (by omega) (by omega)
theorem Few_l0 (n : Int) (eq ge : List S59) (le : eq.length ≤ 70) (lg : ge.length ≤ 70) : ∀ (d i k : Nat), i + d = eq.length → 100 + d < k → ∃ b, furrowlaw15_Few.l0 k (i : Int) n eq ge = some b := by
  intro d
  induction d with
  | zero =>
    intro i k hi hk
    obtain ⟨k, rfl⟩ : ∃ m, k = m + 1 := ⟨k - 1, by omega⟩
    simp only [furrowlaw15_Few.l0]
    rw [if_neg (by omega)]
    exact Few_l1 n eq ge lg ge.length 0 k (by omega) (by omega)
  | succ d ih =>
    intro i k hi hk
    obtain ⟨k, rfl⟩ : ∃ m, k = m + 1 := ⟨k - 1, by omega⟩
    simp only [furrowlaw15_Few.l0]
    rw [if_pos (by omega), if_pos (by omega), w_succ (n := eq.length) (by omega) (by omega)]
    by_cases h : (((rd_T59 eq (i : Int)).f0).length : Int) > 20
    · exact ⟨false, by rw [if_pos h]⟩
    · rw [if_neg h]; exact ih (i + 1) k (by omega) (by omega)
theorem Few_spec (n : Int) (eq ge : List S59) (k : Nat) (hk : 300 ≤ k) : ∃ b, furrowlaw15_Few.f k n eq ge = some b ∧ (b = true → eq.length ≤ 70 ∧ ge.length ≤ 70) := by
  obtain ⟨k, rfl⟩ : ∃ m, k = m + 1 := ⟨k - 1, by omega⟩
  unfold furrowlaw15_Few.f
  by_cases h : (eq.length : Int) > 70
  · rw [if_pos h]
    exact ⟨false, by simp only [furrowlaw15_Few.j0]; simp, by simp⟩
  · rw [if_neg h]
    by_cases h2 : (ge.length : Int) > 70
    · rw [decide_eq_true h2]
      exact ⟨false, by simp only [furrowlaw15_Few.j0]; simp, by simp⟩
    · rw [decide_eq_false h2]
      simp only [furrowlaw15_Few.j0]
      rw [if_neg (by simp)]
      obtain ⟨b, hb⟩ := Few_l0 n eq ge (by omega) (by omega) eq.length 0 k (by omega) (by omega)
      exact ⟨b, hb, fun _ => by omega⟩
instance decInC (a : Int) : Decidable (inC a) := by unfold inC; infer_instance

end Go.Proofs.YtkkpgjkjkcmcbaaDoor.Pure
