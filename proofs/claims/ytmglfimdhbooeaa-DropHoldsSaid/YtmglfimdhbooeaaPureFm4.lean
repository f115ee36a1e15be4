/- Plain lemmas: numbers up to 2^62, the sum of two forms in which a variable is no more. -/
import Derived.Test.YtmglfimdhbooeaaPureFm1
import Derived.Test.YtmglfimdhbooeaaXx4
import Derived.Laws.Bits64
namespace Go.Proofs.Ytmglfimdhbooeaa.Pure
open Go.RowKit Go.Proofs.Ytmglfimdhbooeaa.X Go.Proofs.Ytmglfimdhbooeaa.Flt Go.Proofs.Ytmglfimdhbooeaa.H Go.Proofs.YtmglfimdhbooeaaW.PrintWords Go.Proofs.YtmglfimdhbooeaaW.PrintLast Go.Proofs.YtmglfimdhbooeaaW.PrintMore
set_option linter.unusedVariables false
set_option linter.unusedSimpArgs false
/-! numbers up to 2^62 -/
def inB (c : Int) : Prop := -4611686018427387904 ≤ c ∧ c ≤ 4611686018427387904
def dot : List Int → List Int → Int
  | c :: cs, x :: xs => c * x + dot cs xs
  | _, _ => 0
theorem rd_at (l : List Int) (i : Nat) (h : i < l.length) : rd l (i : Int) = l[i] := by
  unfold rd; rw [Int.toNat_natCast, List.getD_eq_getElem?_getD, List.getElem?_eq_getElem h]; rfl
/-- The greatest number that divides all, from one on. -/
def gL : Nat → List Int → Nat
  | g, [] => g
  | g, c :: cs => gL (Nat.gcd g c.natAbs) cs
theorem size_nat {a : Int} (h : inB a) : num_size.f a = some (a.natAbs : Int) := by
  unfold inB at h
  unfold num_size.f; simp only [IntKind.wrap_u64]; split <;> (congr 1; omega)
theorem ngcd_l0 (b : Nat) : ∀ (a k : Nat), b < k → num_Gcd.l0 k (a : Int) (b : Int) = some ((Nat.gcd a b : Nat) : Int) := by
  induction b using Nat.strongRecOn with
  | _ b ih =>
    intro a k hk
    obtain ⟨k, rfl⟩ : ∃ m, k = m + 1 := ⟨k - 1, by omega⟩
    simp only [num_Gcd.l0]
    by_cases hb : b = 0
    · subst hb
      rw [if_neg (by omega), Nat.gcd_zero_right]
    · have hlt : a % b < b := Nat.mod_lt _ (by omega)
      have hm : Int.tmod (a : Int) (b : Int) = ((a % b : Nat) : Int) := by rw [Int.tmod_eq_emod_of_nonneg (by omega)]; rfl
      rw [if_pos (by omega), if_neg (by omega), hm, ih (a % b) hlt b k (by omega), Nat.gcd_comm a b, Nat.gcd_rec b a, Nat.gcd_comm]
theorem ngcd {c : Int} (hc : inB c) {k : Nat} (hk : 1 ≤ k) : num_Gcd.f k c 0 = some ((c.natAbs : Nat) : Int) := by
  have h0 : num_size.f 0 = some ((0 : Nat) : Int) := rfl
  unfold num_Gcd.f
  rw [size_nat hc, h0, Option.bind_some, Option.bind_some, ngcd_l0 0 c.natAbs k (by omega), Nat.gcd_zero_right]
theorem gcd_l1 (C : List Int) (i : Int) (M R : Nat) (n : Nat) : ∀ (g k : Nat), n + M < k → (∀ k', M ≤ k' → sys_gcd.l0 k' ((Nat.gcd g n : Nat) : Int) C (C.length : Int) (wrap64 (i + 1)) = some (R : Int)) → sys_gcd.l1 k (g : Int) (n : Int) C (C.length : Int) i = some (R : Int) := by
  induction n using Nat.strongRecOn with
  | _ n ih =>
    intro g k hk h
    obtain ⟨k, rfl⟩ : ∃ m, k = m + 1 := ⟨k - 1, by omega⟩
    simp only [sys_gcd.l1]
    by_cases hn : n = 0
    · subst hn
      rw [if_neg (by omega)]
      have := h k (by omega)
      rwa [Nat.gcd_zero_right] at this
    · have hlt : g % n < n := Nat.mod_lt _ (by omega)
      have hm : Int.tmod (g : Int) (n : Int) = ((g % n : Nat) : Int) := by rw [Int.tmod_eq_emod_of_nonneg (by omega)]; rfl
      rw [if_pos (by omega), if_neg (by omega), hm]
      refine ih (g % n) hlt n k (by omega) fun k' hk' => ?_
      have := h k' hk'
      rwa [Nat.gcd_comm g n, Nat.gcd_rec n g, Nat.gcd_comm] at this
theorem gcd_l0 (C : List Int) (hC : ∀ c ∈ C, inB c) (hn : C.length ≤ 16) : ∀ (d i k g : Nat), i + d = C.length → 4611686018427387906 * d < k → sys_gcd.l0 k (g : Int) C (C.length : Int) (i : Int) = some ((gL g (C.drop i) : Nat) : Int) := by
  intro d
  induction d with
  | zero =>
    intro i k g hi hk
    obtain ⟨k, rfl⟩ : ∃ m, k = m + 1 := ⟨k - 1, by omega⟩
    simp only [sys_gcd.l0]
    rw [if_neg (by omega), List.drop_eq_nil_of_le (by omega)]
    rfl
  | succ d ih =>
    intro i k g hi hk
    obtain ⟨k, rfl⟩ : ∃ m, k = m + 1 := ⟨k - 1, by omega⟩
    have hlt : i < C.length := by omega
    have hw : wrap64 ((i : Int) + 1) = ((i + 1 : Nat) : Int) := by unfold wrap64; omega
    have hdC : C.drop i = C[i] :: C.drop (i + 1) := List.drop_eq_getElem_cons hlt
    have hc := hC _ (List.getElem_mem hlt)
    simp only [sys_gcd.l0]
    rw [if_pos (by omega), if_pos (by omega), if_pos (by omega), rd_at C i hlt, ngcd hc (by omega), Option.bind_some, hdC]
    show _ = some ((gL (Nat.gcd g C[i].natAbs) (C.drop (i + 1)) : Nat) : Int)
    by_cases hg : g = 0
    · subst hg
      rw [if_pos (by rfl), hw, ih (i + 1) k _ (by omega) (by omega), Nat.gcd_zero_left]
    · rw [if_neg (by omega)]
      by_cases h0 : C[i].natAbs = 0
      · rw [h0, if_neg (by omega), hw, ih (i + 1) k g (by omega) (by omega), Nat.gcd_zero_right]
      · rw [if_pos (by omega)]
        unfold inB at hc
        refine gcd_l1 C i (4611686018427387906 * d + 1) _ _ g k (by omega) fun k' hk' => ?_
        rw [hw]
        exact ih (i + 1) k' _ (by omega) (by omega)
theorem gcd_spec (C : List Int) (hC : ∀ c ∈ C, inB c) (hn : C.length ≤ 16) (k : Nat) (hk : 73786976294838206497 ≤ k) : sys_gcd.f k C = some ((gL 0 C : Nat) : Int) := by
  unfold sys_gcd.f
  have h := gcd_l0 C hC hn C.length 0 k 0 (by omega) (by omega)
  rw [List.drop_zero] at h
  exact h
theorem gL_dvd : ∀ (C : List Int) (g : Nat), gL g C ∣ g ∧ ∀ c ∈ C, gL g C ∣ c.natAbs
  | [], g => ⟨Nat.dvd_refl g, by simp⟩
  | c :: cs, g => by
    obtain ⟨h1, h2⟩ := gL_dvd cs (Nat.gcd g c.natAbs)
    refine ⟨Nat.dvd_trans h1 (Nat.gcd_dvd_left _ _), fun x hx => ?_⟩
    rcases List.mem_cons.1 hx with rfl | hx
    · exact Nat.dvd_trans h1 (Nat.gcd_dvd_right _ _)
    · exact h2 x hx
theorem gL_zero {C : List Int} (h : gL 0 C = 0) : ∀ c ∈ C, c = 0 := by
  intro c hc
  have := (gL_dvd C 0).2 c hc
  rw [h, Nat.zero_dvd] at this
  omega
theorem gL_le {C : List Int} (hC : ∀ c ∈ C, inB c) : gL 0 C ≤ 4611686018427387904 := by
  by_cases hz : ∀ c ∈ C, c = 0
  · have : ∀ (C : List Int), (∀ c ∈ C, c = 0) → gL 0 C = 0 := by
      intro C
      induction C with
      | nil => intro _; rfl
      | cons c cs ih =>
        intro h
        have hc : c = 0 := h c (by simp)
        subst hc
        show gL (Nat.gcd 0 0) cs = 0
        exact ih fun x hx => h x (by simp [hx])
    rw [this C hz]; omega
  · obtain ⟨c, hc⟩ := Classical.not_forall.1 hz
    obtain ⟨hm, h0⟩ := Classical.not_imp.1 hc
    have h1 := (gL_dvd C 0).2 c hm
    have h2 := hC c hm
    unfold inB at h2
    have := Nat.le_of_dvd (by omega) h1
    omega
theorem floor_spec {a b : Int} (ha : -4611686018427387904 ≤ a ∧ a ≤ 4611686018427387904) (hb : 1 ≤ b ∧ b ≤ 4611686018427387904) {k : Nat} (hk : 1 ≤ k) : num_Floor.f k a b = some (a / b, true) := by
  obtain ⟨k, rfl⟩ : ∃ m, k = m + 1 := ⟨k - 1, by omega⟩
  have hd : a / b ≤ 4611686018427387904 ∧ -4611686018427387904 ≤ a / b := by
    constructor
    · exact Int.le_trans (Int.ediv_le_ediv (by omega) ha.2) (Int.ediv_le_self _ (by omega))
    · refine (Int.le_ediv_iff_mul_le (by omega)).2 ?_
      have : b * 4611686018427387904 ≥ 4611686018427387904 := by omega
      omega
  have ht : Int.tdiv a b = a / b + (if Int.tmod a b ≠ 0 ∧ a < 0 then 1 else 0) := by
    rw [Int.tdiv_eq_ediv]
    have hs : b.sign = 1 := Int.sign_eq_one_of_pos (by omega)
    have hm : Int.tmod a b = 0 ↔ b ∣ a := Int.dvd_iff_tmod_eq_zero.symm
    by_cases h0 : 0 ≤ a
    · rw [if_pos (.inl h0), if_neg (by omega)]
    · by_cases h1 : b ∣ a
      · rw [if_pos (.inr h1), if_neg (fun z => z.1 (hm.2 h1))]
      · rw [if_neg (fun z => z.elim (fun z => absurd z h0) h1), if_pos ⟨fun z => h1 (hm.1 z), by omega⟩, hs]
  unfold num_Floor.f
  rw [if_neg (by omega), if_neg (by omega)]
  simp only [num_Floor.j0]
  rw [if_neg (by simp), if_neg (by omega)]
  by_cases hm : Int.tmod a b = 0
  · rw [if_pos hm, ht, if_neg (by simp [hm]), Int.add_zero, w64 (by omega)]
  · rw [if_neg hm]
    by_cases h0 : a < 0
    · rw [if_pos (by simp [h0]; omega), ht, if_pos ⟨hm, h0⟩, w64 (a := a / b + 1) (by omega)]
      have : a / b + 1 - 1 = a / b := by omega
      rw [this, w64 (by omega)]
    · rw [if_neg (by simp [h0]; omega), ht, if_neg (by simp [h0]), Int.add_zero, w64 (by omega)]
def quoL (g : Int) (C : List Int) : List Int := C.map fun c => Int.tdiv c g
theorem tight_l0 (C : List Int) (K g : Int) (hg : 2 ≤ g ∧ g ≤ 4611686018427387904) (hC : ∀ c ∈ C, inB c) (hK : inB K) (hn : C.length ≤ 16) : ∀ (d i k : Nat) (out : List Int), i + d = C.length → d + 1 < k → out.length = i →
    sys_tight.l0 k g C (C.length : Int) (i : Int) C K out 0 = some (out ++ quoL g (C.drop i), K / g, true, true) := by
  intro d
  induction d with
  | zero =>
    intro i k out hi hk ho
    obtain ⟨k, rfl⟩ : ∃ m, k = m + 1 := ⟨k - 1, by omega⟩
    unfold inB at hK
    simp only [sys_tight.l0]
    rw [if_neg (by omega), List.drop_eq_nil_of_le (by omega), floor_spec (by omega) (by omega) (by omega), Option.bind_some]
    simp [quoL]
  | succ d ih =>
    intro i k out hi hk ho
    obtain ⟨k, rfl⟩ : ∃ m, k = m + 1 := ⟨k - 1, by omega⟩
    have hlt : i < C.length := by omega
    have hw : wrap64 ((i : Int) + 1) = ((i + 1 : Nat) : Int) := by unfold wrap64; omega
    have hdC : C.drop i = C[i] :: C.drop (i + 1) := List.drop_eq_getElem_cons hlt
    have hc := hC _ (List.getElem_mem hlt)
    unfold inB at hc
    have hq : wrap64 (Int.tdiv C[i] g) = Int.tdiv C[i] g := by
      refine w64 ?_
      have h1 : (Int.tdiv C[i] g).natAbs ≤ C[i].natAbs := by rw [Int.natAbs_tdiv]; exact Nat.div_le_self _ _
      omega
    simp only [sys_tight.l0]
    rw [if_pos (by omega), if_pos (by omega), if_pos (by omega), if_neg (by omega), if_pos (by omega), rd_at C i hlt, hq, hw, ih (i + 1) k _ (by omega) (by omega) (by simp [ho]), hdC, List.append_assoc]
    rfl
/-- What tight tells. -/
def tS (C : List Int) (K kind : Int) : List Int × Int × Bool × Bool :=
  if gL 0 C = 0 then ([], 0, false, decide (K = 0) || (kind == 1 && decide (K > 0)))
  else if gL 0 C = 1 then (C, K, true, true)
  else if kind = 0 ∧ Int.tmod K (gL 0 C : Int) ≠ 0 then ([], 0, false, false)
  else (quoL (gL 0 C : Int) C, K / (gL 0 C : Int), true, true)
theorem tight_spec (C : List Int) (K kind : Int) (hC : ∀ c ∈ C, inB c) (hK : inB K) (hn : C.length ≤ 16) (hk1 : kind = 0 ∨ kind = 1) (k : Nat) (hk : 73786976294838206497 ≤ k) : sys_tight.f k C K kind = some (tS C K kind) := by
  have hle := gL_le hC
  unfold sys_tight.f tS
  rw [gcd_spec C hC hn k hk, Option.bind_some]
  by_cases h0 : gL 0 C = 0
  · rw [h0, if_pos rfl, if_pos (by rfl)]
    by_cases hK0 : K = 0
    · rw [if_pos hK0]; simp [hK0]
    · rw [if_neg hK0]
      rcases hk1 with rfl | rfl
      · rw [if_neg (by omega)]; simp [hK0]
      · rw [if_pos rfl]; simp [hK0]
  · rw [if_neg h0, if_neg (by omega), if_neg (by omega)]
    by_cases h1 : gL 0 C = 1
    · rw [if_pos h1, h1, if_pos (by rfl)]
    · rw [if_neg h1, if_neg (by omega), w64 (a := (gL 0 C : Int)) (by omega)]
      have hl : sys_tight.j0 k (gL 0 C : Int) false C K = some (quoL (gL 0 C : Int) C, K / (gL 0 C : Int), true, true) := by
        obtain ⟨k, rfl⟩ : ∃ m, k = m + 1 := ⟨k - 1, by omega⟩
        simp only [sys_tight.j0]
        rw [if_neg (by simp)]
        have h := tight_l0 C K (gL 0 C : Int) (by omega) hC hK hn C.length 0 k [] (by omega) (by omega) rfl
        rw [List.drop_zero] at h
        exact h
      rcases hk1 with rfl | rfl
      · rw [if_pos rfl, if_neg (by omega)]
        by_cases hm : Int.tmod K (gL 0 C : Int) = 0
        · rw [hm, if_neg (by simp), show ((0 : Int) != 0) = false from rfl, hl]
        · rw [if_pos ⟨rfl, hm⟩, bne_iff_ne.mpr hm]
          obtain ⟨k, rfl⟩ : ∃ m, k = m + 1 := ⟨k - 1, by omega⟩
          simp only [sys_tight.j0]
          simp
      · rw [if_neg (by omega), if_neg (by omega), hl]
theorem dot_zero : ∀ (C p : List Int), (∀ c ∈ C, c = 0) → dot C p = 0
  | [], p, _ => by simp [dot]
  | c :: cs, [], _ => by simp [dot]
  | c :: cs, x :: xs, h => by
    simp only [dot]
    rw [h c (by simp), dot_zero cs xs fun z hz => h z (by simp [hz]), Int.zero_mul, Int.add_zero]
theorem dot_quo (g : Int) (hg : g ≠ 0) : ∀ (C p : List Int), (∀ c ∈ C, g ∣ c) → dot C p = g * dot (quoL g C) p
  | [], p, _ => by simp [dot, quoL]
  | c :: cs, [], _ => by simp [dot, quoL]
  | c :: cs, x :: xs, h => by
    have hc : g * Int.tdiv c g = c := Int.mul_tdiv_cancel' (h c (by simp))
    show c * x + dot cs xs = g * (Int.tdiv c g * x + dot (quoL g cs) xs)
    rw [dot_quo g hg cs xs fun z hz => h z (by simp [hz]), Int.mul_add, ← Int.mul_assoc, hc]
/-- Does a form hold at a point: as an equation, as an inequality. -/
def holdsF (kind : Int) (C : List Int) (K : Int) (p : List Int) : Prop := if kind = 0 then K + dot C p = 0 else 0 ≤ K + dot C p
instance (kind : Int) (C : List Int) (K : Int) (p : List Int) : Decidable (holdsF kind C K p) := by unfold holdsF; infer_instance
theorem gL_int {C : List Int} (c : Int) (h : c ∈ C) : (gL 0 C : Int) ∣ c := by
  have := (gL_dvd C 0).2 c h
  exact Int.ofNat_dvd_left.2 this
theorem tS_holds {C : List Int} {K kind : Int} (hk1 : kind = 0 ∨ kind = 1) (p : List Int) : holdsF kind C K p ↔ (tS C K kind).2.2.2 = true ∧ ((tS C K kind).2.2.1 = true → holdsF kind (tS C K kind).1 (tS C K kind).2.1 p) := by
  unfold tS
  by_cases h0 : gL 0 C = 0
  · rw [if_pos h0]
    unfold holdsF
    rw [dot_zero C p (gL_zero h0)]
    rcases hk1 with rfl | rfl <;> simp <;> omega
  · rw [if_neg h0]
    by_cases h1 : gL 0 C = 1
    · rw [if_pos h1]; simp
    · rw [if_neg h1]
      have hd := dot_quo (gL 0 C : Int) (by omega) C p (fun c hc => gL_int c hc)
      generalize hG : (gL 0 C : Int) = g at *
      have hg : 2 ≤ g := by omega
      have e0 : ∀ (C : List Int) (K : Int), holdsF 0 C K p ↔ K + dot C p = 0 := fun _ _ => by unfold holdsF; simp
      have e1 : ∀ (C : List Int) (K : Int), holdsF 1 C K p ↔ 0 ≤ K + dot C p := fun _ _ => by unfold holdsF; simp
      have he := Int.emod_add_mul_ediv K g
      have hr := Int.emod_nonneg K (b := g) (by omega)
      have hr2 := Int.emod_lt_of_pos K (b := g) (by omega)
      have hm : Int.tmod K g = 0 ↔ K % g = 0 := by rw [← Int.dvd_iff_tmod_eq_zero, Int.dvd_iff_emod_eq_zero]
      have hmul : g * (K / g + dot (quoL g C) p) = g * (K / g) + g * dot (quoL g C) p := Int.mul_add _ _ _
      rcases hk1 with rfl | rfl
      · by_cases hm0 : Int.tmod K g = 0
        · rw [if_neg (fun z => z.2 hm0), e0, e0, hd]
          generalize dot (quoL g C) p = D at *
          have : K % g = 0 := hm.1 hm0
          refine ⟨fun h => ⟨rfl, fun _ => ?_⟩, fun h => ?_⟩
          · have h2 : g * (K / g + D) = 0 := by omega
            rcases Int.mul_eq_zero.1 h2 with h3 | h3
            · omega
            · exact h3
          · have h1 : K / g + D = 0 := h.2 rfl
            rw [h1, Int.mul_zero] at hmul; omega
        · rw [if_pos ⟨rfl, hm0⟩, e0, hd]
          refine ⟨fun h => ?_, fun h => Bool.noConfusion h.1⟩
          have hK : K = g * (-dot (quoL g C) p) := by rw [Int.mul_neg]; omega
          exact absurd (Int.dvd_iff_tmod_eq_zero.1 ⟨_, hK⟩) hm0
      · rw [if_neg (by simp), e1, e1, hd]
        generalize dot (quoL g C) p = D at *
        refine ⟨fun h => ⟨rfl, fun _ => ?_⟩, fun h => ?_⟩
        · show 0 ≤ K / g + D
          refine Int.not_lt.1 fun hn => ?_
          have h2 : g * (K / g + D) ≤ g * (-1) := Int.mul_le_mul_of_nonneg_left (by omega) (by omega)
          omega
        · have h1 : 0 ≤ K / g + D := h.2 rfl
          have h2 : 0 ≤ g * (K / g + D) := Int.mul_nonneg (by omega) h1
          omega
theorem tS_len {C : List Int} {K kind : Int} (h : (tS C K kind).2.2.1 = true) : (tS C K kind).1.length = C.length := by
  unfold tS at h ⊢
  by_cases h0 : gL 0 C = 0
  · rw [if_pos h0] at h; simp at h
  · rw [if_neg h0] at h ⊢
    by_cases h1 : gL 0 C = 1
    · rw [if_pos h1]
    · rw [if_neg h1] at h ⊢
      by_cases h2 : kind = 0 ∧ Int.tmod K (gL 0 C : Int) ≠ 0
      · rw [if_pos h2] at h; simp at h
      · rw [if_neg h2]; simp [quoL]
theorem tS_in {C : List Int} {K kind : Int} (hC : ∀ c ∈ C, inB c) (hK : inB K) : (∀ c ∈ (tS C K kind).1, inB c) ∧ inB (tS C K kind).2.1 := by
  have z : inB 0 := by unfold inB; omega
  unfold tS
  by_cases h0 : gL 0 C = 0
  · rw [if_pos h0]; exact ⟨by simp, z⟩
  · rw [if_neg h0]
    by_cases h1 : gL 0 C = 1
    · rw [if_pos h1]; exact ⟨hC, hK⟩
    · rw [if_neg h1]
      by_cases h2 : kind = 0 ∧ Int.tmod K (gL 0 C : Int) ≠ 0
      · rw [if_pos h2]; exact ⟨by simp, z⟩
      · rw [if_neg h2]
        refine ⟨fun c hc => ?_, ?_⟩
        · obtain ⟨a, ha, rfl⟩ := List.mem_map.1 hc
          have := hC a ha
          have h3 : (Int.tdiv a (gL 0 C : Int)).natAbs ≤ a.natAbs := by rw [Int.natAbs_tdiv]; exact Nat.div_le_self _ _
          unfold inB at this ⊢; omega
        · unfold inB at hK ⊢
          have hg : (1 : Int) ≤ (gL 0 C : Int) := by omega
          generalize (gL 0 C : Int) = g at *
          constructor
          · refine (Int.le_ediv_iff_mul_le (by omega)).2 ?_
            have : g * 4611686018427387904 ≥ 4611686018427387904 := by omega
            omega
          · exact Int.le_trans (Int.ediv_le_ediv (by omega) hK.2) (Int.ediv_le_self _ (by omega))
def okB (N : Nat) (f : S45) : Prop := f.f0.length = N ∧ (∀ c ∈ f.f0, inB c) ∧ inB f.f1
theorem rd45_at (l : List S45) (i : Nat) (h : i < l.length) : rd_T45 l (i : Int) = l[i] := by
  unfold rd_T45; rw [Int.toNat_natCast, List.getD_eq_getElem?_getD, List.getElem?_eq_getElem h]; rfl
theorem w_succ {i n : Nat} (h : i < n) (hn : n ≤ 4611686018427387904) : wrap64 ((i : Int) + 1) = ((i + 1 : Nat) : Int) := by unfold wrap64; omega
/-- What rows tells. -/
def rowsS (kind : Int) : List S45 → Option (List S45)
  | [] => some []
  | f :: fs => if (tS f.f0 f.f1 kind).2.2.2 = true then (rowsS kind fs).map fun r => if (tS f.f0 f.f1 kind).2.2.1 = true then (⟨(tS f.f0 f.f1 kind).1, (tS f.f0 f.f1 kind).2.1⟩ : S45) :: r else r else none
def rowsR (out : List S45) : Option (List S45) → List S45 × Bool
  | some r => (out ++ r, true)
  | none => ([], false)
theorem rows_l0 {N : Nat} (kind : Int) (hk1 : kind = 0 ∨ kind = 1) (l : List S45) (hl : ∀ f ∈ l, okB N f) (hN : N ≤ 16) (hlen : l.length ≤ 600) : ∀ (d i k : Nat) (out : List S45), i + d = l.length → 73786976294838206497 + d < k → out.length ≤ i →
    sys_rows.l0 k kind out l (l.length : Int) (i : Int) = some (rowsR out (rowsS kind (l.drop i))) := by
  intro d
  induction d with
  | zero =>
    intro i k out hi hk ho
    obtain ⟨k, rfl⟩ : ∃ m, k = m + 1 := ⟨k - 1, by omega⟩
    simp only [sys_rows.l0]
    rw [if_neg (by omega), List.drop_eq_nil_of_le (by omega)]
    simp [rowsS, rowsR]
  | succ d ih =>
    intro i k out hi hk ho
    obtain ⟨k, rfl⟩ : ∃ m, k = m + 1 := ⟨k - 1, by omega⟩
    have hlt : i < l.length := by omega
    obtain ⟨h1, h2, h3⟩ := hl _ (List.getElem_mem hlt)
    have hd : l.drop i = l[i] :: l.drop (i + 1) := List.drop_eq_getElem_cons hlt
    simp only [sys_rows.l0]
    rw [if_pos (by omega), if_pos (by omega), if_pos (by omega), rd45_at l i hlt, tight_spec _ _ kind h2 h3 (by omega) hk1 k (by omega), Option.bind_some, hd, w_succ hlt (by omega)]
    simp only [rowsS]
    by_cases hm : (tS l[i].f0 l[i].f1 kind).2.2.2 = true
    · rw [if_pos hm, if_pos hm]
      by_cases hs : (tS l[i].f0 l[i].f1 kind).2.2.1 = true
      · rw [if_pos hs, if_pos (by omega), ih (i + 1) k _ (by omega) (by omega) (by simp; omega)]
        cases rowsS kind (l.drop (i + 1)) with
        | none => rfl
        | some r => simp [rowsR, hs]
      · rw [if_neg hs, ih (i + 1) k _ (by omega) (by omega) (by omega)]
        cases rowsS kind (l.drop (i + 1)) with
        | none => rfl
        | some r => simp [rowsR, hs]
    · rw [if_neg hm, if_neg hm]
      rfl
theorem rows_spec {N : Nat} (kind : Int) (hk1 : kind = 0 ∨ kind = 1) (l : List S45) (hl : ∀ f ∈ l, okB N f) (hN : N ≤ 16) (hlen : l.length ≤ 600) (k : Nat) (hk : 73786976294838207300 ≤ k) : sys_rows.f k l kind = some (rowsR [] (rowsS kind l)) := by
  unfold sys_rows.f
  have h := rows_l0 kind hk1 l hl hN hlen l.length 0 k [] (by omega) (by omega) (by simp)
  rw [List.drop_zero] at h
  exact h
theorem rowsS_holds {kind : Int} (hk1 : kind = 0 ∨ kind = 1) (p : List Int) : ∀ l : List S45, (∀ f ∈ l, holdsF kind f.f0 f.f1 p) ↔ ∃ r, rowsS kind l = some r ∧ ∀ f ∈ r, holdsF kind f.f0 f.f1 p
  | [] => by simp [rowsS]
  | f :: fs => by
    have ih := rowsS_holds hk1 p fs
    have ht := tS_holds (C := f.f0) (K := f.f1) hk1 p
    rw [List.forall_mem_cons, ih, ht]
    simp only [rowsS]
    constructor
    · rintro ⟨⟨h1, h2⟩, r, h3, h4⟩
      rw [if_pos h1, h3]
      refine ⟨_, rfl, ?_⟩
      dsimp only
      by_cases hs : (tS f.f0 f.f1 kind).2.2.1 = true
      · rw [if_pos hs]
        intro x hx
        rcases List.mem_cons.1 hx with rfl | hx
        · exact h2 hs
        · exact h4 x hx
      · rw [if_neg hs]; exact h4
    · rintro ⟨r, h1, h2⟩
      by_cases hm : (tS f.f0 f.f1 kind).2.2.2 = true
      · rw [if_pos hm] at h1
        cases hr : rowsS kind fs with
        | none => rw [hr] at h1; cases h1
        | some r' =>
          rw [hr] at h1
          obtain rfl := Option.some.inj h1
          dsimp only at h2
          by_cases hs : (tS f.f0 f.f1 kind).2.2.1 = true
          · rw [if_pos hs] at h2
            exact ⟨⟨hm, fun _ => h2 ⟨_, _⟩ (by simp)⟩, r', rfl, fun x hx => h2 x (by simp [hx])⟩
          · rw [if_neg hs] at h2
            exact ⟨⟨hm, fun h => absurd h hs⟩, r', rfl, h2⟩
      · rw [if_neg hm] at h1; cases h1
theorem rowsS_ok {kind : Int} {N : Nat} : ∀ (l r : List S45), (∀ f ∈ l, okB N f) → rowsS kind l = some r → (∀ f ∈ r, okB N f) ∧ r.length ≤ l.length
  | [], r, _, h => by
    simp only [rowsS] at h
    obtain rfl := Option.some.inj h
    simp
  | f :: fs, r, hl, h => by
    simp only [rowsS] at h
    by_cases hm : (tS f.f0 f.f1 kind).2.2.2 = true
    · rw [if_pos hm] at h
      cases hr : rowsS kind fs with
      | none => rw [hr] at h; cases h
      | some r' =>
        rw [hr] at h
        obtain rfl := Option.some.inj h
        obtain ⟨h1, h2⟩ := rowsS_ok fs r' (fun x hx => hl x (by simp [hx])) hr
        obtain ⟨k1, k2, k3⟩ := hl f (by simp)
        dsimp only
        by_cases hs : (tS f.f0 f.f1 kind).2.2.1 = true
        · rw [if_pos hs]
          refine ⟨fun x hx => ?_, by simp; omega⟩
          rcases List.mem_cons.1 hx with rfl | hx
          · exact ⟨by rw [← k1]; exact tS_len hs, (tS_in k2 k3).1, (tS_in k2 k3).2⟩
          · exact h1 x hx
        · rw [if_neg hs]
          exact ⟨h1, by simp; omega⟩
    · rw [if_neg hm] at h; cases h
/-- What Tight tells. -/
def tightS (N : Int) (eq ge : List S45) : Int × List S45 × List S45 × Bool := match rowsS 0 eq, rowsS 1 ge with
  | some a, some b => (N, a, b, true)
  | _, _ => (0, [], [], false)
theorem Tight_spec {N : Nat} (n : Int) (eq ge : List S45) (he : ∀ f ∈ eq, okB N f) (hg : ∀ f ∈ ge, okB N f) (hN : N ≤ 16) (le : eq.length ≤ 600) (lg : ge.length ≤ 600) (k : Nat) (hk : 73786976294838207300 ≤ k) : sys_Tight.f k n eq ge = some (tightS n eq ge) := by
  unfold sys_Tight.f tightS
  rw [rows_spec 0 (.inl rfl) eq he hN le k hk, rows_spec 1 (.inr rfl) ge hg hN lg k hk, Option.bind_some, Option.bind_some]
  cases rowsS 0 eq <;> cases rowsS 1 ge <;> simp [rowsR]

/-! the sum of two forms in which a variable is no more: any numbers -/
theorem inB_R {c : Int} (h : inB c) : inR c := by unfold inB at h; unfold inR; omega
theorem scale_gen {l : List Int} {a c : Int} (hl : ∀ z ∈ l, inR z) (ha : inR a) (hc : inR c) (hn : l.length < 35184372088832) :
    ∃ l' a' e, lin_Scale.f l a c = some (l', a', e) ∧ ((e.length : Int) = 0 → l' = l.map (fun z => z * c) ∧ a' = a * c ∧ (∀ z ∈ l', inR z) ∧ inR a') := by
  rw [scale_l hl ha hc hn]
  unfold eachS
  by_cases h : allB (fun i => partS l a i * c) 0 (l.length + 1) = true
  · rw [if_pos h]
    refine ⟨_, _, _, rfl, fun _ => ?_⟩
    have h2 := (allB_iff _ (l.length + 1) 0).1 h
    have e : made (fun i => partS l a i * c) l.length = l.map (fun z => z * c) := by
      apply List.ext_getElem
      · simp [made_length]
      · intro j h1 h2
        rw [made_length] at h1
        simp [made, part_lt (show (j : Int) < (l.length : Int) by omega), rd_get h1]
    refine ⟨e, by show partS l a (l.length : Int) * c = a * c; rw [part_ge (Int.le_refl _)], ?_, ?_⟩
    rotate_left
    · have := h2 (l.length : Int) (by omega) (by omega)
      exact this
    intro z hz
    rw [e] at hz
    obtain ⟨x, hx, rfl⟩ := List.mem_map.1 hz
    obtain ⟨j, hj, rfl⟩ := List.getElem_of_mem hx
    have := h2 (j : Int) (by omega) (by omega)
    rwa [part_lt (show (j : Int) < (l.length : Int) by omega), rd_get hj] at this
  · rw [if_neg h]
    exact ⟨_, _, _, rfl, fun h => by simp [fltE] at h⟩
theorem add_gen {l m : List Int} {a b : Int} (h : l.length = m.length) (hl : ∀ z ∈ l, inR z) (hm : ∀ z ∈ m, inR z) (ha : inR a) (hb : inR b) (hn : l.length < 35184372088832) :
    ∃ l' a' e, lin_Add.f l a m b = some (l', a', e) ∧ ((e.length : Int) = 0 → l' = List.zipWith (fun x y => x + y) l m ∧ a' = a + b) := by
  rw [add_l h hl hm ha hb hn]
  unfold eachS
  by_cases hb : allB (fun i => partS l a i + partS m b i) 0 (l.length + 1) = true
  · rw [if_pos hb]
    refine ⟨_, _, _, rfl, fun _ => ⟨?_, by show partS l a (l.length : Int) + partS m b (l.length : Int) = a + b; rw [part_ge (Int.le_refl _), part_ge (show (m.length : Int) ≤ (l.length : Int) by omega)]⟩⟩
    rw [made_congr (u := fun j => rd l j + rd m j) (fun j h0 h1 => by rw [part_lt h1, part_lt (show j < (m.length : Int) by omega)]), made_zip (fun a b => a + b) rfl h.symm]
  · rw [if_neg hb]
    exact ⟨_, _, _, rfl, fun h => by simp [fltE] at h⟩
theorem gcd_gen {x y : Int} (hx : inB x) (hy : inB y) {k : Nat} (hk : 4611686018427387905 ≤ k) : num_Gcd.f k x y = some ((Nat.gcd x.natAbs y.natAbs : Nat) : Int) := by
  unfold num_Gcd.f
  rw [size_nat hx, size_nat hy, Option.bind_some, Option.bind_some, ngcd_l0 y.natAbs x.natAbs k (by unfold inB at hy; omega)]
theorem big_no {n : Int} (h : big n = false) : inB n := by
  unfold big at h; unfold inB
  simp at h
  omega
/-- What row tells of two forms: so often the one, so often the other. -/
def RowR (i : Int) (p q r : S45) : Prop := ∃ u v : Int, 1 ≤ u ∧ 1 ≤ v ∧ u ≤ -(rd q.f0 i) ∧ v ≤ rd p.f0 i ∧ r.f0 = List.zipWith (fun x y => x * u + y * v) p.f0 q.f0 ∧ r.f1 = p.f1 * u + q.f1 * v ∧ rd p.f0 i * u + rd q.f0 i * v = 0 ∧ (∀ z ∈ r.f0, inB z) ∧ inB r.f1
theorem div_pos {x : Int} {g : Nat} (hx : 1 ≤ x) (hg : g ∣ x.natAbs) : ∃ u : Int, Int.tdiv x (g : Int) = u ∧ 1 ≤ u ∧ u ≤ x ∧ x = (g : Int) * u ∧ 1 ≤ g := by
  obtain ⟨c, hc⟩ := hg
  have hx2 : x = (g : Int) * (c : Int) := by
    have : (x.natAbs : Int) = ((g * c : Nat) : Int) := by rw [hc]
    rw [Int.natCast_mul] at this; omega
  have g1 : 1 ≤ g := by
    rcases Nat.eq_zero_or_pos g with rfl | h
    · simp at hx2; omega
    · exact h
  have c1 : 1 ≤ c := by
    rcases Nat.eq_zero_or_pos c with rfl | h
    · simp at hx2; omega
    · exact h
  refine ⟨(c : Int), ?_, by omega, ?_, hx2, g1⟩
  · rw [hx2]; exact Int.mul_tdiv_cancel_left _ (by omega)
  · have h : 1 * (c : Int) ≤ (g : Int) * (c : Int) := Int.mul_le_mul_of_nonneg_right (by omega) (by omega)
    omega
theorem row_gen {N : Nat} {p q : S45} {i : Int} {k : Nat} (hp : okB N p) (hq : okB N q) (hN : N ≤ 16) (h0 : 0 ≤ i) (hi : i < N) (ha : 0 < rd p.f0 i) (hb : rd q.f0 i < 0) (hk : 4611686018427387910 ≤ k) :
    ∃ l s b, fm_row.f k p.f0 p.f1 q.f0 q.f1 i = some (l, s, b) ∧ (b = true → RowR i p q ⟨l, s⟩) := by
  obtain ⟨p1, p2, p3⟩ := hp
  obtain ⟨q1, q2, q3⟩ := hq
  have ia : inB (rd p.f0 i) := p2 _ (rd_mem h0 (by omega))
  have ib : inB (rd q.f0 i) := q2 _ (rd_mem h0 (by omega))
  unfold fm_row.f
  rw [if_pos h0, if_pos (show i < (p.f0.length : Int) by omega), if_pos (show i < (q.f0.length : Int) by omega)]
  generalize hA : rd p.f0 i = a at *
  generalize hB : rd q.f0 i = b at *
  have wb : wrap64 (-b) = -b := w64 (by unfold inB at ib; omega)
  have inb : inB (-b) := by unfold inB at ib ⊢; omega
  rw [wb, gcd_gen ia inb (by omega), Option.bind_some]
  obtain ⟨v, tv, v1, v2, v3, g1⟩ := div_pos (x := a) (by omega) (Nat.gcd_dvd_left a.natAbs (-b).natAbs)
  obtain ⟨u, tu, u1, u2, u3, _⟩ := div_pos (x := -b) (by omega) (Nat.gcd_dvd_right a.natAbs (-b).natAbs)
  have gle : Nat.gcd a.natAbs (-b).natAbs ≤ a.natAbs := Nat.gcd_le_left _ (by omega)
  generalize Nat.gcd a.natAbs (-b).natAbs = g at *
  have wg : wrap64 (g : Int) = (g : Int) := w64 (by unfold inB at ia; omega)
  have gne : ¬ ((g : Int) = 0) := fun h => by have h2 : g = 0 := Int.ofNat_eq_zero.1 h; rw [h2] at g1; exact absurd g1 (by decide)
  rw [wg, if_neg gne, tu, tv, w64 (a := u) (by unfold inB at inb; omega), w64 (a := v) (by unfold inB at ia; omega)]
  obtain ⟨x1, x2, xe, hx, hx2⟩ := scale_gen (c := u) (fun z hz => inB_R (p2 z hz)) (inB_R p3) (by unfold inB at inb; unfold inR; omega) (by omega)
  rw [hx, Option.bind_some]
  dsimp only
  by_cases ce : (xe.length : Int) = 0
  · rw [if_pos ce]
    obtain ⟨rfl, rfl, xr1, xr2⟩ := hx2 ce
    obtain ⟨y1, y2, ye, hy, hy2⟩ := scale_gen (c := v) (fun z hz => inB_R (q2 z hz)) (inB_R q3) (by unfold inB at ia; unfold inR; omega) (by omega)
    rw [hy, Option.bind_some]
    dsimp only
    by_cases cf : (ye.length : Int) = 0
    · rw [if_pos cf]
      obtain ⟨rfl, rfl, yr1, yr2⟩ := hy2 cf
      obtain ⟨z1, z2, ze, hz, hz2⟩ := add_gen (l := p.f0.map (fun z => z * u)) (m := q.f0.map (fun z => z * v)) (by simp; omega) xr1 yr1 xr2 yr2 (by simp; omega)
      rw [hz, Option.bind_some]
      dsimp only
      by_cases cg : (ze.length : Int) = 0
      · rw [if_pos cg]
        obtain ⟨rfl, rfl⟩ := hz2 cg
        rw [large_spec (by simp; omega) (by simp; omega), Option.bind_some]
        by_cases l1 : ((p.f1 * u) :: p.f0.map (fun z => z * u)).any big = true
        · rw [if_pos l1]; exact ⟨_, _, _, rfl, fun h => by cases h⟩
        · rw [if_neg l1, large_spec (by simp; omega) (by simp; omega), Option.bind_some]
          by_cases l2 : ((q.f1 * v) :: q.f0.map (fun z => z * v)).any big = true
          · rw [if_pos l2]; exact ⟨_, _, _, rfl, fun h => by cases h⟩
          · rw [if_neg l2, large_spec (by simp; omega) (by simp; omega), Option.bind_some]
            refine ⟨_, _, _, rfl, fun h => ?_⟩
            have h3 : ((p.f1 * u + q.f1 * v) :: List.zipWith (fun x y => x + y) (p.f0.map (fun z => z * u)) (q.f0.map (fun z => z * v))).any big = false := by simpa using h
            rw [List.any_eq_false] at h3
            refine ⟨u, v, u1, v1, by omega, by omega, ?_, rfl, ?_, fun z hz => big_no (by simpa using h3 z (List.mem_cons.2 (.inr hz))), big_no (by simpa using h3 _ (List.mem_cons.2 (.inl rfl)))⟩
            · simp [List.zipWith_map]
            · rw [hA, hB, v3]
              have hb2 : b = -((g : Int) * u) := by omega
              rw [hb2, Int.neg_mul, Int.mul_assoc, Int.mul_assoc, Int.mul_comm v u]; omega
      · rw [if_neg cg]; exact ⟨_, _, _, rfl, fun h => by cases h⟩
    · rw [if_neg cf]; exact ⟨_, _, _, rfl, fun h => by cases h⟩
  · rw [if_neg ce]; exact ⟨_, _, _, rfl, fun h => by cases h⟩
/-- What a form comes to at a point. -/
def valF (f : S45) (y : List Int) : Int := f.f1 + dot f.f0 y
theorem dot_two (u v : Int) : ∀ (A B y : List Int), A.length = B.length → dot (List.zipWith (fun a b => a * u + b * v) A B) y = dot A y * u + dot B y * v
  | [], [], y, _ => by simp [dot]
  | a :: A, b :: B, [], _ => by simp [dot]
  | a :: A, b :: B, x :: y, h => by
    have ih := dot_two u v A B y (by simpa using h)
    simp only [List.zipWith_cons_cons, dot, ih]
    rw [Int.add_mul, Int.add_mul, Int.add_mul, Int.mul_assoc a u x, Int.mul_assoc b v x, Int.mul_comm u x, Int.mul_comm v x, ← Int.mul_assoc, ← Int.mul_assoc]
    omega
theorem row_val {i : Int} {p q r : S45} (h : RowR i p q r) (hl : p.f0.length = q.f0.length) (y : List Int) (h1 : 0 ≤ valF p y) (h2 : 0 ≤ valF q y) : 0 ≤ valF r y := by
  obtain ⟨u, v, u1, v1, _, _, e1, e2, _⟩ := h
  unfold valF at *
  rw [e1, e2, dot_two u v _ _ y hl]
  have a := Int.mul_nonneg h1 (show 0 ≤ u by omega)
  have b := Int.mul_nonneg h2 (show 0 ≤ v by omega)
  rw [Int.add_mul] at a b
  omega
theorem rd_zip (u v : Int) : ∀ (A B : List Int) (j : Nat), A.length = B.length → rd (List.zipWith (fun a b => a * u + b * v) A B) (j : Int) = rd A (j : Int) * u + rd B (j : Int) * v
  | [], [], j, _ => by simp [rd]
  | a :: A, b :: B, 0, _ => by simp [rd]
  | a :: A, b :: B, j + 1, h => by
    have ih := rd_zip u v A B j (by simpa using h)
    simpa [rd] using ih
theorem row_rd {i : Int} {p q r : S45} (h : RowR i p q r) (hl : p.f0.length = q.f0.length) (h0 : 0 ≤ i) : rd r.f0 i = 0 := by
  obtain ⟨u, v, _, _, _, _, e1, _, e3, _⟩ := h
  obtain ⟨j, rfl⟩ : ∃ j : Nat, i = (j : Int) := ⟨i.toNat, by omega⟩
  rw [e1, rd_zip u v _ _ j hl]; exact e3
theorem row_ok {N : Nat} {i : Int} {p q r : S45} (h : RowR i p q r) (hp : p.f0.length = N) (hq : q.f0.length = N) : okB N r := by
  obtain ⟨u, v, _, _, _, _, e1, _, _, e4, e5⟩ := h
  exact ⟨by rw [e1]; simp [hp, hq], e4, e5⟩

end Go.Proofs.Ytmglfimdhbooeaa.Pure
