/- Plain lemmas on systems: a form that is divided holds where it held. -/
import Derived.Test.YtkkpgjkjkcmcbaaDoorPureSys1
import Derived.Laws.Bits64
namespace Go.Proofs.YtkkpgjkjkcmcbaaDoor.Pure
open Go.RowKit Go.Proofs.YtkkpgjkjkcmcbaaDoor.X Go.Proofs.YtkkpgjkjkcmcbaaDoor.Flt Go.Proofs.YtkkpgjkjkcmcbaaDoor.H Go.Proofs.YtkkpgjkjkcmcbaaDoorW.PrintWords Go.Proofs.YtkkpgjkjkcmcbaaDoorW.PrintLast Go.Proofs.YtkkpgjkjkcmcbaaDoorW.PrintMore
set_option linter.unusedVariables false
set_option linter.unusedSimpArgs false
/-! a form made tight -/
theorem floor_spec {a b : Int} (ha : -4611686018427387904 ≤ a ∧ a ≤ 4611686018427387904) (hb : 1 ≤ b ∧ b ≤ 4611686018427387904) {k : Nat} (hk : 1 ≤ k) : num_Floor.f k a b = some (a / b, true) := by
  obtain ⟨k, rfl⟩ : ∃ m, k = m + 1 := ⟨k - 1, by omega⟩
  have hd : a / b ≤ 4611686018427387904 ∧ -4611686018427387904 ≤ a / b := by
    constructor
    · exact Int.le_trans (Int.ediv_le_ediv (by omega) ha.2) (Int.ediv_le_self _ (by omega))
    · refine (Int.le_ediv_iff_mul_le (by omega)).2 ?_
      have : b * 4611686018427387904 ≥ 4611686018427387904 := by omega
      omega
  have ht : Int.tdiv a b = a / b + (if Int.tmod a b ≠ 0 ∧ a < 0 then 1 else 0) := by
    rw [Int.tdiv_eq_ediv]
    have hs : b.sign = 1 := Int.sign_eq_one_of_pos (by omega)
    have hm : Int.tmod a b = 0 ↔ b ∣ a := Int.dvd_iff_tmod_eq_zero.symm
    by_cases h0 : 0 ≤ a
    · rw [if_pos (.inl h0), if_neg (by omega)]
    · by_cases h1 : b ∣ a
      · rw [if_pos (.inr h1), if_neg (fun z => z.1 (hm.2 h1))]
      · rw [if_neg (fun z => z.elim (fun z => absurd z h0) h1), if_pos ⟨fun z => h1 (hm.1 z), by omega⟩, hs]
  unfold num_Floor.f
  rw [if_neg (by omega), if_neg (by omega)]
  simp only [num_Floor.j0]
  rw [if_neg (by simp), if_neg (by omega)]
  by_cases hm : Int.tmod a b = 0
  · rw [if_pos hm, ht, if_neg (by simp [hm]), Int.add_zero, w64 (by omega)]
  · rw [if_neg hm]
    by_cases h0 : a < 0
    · rw [if_pos (by simp [h0]; omega), ht, if_pos ⟨hm, h0⟩, w64 (a := a / b + 1) (by omega)]
      have : a / b + 1 - 1 = a / b := by omega
      rw [this, w64 (by omega)]
    · rw [if_neg (by simp [h0]; omega), ht, if_neg (by simp [h0]), Int.add_zero, w64 (by omega)]
def quoL (g : Int) (C : List Int) : List Int := C.map fun c => Int.tdiv c g
theorem tight_l0 (C : List Int) (K g : Int) (hg : 2 ≤ g ∧ g ≤ 1073741824) (hC : ∀ c ∈ C, inC c) (hK : inC K) (hn : C.length ≤ 16) : ∀ (d i k : Nat) (out : List Int), i + d = C.length → d + 1 < k → out.length = i →
    sys_tight.l0 k g C (C.length : Int) (i : Int) C K out 0 = some (out ++ quoL g (C.drop i), K / g, true, true) := by
  intro d
  induction d with
  | zero =>
    intro i k out hi hk ho
    obtain ⟨k, rfl⟩ : ∃ m, k = m + 1 := ⟨k - 1, by omega⟩
    unfold inC at hK
    simp only [sys_tight.l0]
    rw [if_neg (by omega), List.drop_eq_nil_of_le (by omega), floor_spec (by omega) (by omega) (by omega), Option.bind_some]
    simp [quoL]
  | succ d ih =>
    intro i k out hi hk ho
    obtain ⟨k, rfl⟩ : ∃ m, k = m + 1 := ⟨k - 1, by omega⟩
    have hlt : i < C.length := by omega
    have hw : wrap64 ((i : Int) + 1) = ((i + 1 : Nat) : Int) := by unfold wrap64; omega
    have hdC : C.drop i = C[i] :: C.drop (i + 1) := List.drop_eq_getElem_cons hlt
    have hc := hC _ (List.getElem_mem hlt)
    unfold inC at hc
    have hq : wrap64 (Int.tdiv C[i] g) = Int.tdiv C[i] g := by
      refine w64 ?_
      have h1 : (Int.tdiv C[i] g).natAbs ≤ C[i].natAbs := by rw [Int.natAbs_tdiv]; exact Nat.div_le_self _ _
      omega
    simp only [sys_tight.l0]
    rw [if_pos (by omega), if_pos (by omega), if_pos (by omega), if_neg (by omega), if_pos (by omega), rd_at C i hlt, hq, hw, ih (i + 1) k _ (by omega) (by omega) (by simp [ho]), hdC, List.append_assoc]
    rfl
/-- What tight tells. -/
def tS (C : List Int) (K kind : Int) : List Int × Int × Bool × Bool :=
  if gL 0 C = 0 then ([], 0, false, decide (K = 0) || (kind == 1 && decide (K > 0)))
  else if gL 0 C = 1 then (C, K, true, true)
  else if kind = 0 ∧ Int.tmod K (gL 0 C : Int) ≠ 0 then ([], 0, false, false)
  else (quoL (gL 0 C : Int) C, K / (gL 0 C : Int), true, true)
theorem tight_spec (C : List Int) (K kind : Int) (hC : ∀ c ∈ C, inC c) (hK : inC K) (hn : C.length ≤ 16) (hk1 : kind = 0 ∨ kind = 1) (k : Nat) (hk : 17179869217 ≤ k) : sys_tight.f k C K kind = some (tS C K kind) := by
  have hle := gL_le hC
  unfold sys_tight.f tS
  rw [gcd_spec C hC hn k hk, Option.bind_some]
  by_cases h0 : gL 0 C = 0
  · rw [h0, if_pos rfl, if_pos (by rfl)]
    by_cases hK0 : K = 0
    · rw [if_pos hK0]; simp [hK0]
    · rw [if_neg hK0]
      rcases hk1 with rfl | rfl
      · rw [if_neg (by omega)]; simp [hK0]
      · rw [if_pos rfl]; simp [hK0]
  · rw [if_neg h0, if_neg (by omega), if_neg (by omega)]
    by_cases h1 : gL 0 C = 1
    · rw [if_pos h1, h1, if_pos (by rfl)]
    · rw [if_neg h1, if_neg (by omega), w64 (a := (gL 0 C : Int)) (by omega)]
      have hl : sys_tight.j0 k (gL 0 C : Int) false C K = some (quoL (gL 0 C : Int) C, K / (gL 0 C : Int), true, true) := by
        obtain ⟨k, rfl⟩ : ∃ m, k = m + 1 := ⟨k - 1, by omega⟩
        simp only [sys_tight.j0]
        rw [if_neg (by simp)]
        have h := tight_l0 C K (gL 0 C : Int) (by omega) hC hK hn C.length 0 k [] (by omega) (by omega) rfl
        rw [List.drop_zero] at h
        exact h
      rcases hk1 with rfl | rfl
      · rw [if_pos rfl, if_neg (by omega)]
        by_cases hm : Int.tmod K (gL 0 C : Int) = 0
        · rw [hm, if_neg (by simp), show ((0 : Int) != 0) = false from rfl, hl]
        · rw [if_pos ⟨rfl, hm⟩, bne_iff_ne.mpr hm]
          obtain ⟨k, rfl⟩ : ∃ m, k = m + 1 := ⟨k - 1, by omega⟩
          simp only [sys_tight.j0]
          simp
      · rw [if_neg (by omega), if_neg (by omega), hl]
theorem dot_zero : ∀ (C p : List Int), (∀ c ∈ C, c = 0) → dot C p = 0
  | [], p, _ => by simp [dot]
  | c :: cs, [], _ => by simp [dot]
  | c :: cs, x :: xs, h => by
    simp only [dot]
    rw [h c (by simp), dot_zero cs xs fun z hz => h z (by simp [hz]), Int.zero_mul, Int.add_zero]
theorem dot_quo (g : Int) (hg : g ≠ 0) : ∀ (C p : List Int), (∀ c ∈ C, g ∣ c) → dot C p = g * dot (quoL g C) p
  | [], p, _ => by simp [dot, quoL]
  | c :: cs, [], _ => by simp [dot, quoL]
  | c :: cs, x :: xs, h => by
    have hc : g * Int.tdiv c g = c := Int.mul_tdiv_cancel' (h c (by simp))
    show c * x + dot cs xs = g * (Int.tdiv c g * x + dot (quoL g cs) xs)
    rw [dot_quo g hg cs xs fun z hz => h z (by simp [hz]), Int.mul_add, ← Int.mul_assoc, hc]
/-- Does a form hold at a point: as an equation, as an inequality. -/
def holdsF (kind : Int) (C : List Int) (K : Int) (p : List Int) : Prop := if kind = 0 then K + dot C p = 0 else 0 ≤ K + dot C p
instance (kind : Int) (C : List Int) (K : Int) (p : List Int) : Decidable (holdsF kind C K p) := by unfold holdsF; infer_instance
theorem gL_int {C : List Int} (c : Int) (h : c ∈ C) : (gL 0 C : Int) ∣ c := by
  have := (gL_dvd C 0).2 c h
  exact Int.ofNat_dvd_left.2 this
theorem tS_holds {C : List Int} {K kind : Int} (hk1 : kind = 0 ∨ kind = 1) (p : List Int) : holdsF kind C K p ↔ (tS C K kind).2.2.2 = true ∧ ((tS C K kind).2.2.1 = true → holdsF kind (tS C K kind).1 (tS C K kind).2.1 p) := by
  unfold tS
  by_cases h0 : gL 0 C = 0
  · rw [if_pos h0]
    unfold holdsF
    rw [dot_zero C p (gL_zero h0)]
    rcases hk1 with rfl | rfl <;> simp <;> omega
  · rw [if_neg h0]
    by_cases h1 : gL 0 C = 1
    · rw [if_pos h1]; simp
    · rw [if_neg h1]
      have hd := dot_quo (gL 0 C : Int) (by omega) C p (fun c hc => gL_int c hc)
      generalize hG : (gL 0 C : Int) = g at *
      have hg : 2 ≤ g := by omega
      have e0 : ∀ (C : List Int) (K : Int), holdsF 0 C K p ↔ K + dot C p = 0 := fun _ _ => by unfold holdsF; simp
      have e1 : ∀ (C : List Int) (K : Int), holdsF 1 C K p ↔ 0 ≤ K + dot C p := fun _ _ => by unfold holdsF; simp
      have he := Int.emod_add_mul_ediv K g
      have hr := Int.emod_nonneg K (b := g) (by omega)
      have hr2 := Int.emod_lt_of_pos K (b := g) (by omega)
      have hm : Int.tmod K g = 0 ↔ K % g = 0 := by rw [← Int.dvd_iff_tmod_eq_zero, Int.dvd_iff_emod_eq_zero]
      have hmul : g * (K / g + dot (quoL g C) p) = g * (K / g) + g * dot (quoL g C) p := Int.mul_add _ _ _
      rcases hk1 with rfl | rfl
      · by_cases hm0 : Int.tmod K g = 0
        · rw [if_neg (fun z => z.2 hm0), e0, e0, hd]
          generalize dot (quoL g C) p = D at *
          have : K % g = 0 := hm.1 hm0
          refine ⟨fun h => ⟨rfl, fun _ => ?_⟩, fun h => ?_⟩
          · have h2 : g * (K / g + D) = 0 := by omega
            rcases Int.mul_eq_zero.1 h2 with h3 | h3
            · omega
            · exact h3
          · have h1 : K / g + D = 0 := h.2 rfl
            rw [h1, Int.mul_zero] at hmul; omega
        · rw [if_pos ⟨rfl, hm0⟩, e0, hd]
          refine ⟨fun h => ?_, fun h => Bool.noConfusion h.1⟩
          have hK : K = g * (-dot (quoL g C) p) := by rw [Int.mul_neg]; omega
          exact absurd (Int.dvd_iff_tmod_eq_zero.1 ⟨_, hK⟩) hm0
      · rw [if_neg (by simp), e1, e1, hd]
        generalize dot (quoL g C) p = D at *
        refine ⟨fun h => ⟨rfl, fun _ => ?_⟩, fun h => ?_⟩
        · show 0 ≤ K / g + D
          refine Int.not_lt.1 fun hn => ?_
          have h2 : g * (K / g + D) ≤ g * (-1) := Int.mul_le_mul_of_nonneg_left (by omega) (by omega)
          omega
        · have h1 : 0 ≤ K / g + D := h.2 rfl
          have h2 : 0 ≤ g * (K / g + D) := Int.mul_nonneg (by omega) h1
          omega
theorem tS_len {C : List Int} {K kind : Int} (h : (tS C K kind).2.2.1 = true) : (tS C K kind).1.length = C.length := by
  unfold tS at h ⊢
  by_cases h0 : gL 0 C = 0
  · rw [if_pos h0] at h; simp at h
  · rw [if_neg h0] at h ⊢
    by_cases h1 : gL 0 C = 1
    · rw [if_pos h1]
    · rw [if_neg h1] at h ⊢
      by_cases h2 : kind = 0 ∧ Int.tmod K (gL 0 C : Int) ≠ 0
      · rw [if_pos h2] at h; simp at h
      · rw [if_neg h2]; simp [quoL]
theorem tS_in {C : List Int} {K kind : Int} (hC : ∀ c ∈ C, inC c) (hK : inC K) : (∀ c ∈ (tS C K kind).1, inC c) ∧ inC (tS C K kind).2.1 := by
  have z : inC 0 := by unfold inC; omega
  unfold tS
  by_cases h0 : gL 0 C = 0
  · rw [if_pos h0]; exact ⟨by simp, z⟩
  · rw [if_neg h0]
    by_cases h1 : gL 0 C = 1
    · rw [if_pos h1]; exact ⟨hC, hK⟩
    · rw [if_neg h1]
      by_cases h2 : kind = 0 ∧ Int.tmod K (gL 0 C : Int) ≠ 0
      · rw [if_pos h2]; exact ⟨by simp, z⟩
      · rw [if_neg h2]
        refine ⟨fun c hc => ?_, ?_⟩
        · obtain ⟨a, ha, rfl⟩ := List.mem_map.1 hc
          have := hC a ha
          have h3 : (Int.tdiv a (gL 0 C : Int)).natAbs ≤ a.natAbs := by rw [Int.natAbs_tdiv]; exact Nat.div_le_self _ _
          unfold inC at this ⊢; omega
        · unfold inC at hK ⊢
          have hg : (1 : Int) ≤ (gL 0 C : Int) := by omega
          generalize (gL 0 C : Int) = g at *
          constructor
          · refine (Int.le_ediv_iff_mul_le (by omega)).2 ?_
            have : g * 1073741824 ≥ 1073741824 := by omega
            omega
          · exact Int.le_trans (Int.ediv_le_ediv (by omega) hK.2) (Int.ediv_le_self _ (by omega))

end Go.Proofs.YtkkpgjkjkcmcbaaDoor.Pure
