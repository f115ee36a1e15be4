/- Plain lemmas on tightened systems; no program in sight. -/
import Derived.Test.YtmglfimdhbooeaaPureFm1
import Derived.Test.YtmglfimdhbooeaaXx4
import Derived.Laws.Bits64
namespace Go.Proofs.Ytmglfimdhbooeaa.Pure
open Go.RowKit Go.Proofs.Ytmglfimdhbooeaa.X Go.Proofs.Ytmglfimdhbooeaa.Flt Go.Proofs.Ytmglfimdhbooeaa.H Go.Proofs.YtmglfimdhbooeaaW.PrintWords Go.Proofs.YtmglfimdhbooeaaW.PrintLast Go.Proofs.YtmglfimdhbooeaaW.PrintMore
set_option linter.unusedVariables false
set_option linter.unusedSimpArgs false
def dot : List Int → List Int → Int
  | c :: cs, x :: xs => c * x + dot cs xs
  | _, _ => 0
theorem rd_at (l : List Int) (i : Nat) (h : i < l.length) : rd l (i : Int) = l[i] := by
  unfold rd; rw [Int.toNat_natCast, List.getD_eq_getElem?_getD, List.getElem?_eq_getElem h]; rfl
theorem size_nat {a : Int} (h : inC a) : num_size.f a = some (a.natAbs : Int) := by
  unfold inC at h
  unfold num_size.f; simp only [IntKind.wrap_u64]; split <;> (congr 1; omega)
theorem ngcd_l0 (b : Nat) : ∀ (a k : Nat), b < k → num_Gcd.l0 k (a : Int) (b : Int) = some ((Nat.gcd a b : Nat) : Int) := by
  induction b using Nat.strongRecOn with
  | _ b ih =>
    intro a k hk
    obtain ⟨k, rfl⟩ : ∃ m, k = m + 1 := ⟨k - 1, by omega⟩
    simp only [num_Gcd.l0]
    by_cases hb : b = 0
    · subst hb
      rw [if_neg (by omega), Nat.gcd_zero_right]
    · have hlt : a % b < b := Nat.mod_lt _ (by omega)
      have hm : Int.tmod (a : Int) (b : Int) = ((a % b : Nat) : Int) := by rw [Int.tmod_eq_emod_of_nonneg (by omega)]; rfl
      rw [if_pos (by omega), if_neg (by omega), hm, ih (a % b) hlt b k (by omega), Nat.gcd_comm a b, Nat.gcd_rec b a, Nat.gcd_comm]
theorem ngcd {c : Int} (hc : inC c) {k : Nat} (hk : 1 ≤ k) : num_Gcd.f k c 0 = some ((c.natAbs : Nat) : Int) := by
  have h0 : num_size.f 0 = some ((0 : Nat) : Int) := rfl
  unfold num_Gcd.f
  rw [size_nat hc, h0, Option.bind_some, Option.bind_some, ngcd_l0 0 c.natAbs k (by omega), Nat.gcd_zero_right]
/-- The greatest number that divides all, from one on. -/
def gL : Nat → List Int → Nat
  | g, [] => g
  | g, c :: cs => gL (Nat.gcd g c.natAbs) cs
theorem gcd_l1 (C : List Int) (i : Int) (M R : Nat) (n : Nat) : ∀ (g k : Nat), n + M < k → (∀ k', M ≤ k' → sys_gcd.l0 k' ((Nat.gcd g n : Nat) : Int) C (C.length : Int) (wrap64 (i + 1)) = some (R : Int)) → sys_gcd.l1 k (g : Int) (n : Int) C (C.length : Int) i = some (R : Int) := by
  induction n using Nat.strongRecOn with
  | _ n ih =>
    intro g k hk h
    obtain ⟨k, rfl⟩ : ∃ m, k = m + 1 := ⟨k - 1, by omega⟩
    simp only [sys_gcd.l1]
    by_cases hn : n = 0
    · subst hn
      rw [if_neg (by omega)]
      have := h k (by omega)
      rwa [Nat.gcd_zero_right] at this
    · have hlt : g % n < n := Nat.mod_lt _ (by omega)
      have hm : Int.tmod (g : Int) (n : Int) = ((g % n : Nat) : Int) := by rw [Int.tmod_eq_emod_of_nonneg (by omega)]; rfl
      rw [if_pos (by omega), if_neg (by omega), hm]
      refine ih (g % n) hlt n k (by omega) fun k' hk' => ?_
      have := h k' hk'
      rwa [Nat.gcd_comm g n, Nat.gcd_rec n g, Nat.gcd_comm] at this
theorem gcd_l0 (C : List Int) (hC : ∀ c ∈ C, inC c) (hn : C.length ≤ 16) : ∀ (d i k g : Nat), i + d = C.length → 1073741826 * d < k → sys_gcd.l0 k (g : Int) C (C.length : Int) (i : Int) = some ((gL g (C.drop i) : Nat) : Int) := by
  intro d
  induction d with
  | zero =>
    intro i k g hi hk
    obtain ⟨k, rfl⟩ : ∃ m, k = m + 1 := ⟨k - 1, by omega⟩
    simp only [sys_gcd.l0]
    rw [if_neg (by omega), List.drop_eq_nil_of_le (by omega)]
    rfl
  | succ d ih =>
    intro i k g hi hk
    obtain ⟨k, rfl⟩ : ∃ m, k = m + 1 := ⟨k - 1, by omega⟩
    have hlt : i < C.length := by omega
    have hw : wrap64 ((i : Int) + 1) = ((i + 1 : Nat) : Int) := by unfold wrap64; omega
    have hdC : C.drop i = C[i] :: C.drop (i + 1) := List.drop_eq_getElem_cons hlt
    have hc := hC _ (List.getElem_mem hlt)
    simp only [sys_gcd.l0]
    rw [if_pos (by omega), if_pos (by omega), if_pos (by omega), rd_at C i hlt, ngcd hc (by omega), Option.bind_some, hdC]
    show _ = some ((gL (Nat.gcd g C[i].natAbs) (C.drop (i + 1)) : Nat) : Int)
    by_cases hg : g = 0
    · subst hg
      rw [if_pos (by rfl), hw, ih (i + 1) k _ (by omega) (by omega), Nat.gcd_zero_left]
    · rw [if_neg (by omega)]
      by_cases h0 : C[i].natAbs = 0
      · rw [h0, if_neg (by omega), hw, ih (i + 1) k g (by omega) (by omega), Nat.gcd_zero_right]
      · rw [if_pos (by omega)]
        unfold inC at hc
        refine gcd_l1 C i (1073741826 * d + 1) _ _ g k (by omega) fun k' hk' => ?_
        rw [hw]
        exact ih (i + 1) k' _ (by omega) (by omega)
theorem gcd_spec (C : List Int) (hC : ∀ c ∈ C, inC c) (hn : C.length ≤ 16) (k : Nat) (hk : 17179869217 ≤ k) : sys_gcd.f k C = some ((gL 0 C : Nat) : Int) := by
  unfold sys_gcd.f
  have h := gcd_l0 C hC hn C.length 0 k 0 (by omega) (by omega)
  rw [List.drop_zero] at h
  exact h
theorem gL_dvd : ∀ (C : List Int) (g : Nat), gL g C ∣ g ∧ ∀ c ∈ C, gL g C ∣ c.natAbs
  | [], g => ⟨Nat.dvd_refl g, by simp⟩
  | c :: cs, g => by
    obtain ⟨h1, h2⟩ := gL_dvd cs (Nat.gcd g c.natAbs)
    refine ⟨Nat.dvd_trans h1 (Nat.gcd_dvd_left _ _), fun x hx => ?_⟩
    rcases List.mem_cons.1 hx with rfl | hx
    · exact Nat.dvd_trans h1 (Nat.gcd_dvd_right _ _)
    · exact h2 x hx
theorem gL_zero {C : List Int} (h : gL 0 C = 0) : ∀ c ∈ C, c = 0 := by
  intro c hc
  have := (gL_dvd C 0).2 c hc
  rw [h, Nat.zero_dvd] at this
  omega
theorem gL_le {C : List Int} (hC : ∀ c ∈ C, inC c) : gL 0 C ≤ 1073741824 := by
  by_cases hz : ∀ c ∈ C, c = 0
  · have : ∀ (C : List Int), (∀ c ∈ C, c = 0) → gL 0 C = 0 := by
      intro C
      induction C with
      | nil => intro _; rfl
      | cons c cs ih =>
        intro h
        have hc : c = 0 := h c (by simp)
        subst hc
        show gL (Nat.gcd 0 0) cs = 0
        exact ih fun x hx => h x (by simp [hx])
    rw [this C hz]; omega
  · obtain ⟨c, hc⟩ := Classical.not_forall.1 hz
    obtain ⟨hm, h0⟩ := Classical.not_imp.1 hc
    have h1 := (gL_dvd C 0).2 c hm
    have h2 := hC c hm
    unfold inC at h2
    have := Nat.le_of_dvd (by omega) h1
    omega

theorem floor_spec {a b : Int} (ha : -4611686018427387904 ≤ a ∧ a ≤ 4611686018427387904) (hb : 1 ≤ b ∧ b ≤ 4611686018427387904) {k : Nat} (hk : 1 ≤ k) : num_Floor.f k a b = some (a / b, true) := by
  obtain ⟨k, rfl⟩ : ∃ m, k = m + 1 := ⟨k - 1, by omega⟩
  have hd : a / b ≤ 4611686018427387904 ∧ -4611686018427387904 ≤ a / b := by
    constructor
    · exact Int.le_trans (Int.ediv_le_ediv (by omega) ha.2) (Int.ediv_le_self _ (by omega))
    · refine (Int.le_ediv_iff_mul_le (by omega)).2 ?_
      have : b * 4611686018427387904 ≥ 4611686018427387904 := by omega
      omega
  have ht : Int.tdiv a b = a / b + (if Int.tmod a b ≠ 0 ∧ a < 0 then 1 else 0) := by
    rw [Int.tdiv_eq_ediv]
    have hs : b.sign = 1 := Int.sign_eq_one_of_pos (by omega)
    have hm : Int.tmod a b = 0 ↔ b ∣ a := Int.dvd_iff_tmod_eq_zero.symm
    by_cases h0 : 0 ≤ a
    · rw [if_pos (.inl h0), if_neg (by omega)]
    · by_cases h1 : b ∣ a
      · rw [if_pos (.inr h1), if_neg (fun z => z.1 (hm.2 h1))]
      · rw [if_neg (fun z => z.elim (fun z => absurd z h0) h1), if_pos ⟨fun z => h1 (hm.1 z), by omega⟩, hs]
  unfold num_Floor.f
  rw [if_neg (by omega), if_neg (by omega)]
  simp only [num_Floor.j0]
  rw [if_neg (by simp), if_neg (by omega)]
  by_cases hm : Int.tmod a b = 0
  · rw [if_pos hm, ht, if_neg (by simp [hm]), Int.add_zero, w64 (by omega)]
  · rw [if_neg hm]
    by_cases h0 : a < 0
    · rw [if_pos (by simp [h0]; omega), ht, if_pos ⟨hm, h0⟩, w64 (a := a / b + 1) (by omega)]
      have : a / b + 1 - 1 = a / b := by omega
      rw [this, w64 (by omega)]
    · rw [if_neg (by simp [h0]; omega), ht, if_neg (by simp [h0]), Int.add_zero, w64 (by omega)]
def quoL (g : Int) (C : List Int) : List Int := C.map fun c => Int.tdiv c g
theorem tight_l0 (C : List Int) (K g : Int) (hg : 2 ≤ g ∧ g ≤ 1073741824) (hC : ∀ c ∈ C, inC c) (hK : inC K) (hn : C.length ≤ 16) : ∀ (d i k : Nat) (out : List Int), i + d = C.length → d + 1 < k → out.length = i →
    sys_tight.l0 k g C (C.length : Int) (i : Int) C K out 0 = some (out ++ quoL g (C.drop i), K / g, true, true) := by
  intro d
  induction d with
  | zero =>
    intro i k out hi hk ho
    obtain ⟨k, rfl⟩ : ∃ m, k = m + 1 := ⟨k - 1, by omega⟩
    unfold inC at hK
    simp only [sys_tight.l0]
    rw [if_neg (by omega), List.drop_eq_nil_of_le (by omega), floor_spec (by omega) (by omega) (by omega), Option.bind_some]
    simp [quoL]
  | succ d ih =>
    intro i k out hi hk ho
    obtain ⟨k, rfl⟩ : ∃ m, k = m + 1 := ⟨k - 1, by omega⟩
    have hlt : i < C.length := by omega
    have hw : wrap64 ((i : Int) + 1) = ((i + 1 : Nat) : Int) := by unfold wrap64; omega
    have hdC : C.drop i = C[i] :: C.drop (i + 1) := List.drop_eq_getElem_cons hlt
    have hc := hC _ (List.getElem_mem hlt)
    unfold inC at hc
    have hq : wrap64 (Int.tdiv C[i] g) = Int.tdiv C[i] g := by
      refine w64 ?_
      have h1 : (Int.tdiv C[i] g).natAbs ≤ C[i].natAbs := by rw [Int.natAbs_tdiv]; exact Nat.div_le_self _ _
      omega
    simp only [sys_tight.l0]
    rw [if_pos (by omega), if_pos (by omega), if_pos (by omega), if_neg (by omega), if_pos (by omega), rd_at C i hlt, hq, hw, ih (i + 1) k _ (by omega) (by omega) (by simp [ho]), hdC, List.append_assoc]
    rfl
/-- What tight tells. -/
def tS (C : List Int) (K kind : Int) : List Int × Int × Bool × Bool :=
  if gL 0 C = 0 then ([], 0, false, decide (K = 0) || (kind == 1 && decide (K > 0)))
  else if gL 0 C = 1 then (C, K, true, true)
  else if kind = 0 ∧ Int.tmod K (gL 0 C : Int) ≠ 0 then ([], 0, false, false)
  else (quoL (gL 0 C : Int) C, K / (gL 0 C : Int), true, true)
theorem tight_spec (C : List Int) (K kind : Int) (hC : ∀ c ∈ C, inC c) (hK : inC K) (hn : C.length ≤ 16) (hk1 : kind = 0 ∨ kind = 1) (k : Nat) (hk : 17179869217 ≤ k) : sys_tight.f k C K kind = some (tS C K kind) := by
  have hle := gL_le hC
  unfold sys_tight.f tS
  rw [gcd_spec C hC hn k hk, Option.bind_some]
  by_cases h0 : gL 0 C = 0
  · rw [h0, if_pos rfl, if_pos (by rfl)]
    by_cases hK0 : K = 0
    · rw [if_pos hK0]; simp [hK0]
    · rw [if_neg hK0]
      rcases hk1 with rfl | rfl
      · rw [if_neg (by omega)]; simp [hK0]
      · rw [if_pos rfl]; simp [hK0]
  · rw [if_neg h0, if_neg (by omega), if_neg (by omega)]
    by_cases h1 : gL 0 C = 1
    · rw [if_pos h1, h1, if_pos (by rfl)]
    · rw [if_neg h1, if_neg (by omega), w64 (a := (gL 0 C : Int)) (by omega)]
      have hl : sys_tight.j0 k (gL 0 C : Int) false C K = some (quoL (gL 0 C : Int) C, K / (gL 0 C : Int), true, true) := by
        obtain ⟨k, rfl⟩ : ∃ m, k = m + 1 := ⟨k - 1, by omega⟩
        simp only [sys_tight.j0]
        rw [if_neg (by simp)]
        have h := tight_l0 C K (gL 0 C : Int) (by omega) hC hK hn C.length 0 k [] (by omega) (by omega) rfl
        rw [List.drop_zero] at h
        exact h
      rcases hk1 with rfl | rfl
      · rw [if_pos rfl, if_neg (by omega)]
        by_cases hm : Int.tmod K (gL 0 C : Int) = 0
        · rw [hm, if_neg (by simp), show ((0 : Int) != 0) = false from rfl, hl]
        · rw [if_pos ⟨rfl, hm⟩, bne_iff_ne.mpr hm]
          obtain ⟨k, rfl⟩ : ∃ m, k = m + 1 := ⟨k - 1, by omega⟩
          simp only [sys_tight.j0]
          simp
      · rw [if_neg (by omega), if_neg (by omega), hl]

def okF (N : Nat) (f : S45) : Prop := f.f0.length = N ∧ (∀ c ∈ f.f0, inC c) ∧ inC f.f1
theorem rd45_at (l : List S45) (i : Nat) (h : i < l.length) : rd_T45 l (i : Int) = l[i] := by
  unfold rd_T45; rw [Int.toNat_natCast, List.getD_eq_getElem?_getD, List.getElem?_eq_getElem h]; rfl
theorem w_succ {i n : Nat} (h : i < n) (hn : n ≤ 4611686018427387904) : wrap64 ((i : Int) + 1) = ((i + 1 : Nat) : Int) := by unfold wrap64; omega
/-- What rows tells. -/
def rowsS (kind : Int) : List S45 → Option (List S45)
  | [] => some []
  | f :: fs => if (tS f.f0 f.f1 kind).2.2.2 = true then (rowsS kind fs).map fun r => if (tS f.f0 f.f1 kind).2.2.1 = true then (⟨(tS f.f0 f.f1 kind).1, (tS f.f0 f.f1 kind).2.1⟩ : S45) :: r else r else none
def rowsR (out : List S45) : Option (List S45) → List S45 × Bool
  | some r => (out ++ r, true)
  | none => ([], false)
theorem rows_l0 {N : Nat} (kind : Int) (hk1 : kind = 0 ∨ kind = 1) (l : List S45) (hl : ∀ f ∈ l, okF N f) (hN : N ≤ 16) (hlen : l.length ≤ 70) : ∀ (d i k : Nat) (out : List S45), i + d = l.length → 17179869217 + d < k → out.length ≤ i →
    sys_rows.l0 k kind out l (l.length : Int) (i : Int) = some (rowsR out (rowsS kind (l.drop i))) := by
  intro d
  induction d with
  | zero =>
    intro i k out hi hk ho
    obtain ⟨k, rfl⟩ : ∃ m, k = m + 1 := ⟨k - 1, by omega⟩
    simp only [sys_rows.l0]
    rw [if_neg (by omega), List.drop_eq_nil_of_le (by omega)]
    simp [rowsS, rowsR]
  | succ d ih =>
    intro i k out hi hk ho
    obtain ⟨k, rfl⟩ : ∃ m, k = m + 1 := ⟨k - 1, by omega⟩
    have hlt : i < l.length := by omega
    obtain ⟨h1, h2, h3⟩ := hl _ (List.getElem_mem hlt)
    have hd : l.drop i = l[i] :: l.drop (i + 1) := List.drop_eq_getElem_cons hlt
    simp only [sys_rows.l0]
    rw [if_pos (by omega), if_pos (by omega), if_pos (by omega), rd45_at l i hlt, tight_spec _ _ kind h2 h3 (by omega) hk1 k (by omega), Option.bind_some, hd, w_succ hlt (by omega)]
    simp only [rowsS]
    by_cases hm : (tS l[i].f0 l[i].f1 kind).2.2.2 = true
    · rw [if_pos hm, if_pos hm]
      by_cases hs : (tS l[i].f0 l[i].f1 kind).2.2.1 = true
      · rw [if_pos hs, if_pos (by omega), ih (i + 1) k _ (by omega) (by omega) (by simp; omega)]
        cases rowsS kind (l.drop (i + 1)) with
        | none => rfl
        | some r => simp [rowsR, hs]
      · rw [if_neg hs, ih (i + 1) k _ (by omega) (by omega) (by omega)]
        cases rowsS kind (l.drop (i + 1)) with
        | none => rfl
        | some r => simp [rowsR, hs]
    · rw [if_neg hm, if_neg hm]
      rfl
theorem rows_spec {N : Nat} (kind : Int) (hk1 : kind = 0 ∨ kind = 1) (l : List S45) (hl : ∀ f ∈ l, okF N f) (hN : N ≤ 16) (hlen : l.length ≤ 70) (k : Nat) (hk : 17179869300 ≤ k) : sys_rows.f k l kind = some (rowsR [] (rowsS kind l)) := by
  unfold sys_rows.f
  have h := rows_l0 kind hk1 l hl hN hlen l.length 0 k [] (by omega) (by omega) (by simp)
  rw [List.drop_zero] at h
  exact h
/-- What Tight tells. -/
def tightS (N : Int) (eq ge : List S45) : Int × List S45 × List S45 × Bool := match rowsS 0 eq, rowsS 1 ge with
  | some a, some b => (N, a, b, true)
  | _, _ => (0, [], [], false)
theorem Tight_spec {N : Nat} (n : Int) (eq ge : List S45) (he : ∀ f ∈ eq, okF N f) (hg : ∀ f ∈ ge, okF N f) (hN : N ≤ 16) (le : eq.length ≤ 70) (lg : ge.length ≤ 70) (k : Nat) (hk : 17179869300 ≤ k) : sys_Tight.f k n eq ge = some (tightS n eq ge) := by
  unfold sys_Tight.f tightS
  rw [rows_spec 0 (.inl rfl) eq he hN le k hk, rows_spec 1 (.inr rfl) ge hg hN lg k hk, Option.bind_some, Option.bind_some]
  cases rowsS 0 eq <;> cases rowsS 1 ge <;> simp [rowsR]

end Go.Proofs.Ytmglfimdhbooeaa.Pure
