/- Whether a system may be, on both sides; no conditions. -/
import Derived.Test.YtkkpgjkjkcmcbaaDoorPureAny1
import Derived.Test.YtkkpgjkjkcmcbaaDoorPureSys1
import Derived.Test.YtkkpgjkjkcmcbaaDoorXx20
import Derived.Test.YtkkpgjkjkcmcbaaDoorXx9
import Derived.Test.YtkkpgjkjkcmcbaaDoorHandE
import Derived.Laws.Bits64
namespace Go.Proofs.YtkkpgjkjkcmcbaaDoor.Pure
open Go.RowKit Go.Proofs.YtkkpgjkjkcmcbaaDoor.X Go.Proofs.YtkkpgjkjkcmcbaaDoor.Flt Go.Proofs.YtkkpgjkjkcmcbaaDoor.H Go.Proofs.YtkkpgjkjkcmcbaaDoorW.PrintWords Go.Proofs.YtkkpgjkjkcmcbaaDoorW.PrintLast Go.Proofs.YtkkpgjkjkcmcbaaDoorW.PrintMore
set_option linter.unusedVariables false
set_option linter.unusedSimpArgs false
/-! whether a system may be: told alike -/
def inCb (c : Int) : Bool := decide (inC c)
def chk (N : Int) : Int → List S59 → Option (Int × Int)
  | _, [] => none
  | i, f :: fs => if (f.f0.length : Int) = N then (if (inCb f.f1 && f.f0.all inCb) = true then chk N (i + 1) fs else some (i, 5)) else some (i, 1)
def sysE : Option (Int × Int) → List Flt
  | none => []
  | some p => [⟨⟨#[115, 121, 115]⟩, p.1, some p.2⟩]
def refE : Option (Int × Int) → List S76 × Int
  | none => ([], 0)
  | some p => ([⟨⟨#[115, 121, 115]⟩, p.1⟩], p.2)
theorem tells (o : Option (Int × Int)) (h : ∀ p, o = some p → p.2 ≠ 0) : furrowlaw2_Tells.f (sysE o) (refE o).1 (refE o).2 = some true := by
  cases o with
  | none => rfl
  | some p =>
    have := h p rfl
    unfold furrowlaw2_Tells.f sysE refE
    simp [this]
theorem chk_ne {N : Int} : ∀ (fs : List S59) (i : Int) (p : Int × Int), chk N i fs = some p → p.2 ≠ 0 := by
  intro fs
  induction fs with
  | nil => intro i p h; cases h
  | cons f fs ih =>
    intro i p h
    unfold chk at h
    split at h
    · split at h
      · exact ih _ _ h
      · cases h; simp
    · cases h; simp
theorem chk_ok {N : Nat} : ∀ (fs : List S59) (i : Int), chk (N : Int) i fs = none → ∀ f ∈ fs, okF N f := by
  intro fs
  induction fs with
  | nil => intro i h f hf; cases hf
  | cons f fs ih =>
    intro i h g hg
    unfold chk at h
    split at h
    next h1 =>
      split at h
      next h2 =>
        rcases List.mem_cons.1 hg with rfl | hg
        · rw [Bool.and_eq_true, List.all_eq_true] at h2
          exact ⟨by omega, fun c hc => of_decide_eq_true (h2.2 c hc), of_decide_eq_true h2.1⟩
        · exact ih _ h g hg
      next => cases h
    next => cases h
theorem large_spec (a : Int) : sys_large.f a = some (!inCb a) := by
  unfold sys_large.f inCb
  by_cases h : a > 1073741824
  · rw [if_pos h, decide_eq_false (by unfold inC; omega)]; rfl
  · rw [if_neg h]
    by_cases h2 : a < -1073741824
    · rw [decide_eq_true h2, decide_eq_false (by unfold inC; omega)]; rfl
    · rw [decide_eq_false h2, decide_eq_true (by unfold inC; omega)]; rfl
theorem beyC_spec (a : Int) : furrowref20_beyond.f a 1073741824 = some (!inCb a) := by
  unfold furrowref20_beyond.f
  have hw : wrap64 (-1073741824) = -1073741824 := by decide +kernel
  rw [hw]
  exact large_spec a
theorem ix_l0 (l : List Int) (hl : l.length ≤ 16) : ∀ (d i k : Nat), i + d = l.length → d < k → ∃ r, slices_IndexFunc_int64_int64.l0 largeG k l (l.length : Int) (i : Int) = some r ∧ decide (r ≥ 0) = !((l.drop i).all inCb) := by
  intro d
  induction d with
  | zero =>
    intro i k hi hk
    obtain ⟨k, rfl⟩ : ∃ m, k = m + 1 := ⟨k - 1, by omega⟩
    refine ⟨-1, by simp only [slices_IndexFunc_int64_int64.l0]; rw [if_neg (by omega)], ?_⟩
    rw [List.drop_eq_nil_of_le (by omega)]; rfl
  | succ d ih =>
    intro i k hi hk
    obtain ⟨k, rfl⟩ : ∃ m, k = m + 1 := ⟨k - 1, by omega⟩
    have hlt : i < l.length := by omega
    simp only [slices_IndexFunc_int64_int64.l0]
    rw [if_pos (by omega), if_pos (by omega), if_pos (by omega), rd_at l i hlt, show largeG.f l[i] = some (!inCb l[i]) from large_spec _, List.drop_eq_getElem_cons hlt, w_succ hlt (by omega)]
    simp only [Option.bind_some, List.all_cons]
    cases h : inCb l[i] with
    | false => exact ⟨i, by simp, by simp⟩
    | true => rw [if_neg (by simp)]; simpa using ih (i + 1) k (by omega) (by omega)
theorem cont_spec {l : List Int} (hl : l.length ≤ 16) {k : Nat} (hk : 20 ≤ k) : slices_ContainsFunc_int64_int64.f k l = some (!l.all inCb) := by
  unfold slices_ContainsFunc_int64_int64.f slices_IndexFunc_int64_int64.f
  obtain ⟨r, h1, h2⟩ := ix_l0 l hl l.length 0 k (by omega) (by omega)
  rw [show ((0 : Nat) : Int) = 0 from rfl] at h1
  rw [h1, Option.bind_some, h2, List.drop_zero]
theorem sc_l0 (N : Int) (hN : 0 ≤ N ∧ N ≤ 16) (n : Int) (E G fs : List S59) (hf : fs.length ≤ 70) : ∀ (d i k : Nat), i + d = fs.length → 30 + d < k → sys_Check.l0 k fs (fs.length : Int) (i : Int) N E G = some (sysE (chk N i (fs.drop i))) := by
  intro d
  induction d with
  | zero =>
    intro i k hi hk
    obtain ⟨k, rfl⟩ : ∃ m, k = m + 1 := ⟨k - 1, by omega⟩
    simp only [sys_Check.l0]
    rw [if_neg (by omega), List.drop_eq_nil_of_le (by omega)]; rfl
  | succ d ih =>
    intro i k hi hk
    obtain ⟨k, rfl⟩ : ∃ m, k = m + 1 := ⟨k - 1, by omega⟩
    have hlt : i < fs.length := by omega
    simp only [sys_Check.l0]
    rw [if_pos (by omega), if_pos (by omega), if_pos (by omega), rd59_at fs i hlt, List.drop_eq_getElem_cons hlt, w_succ hlt (by omega)]
    unfold chk
    by_cases h : (fs[i].f0.length : Int) = N
    · rw [if_pos h, if_pos h, large_spec, Option.bind_some]
      cases h1 : inCb fs[i].f1 with
      | false => rfl
      | true =>
        rw [if_neg (by simp), cont_spec (by omega) (by omega), Option.bind_some]
        cases h2 : fs[i].f0.all inCb with
        | false => rfl
        | true => rw [if_neg (by simp), ih (i + 1) k (by omega) (by omega)]; rfl
    · rw [if_neg h, if_neg h]; rfl
theorem rc_l1 (N : Int) (E G L : List S65) (i M : Nat) (hi : i < L.length) (hL : L.length ≤ 1000) (hN : 0 ≤ N ∧ N ≤ 16) (hlen : (L[i].f0.length : Int) = N) (X : Option (List S76 × Int))
    (hR : ∀ k', M ≤ k' → furrowref20_Check.l0 k' L ((i + 1 : Nat) : Int) N E G = X) : ∀ (d j k : Nat) (t : Bool), j + d = L[i].f0.length → M + d < k →
    furrowref20_Check.l1 k L (i : Int) t (j : Int) N E G = if (!t && (L[i].f0.drop j).all inCb) = true then X else some ([⟨⟨#[115, 121, 115]⟩, (i : Int)⟩], 5) := by
  intro d
  induction d with
  | zero =>
    intro j k t hj hk
    obtain ⟨k, rfl⟩ : ∃ m, k = m + 1 := ⟨k - 1, by omega⟩
    simp only [furrowref20_Check.l1]
    rw [if_neg (by omega), List.drop_eq_nil_of_le (by omega)]
    cases t with
    | true => rfl
    | false => rw [if_neg (by simp), w_succ hi (by omega), hR k (by omega)]; rfl
  | succ d ih =>
    intro j k t hj hk
    obtain ⟨k, rfl⟩ : ∃ m, k = m + 1 := ⟨k - 1, by omega⟩
    have hlt : j < L[i].f0.length := by omega
    simp only [furrowref20_Check.l1]
    rw [if_pos (by omega), w_succ (n := L[i].f0.length) hlt (by omega)]
    cases t with
    | true => rw [if_pos rfl, ih (j + 1) k true (by omega) (by omega)]; rfl
    | false =>
      rw [if_neg (by simp), if_pos (by omega), if_pos (by omega), if_pos (by omega), rd65_at L i hi, if_pos (by omega), rd_at _ j hlt, beyC_spec, Option.bind_some, ih (j + 1) k _ (by omega) (by omega), List.drop_eq_getElem_cons hlt]
      simp only [Bool.not_not, Bool.not_false, Bool.true_and, List.all_cons]
theorem rc_l0 (N : Int) (hN : 0 ≤ N ∧ N ≤ 16) (E G : List S65) (fs : List S59) (hf : fs.length ≤ 140) : ∀ (d i k : Nat), i + d = fs.length → 20 * d < k → furrowref20_Check.l0 k (fs.map toR) (i : Int) N E G = some (refE (chk N i (fs.drop i))) := by
  intro d
  induction d with
  | zero =>
    intro i k hi hk
    obtain ⟨k, rfl⟩ : ∃ m, k = m + 1 := ⟨k - 1, by omega⟩
    simp only [furrowref20_Check.l0, List.length_map]
    rw [if_neg (by omega), List.drop_eq_nil_of_le (by omega)]; rfl
  | succ d ih =>
    intro i k hi hk
    obtain ⟨k, rfl⟩ : ∃ m, k = m + 1 := ⟨k - 1, by omega⟩
    have hlt : i < fs.length := by omega
    have hL : i < (fs.map toR).length := by simpa using hlt
    have hr : (fs.map toR)[i] = toR fs[i] := by simp
    simp only [furrowref20_Check.l0, List.length_map]
    rw [if_pos (by omega), if_pos (by omega), rd65_at _ i hL, hr, List.drop_eq_getElem_cons hlt]
    unfold chk
    by_cases h : (fs[i].f0.length : Int) = N
    · have h' : (((toR fs[i]).f0.length : Nat) : Int) = N := h
      have hb : furrowref20_beyond.f (toR fs[i]).f1 1073741824 = some (!inCb fs[i].f1) := beyC_spec _
      rw [if_pos h', if_pos h, hb, Option.bind_some]
      have := rc_l1 N E G (fs.map toR) i (20 * d + 1) hL (by simp; omega) hN (by rw [hr]; exact h) _ (fun k' hk' => ih (i + 1) k' (by omega) (by omega)) fs[i].f0.length 0 k (!inCb fs[i].f1) (by rw [hr]; exact Nat.zero_add _) (by omega)
      rw [show ((0 : Nat) : Int) = 0 from rfl] at this
      rw [this, hr, List.drop_zero, Bool.not_not]
      show (if (inCb fs[i].f1 && fs[i].f0.all inCb) = true then _ else _) = _
      split <;> rfl
    · have h' : ¬ (((toR fs[i]).f0.length : Nat) : Int) = N := h
      rw [if_neg h', if_neg h]; rfl
def chkS (n : Int) (eq ge : List S59) : Option (Int × Int) := if n < 0 ∨ n > 16 then some (0, 1) else if eq.length + ge.length > 64 then some (64, 4) else chk n 0 (eq ++ ge)
theorem chkS_ne {n : Int} {eq ge : List S59} : ∀ p, chkS n eq ge = some p → p.2 ≠ 0 := by
  intro p h
  unfold chkS at h
  split at h
  · cases h; simp
  · split at h
    · cases h; simp
    · exact chk_ne _ _ p h
theorem chkS_ok {n : Int} {eq ge : List S59} (h : chkS n eq ge = none) : (0 ≤ n ∧ n ≤ 16) ∧ (∀ f ∈ eq, okF n.toNat f) ∧ ∀ f ∈ ge, okF n.toNat f := by
  unfold chkS at h
  split at h
  · cases h
  · split at h
    · cases h
    · have hn : n = (n.toNat : Int) := by omega
      rw [hn] at h
      have := chk_ok _ _ h
      exact ⟨by omega, fun f hf => this f (List.mem_append.2 (.inl hf)), fun f hf => this f (List.mem_append.2 (.inr hf))⟩
theorem scheck (n : Int) (eq ge : List S59) (le : eq.length ≤ 70) (lg : ge.length ≤ 70) (k : Nat) (hk : 5000 ≤ k) : sys_Check.f k n eq ge = some (sysE (chkS n eq ge)) := by
  obtain ⟨k, rfl⟩ : ∃ m, k = m + 1 := ⟨k - 1, by omega⟩
  unfold sys_Check.f chkS
  by_cases h : n < 0
  · rw [if_pos h, if_pos (.inl h)]; rfl
  · rw [if_neg h]
    by_cases h2 : n > 16
    · rw [decide_eq_true h2, if_pos (.inr h2)]; rfl
    · rw [decide_eq_false h2, if_neg (by omega)]
      simp only [sys_Check.j0, lin_Form_28.f, Option.bind_some, List.nil_append, List.length_nil]
      rw [if_neg (by simp), w64 (by omega)]
      by_cases h3 : eq.length + ge.length > 64
      · rw [if_pos (by omega), if_pos h3]; rfl
      · rw [if_neg (by omega), if_neg h3, if_pos (by omega), Option.bind_some, if_pos (by omega)]
        have := sc_l0 n (by omega) n eq ge (eq ++ ge) (by simp; omega) (eq ++ ge).length 0 k (by omega) (by simp; omega)
        simpa using this
theorem rcheck (n : Int) (eq ge : List S59) (le : eq.length ≤ 70) (lg : ge.length ≤ 70) (k : Nat) (hk : 5000 ≤ k) : furrowref20_Check.f k n (eq.map toR) (ge.map toR) = some (refE (chkS n eq ge)) := by
  obtain ⟨k, rfl⟩ : ∃ m, k = m + 1 := ⟨k - 1, by omega⟩
  unfold furrowref20_Check.f chkS
  by_cases h : n < 0
  · rw [if_pos h, if_pos (.inl h)]; rfl
  · rw [if_neg h]
    by_cases h2 : n > 16
    · rw [decide_eq_true h2, if_pos (.inr h2)]; rfl
    · rw [decide_eq_false h2, if_neg (by omega)]
      simp only [furrowref20_Check.j0]
      rw [if_neg (by simp), all_spec n _ _ (by simp; omega) (by simp; omega), Option.bind_some, ← List.map_append]
      by_cases h3 : eq.length + ge.length > 64
      · rw [if_pos (by simp; omega), if_pos h3]; rfl
      · rw [if_neg (by simp; omega), if_neg h3]
        have := rc_l0 n (by omega) (eq.map toR) (ge.map toR) (eq ++ ge) (by simp; omega) (eq ++ ge).length 0 k (by omega) (by simp; omega)
        simpa using this

end Go.Proofs.YtkkpgjkjkcmcbaaDoor.Pure
