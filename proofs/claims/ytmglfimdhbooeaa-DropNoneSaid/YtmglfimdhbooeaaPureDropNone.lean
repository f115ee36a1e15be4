/- DropNone over numbers alone. -/
import Derived.Test.YtmglfimdhbooeaaPureFm2
import Derived.Test.YtmglfimdhbooeaaPureFm3
import Derived.Test.YtmglfimdhbooeaaXx29
import Derived.Laws.Bits64
namespace Go.Proofs.Ytmglfimdhbooeaa.Pure
open Go.RowKit Go.Proofs.Ytmglfimdhbooeaa.X Go.Proofs.Ytmglfimdhbooeaa.Flt Go.Proofs.Ytmglfimdhbooeaa.H Go.Proofs.YtmglfimdhbooeaaW.PrintWords Go.Proofs.YtmglfimdhbooeaaW.PrintLast Go.Proofs.YtmglfimdhbooeaaW.PrintMore
set_option linter.unusedVariables false
set_option linter.unusedSimpArgs false
theorem i8_of'' {a : Int} (h : (Lit.int .i8 a).wf = true) : -128 ≤ a ∧ a ≤ 127 := by
  simp only [Lit.wf, IntKind.min, IntKind.max, IntKind.signed, IntKind.bits, Bool.and_eq_true, decide_eq_true_eq, if_true] at h
  omega
theorem i16_of {a : Int} (h : (Lit.int .i16 a).wf = true) : -32768 ≤ a ∧ a ≤ 32767 := by
  simp only [Lit.wf, IntKind.min, IntKind.max, IntKind.signed, IntKind.bits, Bool.and_eq_true, decide_eq_true_eq, if_true] at h
  omega
theorem all_one {P : Int → Prop} {a : Int} (ha : P a) : ∀ z ∈ [a], P z := by
  intro z hz
  rcases List.mem_cons.1 hz with rfl | h
  · exact ha
  · cases h
theorem all_two' {P : Int → Prop} {a b : Int} (ha : P a) (hb : P b) : ∀ z ∈ [a, b], P z := by
  intro z hz
  rcases List.mem_cons.1 hz with rfl | h
  · exact ha
  · exact all_one hb z h
theorem ok1 {c K : Int} (hc : inC c) (hK : inC K) : okF 1 (⟨[c], K⟩ : S45) := ⟨rfl, all_one hc, hK⟩
theorem ok_one {N : Nat} {f : S45} (h : okF N f) : ∀ g ∈ [f], okF N g := by
  intro g hg
  rcases List.mem_cons.1 hg with rfl | h1
  · exact h
  · cases h1
theorem ok_two {N : Nat} {f f' : S45} (h : okF N f) (h' : okF N f') : ∀ g ∈ [f, f'], okF N g := by
  intro g hg
  rcases List.mem_cons.1 hg with rfl | h1
  · exact h
  · exact ok_one h' g h1
theorem ok_nil {N : Nat} : ∀ g ∈ ([] : List S45), okF N g := by intro g hg; cases hg
theorem tS_pos (K kind : Int) : tS [1] K kind = ([1], K, true, true) := rfl
theorem tS_neg (K kind : Int) : tS [-1] K kind = ([-1], K, true, true) := rfl
theorem tS_nought (K : Int) : tS [0] K 1 = ([], 0, false, decide (K = 0) || decide (K > 0)) := rfl
theorem pair_tight (K L : Int) : tightS 1 [] [⟨[1], K⟩, ⟨[-1], L⟩] = (1, [], [⟨[1], K⟩, ⟨[-1], L⟩], true) := rfl
/-- Two bounds of one variable: what is left of them is the one's number and the other's. -/
theorem never_two {K L : Int} (hK : inC K) (hL : inC L) (hs : inC (K + L)) (k : Nat) (hk : 20000000000 ≤ k) : fm_Never.f k 1 [] [⟨[1], K⟩, ⟨[-1], L⟩] = some (!(decide (K + L = 0) || decide (K + L > 0))) := by
  obtain ⟨k, rfl⟩ : ∃ m, k = m + 40 := ⟨k - 40, by omega⟩
  unfold fm_Never.f
  rw [show wrap64 (1 + 1) = 2 from by unfold wrap64; omega]
  rw [fm_Never.l0, if_pos (by omega), Tight_spec (N := 1) 1 [] _ ok_nil (ok_two (ok1 (by unfold inC; omega) hK) (ok1 (by unfold inC; omega) hL)) (by omega) (by simp) (by simp) _ (by omega), Option.bind_some, pair_tight, if_pos rfl]
  have hr : fm_row.f (k + 19 + 13) (⟨[1], K⟩ : S45).f0 (⟨[1], K⟩ : S45).f1 (⟨[-1], L⟩ : S45).f0 (⟨[-1], L⟩ : S45).f1 0 = some ([0], K + L, true) :=
    row_one (l := [1]) (m := [-1]) (a := K) (b := L) (by omega) rfl (by omega) (by simp) (by simp) rfl rfl (all_one (by unfold inC; omega)) (all_one (by unfold inC; omega)) hK hL
  have hd := drop_two (k := k + 19) (n := 1) (i := 0) (p := ⟨[1], K⟩) (q := ⟨[-1], L⟩) (by omega) (by omega) (by simp) (by simp) (show (0 : Int) < 1 by omega) (show (-1 : Int) < 0 by omega) hr
  rw [show k + 39 = k + 19 + 20 from rfl, hd, Option.bind_some, if_pos rfl]
  dsimp only
  rw [show wrap64 (0 + 1) = 1 from by unfold wrap64; omega, show k + 19 + 20 = k + 38 + 1 from rfl, fm_Never.l0, if_pos (by omega), Tight_spec (N := 1) 1 [] _ ok_nil (ok_one (ok1 (by unfold inC; omega) hs)) (by omega) (by simp) (by simp) _ (by omega), Option.bind_some]
  by_cases c : (decide (K + L = 0) || decide (K + L > 0)) = true
  · have e : tightS 1 [] [⟨[0], K + L⟩] = (1, [], [], true) := by
      simp only [tightS, rowsS, tS_nought, c]; rfl
    rw [e, if_pos rfl, c]
    dsimp only
    have hz : fm_Drop.f (k + 38) 1 [] [] 1 = some (1, [], [], true) := by
      unfold fm_Drop.f
      rw [if_neg (by omega), decide_eq_true (show (1 : Int) ≥ 1 by omega), show k + 38 = k + 37 + 1 from rfl, fm_Drop.j0, if_pos rfl]
    rw [hz, Option.bind_some, if_pos rfl, show wrap64 (1 + 1) = 2 from by unfold wrap64; omega, show k + 38 = k + 37 + 1 from rfl, fm_Never.l0, if_neg (by omega)]
    rfl
  · have c' : (decide (K + L = 0) || decide (K + L > 0)) = false := by simpa using c
    have e : tightS 1 [] [⟨[0], K + L⟩] = (0, [], [], false) := by
      simp only [tightS, rowsS, tS_nought, c']; rfl
    rw [e, if_neg (by simp), c']
    rfl
theorem never_odd {K : Int} (hK : inC K) (h : Int.tmod K 2 ≠ 0) (k : Nat) (hk : 20000000000 ≤ k) : fm_Never.f k 2 [⟨[2, -4], K⟩] [] = some true := by
  obtain ⟨k, rfl⟩ : ∃ m, k = m + 1 := ⟨k - 1, by omega⟩
  unfold fm_Never.f
  have ok : okF 2 (⟨[2, -4], K⟩ : S45) := ⟨rfl, all_two' (by unfold inC; omega) (by unfold inC; omega), hK⟩
  have t : tS [2, -4] K 0 = ([], 0, false, false) := by
    unfold tS
    rw [show gL 0 [2, -4] = 2 from rfl, if_neg (by omega), if_neg (by omega), if_pos ⟨rfl, by simpa using h⟩]
  have e : tightS 2 [⟨[2, -4], K⟩] [] = (0, [], [], false) := by
    simp only [tightS, rowsS, t]; rfl
  rw [fm_Never.l0, if_pos (by unfold wrap64; omega), Tight_spec (N := 2) 2 _ [] (ok_one ok) ok_nil (by omega) (by simp) (by simp) _ (by omega), Option.bind_some, e, if_neg (by simp)]
theorem DropNone : furrowlaw16_DropNone.Pure := by
  intro a0 a1 w0 w1
  have h0 := i16_of w0
  have h1 := i8_of'' w1
  refine ⟨20000000000, ?_⟩
  unfold furrowlaw16_DropNone.f
  rw [known16_more (by omega), Option.bind_some, if_pos rfl]
  simp only [furrowlaw15_F.f, Option.bind_some]
  rw [w64 (a := a0) (by omega), w64 (a := a1) (by omega), w64 (a := -a0) (by omega), w64 (a := a0 - 1) (by omega), w64 (a := 2 * a1) (by omega), w64 (a := 2 * a1 + 1) (by omega)]
  rw [never_two (by unfold inC; omega) (by unfold inC; omega) (by unfold inC; omega) _ (Nat.le_refl _), Option.bind_some, if_pos (by simp; omega)]
  have hodd : Int.tmod (2 * a1 + 1) 2 ≠ 0 := fun h => by obtain ⟨q, hq⟩ := Int.dvd_of_tmod_eq_zero h; omega
  rw [never_odd (by unfold inC; omega) hodd _ (Nat.le_refl _), Option.bind_some, if_pos rfl]
  rw [never_two (by unfold inC; omega) (by unfold inC; omega) (by unfold inC; omega) _ (Nat.le_refl _), Option.bind_some]
  simp; omega

end Go.Proofs.Ytmglfimdhbooeaa.Pure
