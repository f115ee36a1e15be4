/- The statement, of the pure functions; no conditions. -/
import Derived.Test.YtkkpgjkjkcmcbaaDoorPureAny2
import Derived.Test.YtkkpgjkjkcmcbaaDoorPureAny3
import Derived.Test.YtkkpgjkjkcmcbaaDoorPureAny4
import Derived.Test.YtkkpgjkjkcmcbaaDoorXx22
import Derived.Test.YtkkpgjkjkcmcbaaDoorXx23
import Derived.Laws.Bits64
namespace Go.Proofs.YtkkpgjkjkcmcbaaDoor.Pure
open Go.RowKit Go.Proofs.YtkkpgjkjkcmcbaaDoor.X Go.Proofs.YtkkpgjkjkcmcbaaDoor.Flt Go.Proofs.YtkkpgjkjkcmcbaaDoor.H Go.Proofs.YtkkpgjkjkcmcbaaDoorW.PrintWords Go.Proofs.YtkkpgjkjkcmcbaaDoorW.PrintLast Go.Proofs.YtkkpgjkjkcmcbaaDoorW.PrintMore
set_option linter.unusedVariables false
set_option linter.unusedSimpArgs false
/-! the statement -/
theorem known15_yes : furrowlaw15_known.f 100 = some true := by decide +kernel
theorem known15_more {k : Nat} (h : 100 ≤ k) : furrowlaw15_known.f k = some true := by
  obtain ⟨d, rfl⟩ : ∃ d, k = 100 + d := ⟨k - 100, by omega⟩
  clear h
  induction d with
  | zero => exact known15_yes
  | succ d ih => exact furrowlaw15_known.mono (100 + d) _ ih
theorem law_l1 (n : Int) (eq ge : List S59) (x : List Int) (hn : 0 ≤ n ∧ n ≤ 16) (he : ∀ f ∈ eq, okF n.toNat f) (hg : ∀ f ∈ ge, okF n.toNat f) (le : eq.length ≤ 70) (lg : ge.length ≤ 70) (hx : n ≤ x.length) : ∀ (d i k : Nat) (y : List Int), i + d = n.toNat → 500 + d < k → y.length = i → (∀ v ∈ y, inP v) →
    furrowlaw15_SysAny.l1 k x y (i : Int) n eq ge = some true := by
  intro d
  induction d with
  | zero =>
    intro i k y hi hk hy hp
    obtain ⟨k, rfl⟩ : ∃ m, k = m + 1 := ⟨k - 1, by omega⟩
    simp only [furrowlaw15_SysAny.l1]
    rw [if_neg (by omega), Holds_spec n eq ge y he hg (by omega) (by omega) hp le lg k (by omega), Of_spec n eq ge le lg k (by omega)]
    simp only [Option.bind_some]
    rw [rHolds_spec n eq ge y he hg (by omega) (by omega) hp le lg k (by omega)]
    simp
  | succ d ih =>
    intro i k y hi hk hy hp
    obtain ⟨k, rfl⟩ : ∃ m, k = m + 1 := ⟨k - 1, by omega⟩
    have hlt : i < x.length := by omega
    have h1 : Int.tmod x[i] 268435456 < 268435456 := Int.tmod_lt_of_pos _ (by omega)
    have h2 : -268435456 < Int.tmod x[i] 268435456 := by
      have := Int.tmod_lt_of_pos (-x[i]) (b := 268435456) (by omega)
      rw [Int.neg_tmod] at this
      omega
    simp only [furrowlaw15_SysAny.l1]
    rw [if_pos (by omega), if_pos (by omega), if_pos (by omega), if_pos (by omega), rd_at x i hlt, w64 (a := Int.tmod _ _) (by omega), w_succ (n := 100) (by omega) (by omega)]
    refine ih (i + 1) k _ (by omega) (by omega) (by simp; omega) (fun v hv => ?_)
    rcases List.mem_append.1 hv with hv | hv
    · exact hp v hv
    · have : v = Int.tmod x[i] 268435456 := by simpa using hv
      rw [this]; unfold inP; omega
theorem law_l0 (n : Int) (eq ge : List S59) (x lo hi : List Int) (hn : 0 ≤ n ∧ n ≤ 16) (he : ∀ f ∈ eq, okF n.toNat f) (hg : ∀ f ∈ ge, okF n.toNat f) (le : eq.length ≤ 70) (lg : ge.length ≤ 70) (hl : hi.length = lo.length) (h16 : lo.length ≤ 16) : ∀ (d i k : Nat), i + d = lo.length → 600 + d < k →
    furrowlaw15_SysAny.l0 k x lo hi lo hi (i : Int) n eq ge = some true := by
  intro d
  induction d with
  | zero =>
    intro i k hi' hk
    obtain ⟨k, rfl⟩ : ∃ m, k = m + 1 := ⟨k - 1, by omega⟩
    simp only [furrowlaw15_SysAny.l0]
    rw [if_neg (by omega)]
    by_cases h : (x.length : Int) < n
    · rw [if_pos h]
    · rw [if_neg h]
      exact law_l1 n eq ge x hn he hg le lg (by omega) n.toNat 0 k [] (by omega) (by omega) rfl (by simp)
  | succ d ih =>
    intro i k hi' hk
    obtain ⟨k, rfl⟩ : ∃ m, k = m + 1 := ⟨k - 1, by omega⟩
    simp only [furrowlaw15_SysAny.l0]
    rw [if_pos (by omega), if_pos (by omega), if_pos (by omega), if_pos True.intro, if_pos (by omega), if_pos (by omega), if_pos True.intro, w_succ (n := lo.length) (by omega) (by omega)]
    exact ih (i + 1) k (by omega) (by omega)
theorem fin_len (l : List S92) : (fin l).2.1.length = (fin l).1.length ∧ (fin l).1.length ≤ l.length := by
  unfold fin
  split <;> simp
theorem foldl_len (e : Bool) : ∀ (fs : List S59) (l : List S92), (fs.foldl (stF e) l).length = l.length := by
  intro fs
  induction fs with
  | nil => intro l; rfl
  | cons f fs ih => intro l; rw [List.foldl_cons, ih, stF_len]
theorem bndS_len (n : Nat) (eq ge : List S59) : (bndS n eq ge).2.1.length = (bndS n eq ge).1.length ∧ (bndS n eq ge).1.length ≤ n := by
  unfold bndS
  have := fin_len (ge.foldl (stF false) (eq.foldl (stF true) (List.replicate n z92)))
  rw [foldl_len, foldl_len, List.length_replicate] at this
  exact this
theorem sysany_true (n : Int) (eq ge : List S59) (x : List Int) : furrowlaw15_SysAny.f 20000000000 n eq ge x = some true := by
  unfold furrowlaw15_SysAny.f
  obtain ⟨K, hK⟩ : ∃ K : Nat, K = 20000000000 := ⟨_, rfl⟩
  rw [← hK]
  obtain ⟨k, rfl⟩ : ∃ m, K = m + 1 := ⟨K - 1, by omega⟩
  rw [known15_more (by omega)]
  simp only [Option.bind_some, if_true]
  have hskip : furrowlaw15_SysAny.j0 (k + 1) x true n eq ge = some true := by simp only [furrowlaw15_SysAny.j0]; simp
  obtain ⟨b, hb, hf⟩ := Few_spec n eq ge (k + 1) (by omega)
  rw [hb]
  simp only [Option.bind_some]
  cases b with
  | false => rw [if_neg (by simp)]; exact hskip
  | true =>
    obtain ⟨le, lg⟩ := hf rfl
    rw [if_pos rfl]
    by_cases hx : (x.length : Int) > 20
    · rw [decide_eq_true hx]; exact hskip
    · rw [decide_eq_false hx]
      simp only [furrowlaw15_SysAny.j0]
      rw [if_neg (by simp), Of_spec n eq ge le lg k (by omega)]
      simp only [Option.bind_some]
      rw [rcheck n eq ge le lg k (by omega), scheck n eq ge le lg k (by omega)]
      simp only [Option.bind_some]
      rw [tells _ chkS_ne]
      simp only [Option.bind_some, if_true]
      cases hc : chkS n eq ge with
      | some p => exact if_neg (show ¬ (refE (some p)).2 = 0 from chkS_ne p hc)
      | none =>
        obtain ⟨hn, he, hg⟩ := chkS_ok hc
        have hl := tightS_len (n := n) he hg
        have hbl := bndS_len n.toNat eq ge
        refine (if_pos (show (refE none).2 = 0 from rfl)).trans ?_
        rw [Tight_spec n eq ge he hg (by omega) le lg k (by omega)]
        simp only [Option.bind_some]
        rw [rtight n eq ge he hg (by omega) le lg (by omega)]
        simp only [Option.bind_some]
        rw [sbounds hn eq ge he hg le lg k (by omega)]
        simp only [Option.bind_some]
        rw [rbounds hn eq ge he hg le lg k (by omega)]
        simp only [Option.bind_some, bne_self_eq_false, Bool.false_eq_true, if_false]
        rw [Of_spec _ _ _ (by omega) (by omega) k (by omega)]
        simp only [Option.bind_some]
        rw [same_refl _ _ _ (by simp; omega) (by simp; omega) ?cA ?cB (by omega)]
        · simp only [Option.bind_some, if_true]
          obtain ⟨k, rfl⟩ : ∃ m, k = m + 1 := ⟨k - 1, by omega⟩
          simp only [furrowlaw15_SysAny.j1, Bool.false_eq_true, if_false]
          exact law_l0 n eq ge x _ _ hn he hg le lg hbl.1 (by omega) _ 0 k (Nat.zero_add _) (by omega)
        case cA => exact (tightS_small he hg (by omega)).1
        case cB => exact (tightS_small he hg (by omega)).2

end Go.Proofs.YtkkpgjkjkcmcbaaDoor.Pure
