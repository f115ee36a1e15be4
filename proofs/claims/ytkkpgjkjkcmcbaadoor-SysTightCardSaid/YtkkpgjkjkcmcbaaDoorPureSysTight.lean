/- SysTight over numbers and lists. -/
import Derived.Test.YtkkpgjkjkcmcbaaDoorPureSys4
import Derived.Test.YtkkpgjkjkcmcbaaDoorPureSys5
import Derived.Test.YtkkpgjkjkcmcbaaDoorPureKnown
import Derived.Test.YtkkpgjkjkcmcbaaDoorXx21
import Derived.Laws.Bits64
namespace Go.Proofs.YtkkpgjkjkcmcbaaDoor.Pure
open Go.RowKit Go.Proofs.YtkkpgjkjkcmcbaaDoor.X Go.Proofs.YtkkpgjkjkcmcbaaDoor.Flt Go.Proofs.YtkkpgjkjkcmcbaaDoor.H Go.Proofs.YtkkpgjkjkcmcbaaDoorW.PrintWords Go.Proofs.YtkkpgjkjkcmcbaaDoorW.PrintLast Go.Proofs.YtkkpgjkjkcmcbaaDoorW.PrintMore
set_option linter.unusedVariables false
set_option linter.unusedSimpArgs false
theorem tightS_holds {eq ge : List S59} (n : Int) (p : List Int) : holdsAll eq ge p = ((tightS n eq ge).2.2.2 && holdsAll (tightS n eq ge).2.1 (tightS n eq ge).2.2.1 p) := by
  have h1 := rowsS_holds (kind := 0) (.inl rfl) p eq
  have h2 := rowsS_holds (kind := 1) (.inr rfl) p ge
  rw [Bool.eq_iff_iff, Bool.and_eq_true, holdsAll_iff, holdsAll_iff, h1, h2]
  unfold tightS
  cases hr : rowsS 0 eq with
  | none => simp
  | some a =>
    cases hs : rowsS 1 ge with
    | none => simp
    | some b => simp
theorem tightS_ok {n : Int} {N : Nat} {eq ge : List S59} (he : ∀ f ∈ eq, okF N f) (hg : ∀ f ∈ ge, okF N f) (h : (tightS n eq ge).2.2.2 = true) : (tightS n eq ge).1 = n ∧ ((∀ f ∈ (tightS n eq ge).2.1, okF N f) ∧ (tightS n eq ge).2.1.length ≤ eq.length) ∧ (∀ f ∈ (tightS n eq ge).2.2.1, okF N f) ∧ (tightS n eq ge).2.2.1.length ≤ ge.length := by
  unfold tightS at h ⊢
  cases hr : rowsS 0 eq with
  | none => rw [hr] at h; simp at h
  | some a =>
    cases hs : rowsS 1 ge with
    | none => rw [hr, hs] at h; simp at h
    | some b => exact ⟨rfl, rowsS_ok eq a he hr, rowsS_ok ge b hg hs⟩
theorem i8_of {a : Int} (h : (Lit.int .i8 a).wf = true) : -128 ≤ a ∧ a ≤ 127 := by
  simp only [Lit.wf, IntKind.min, IntKind.max, IntKind.signed, IntKind.bits, Bool.and_eq_true, decide_eq_true_eq, if_true] at h
  omega
theorem systight_true (n : Int) (eq ge : List S59) (x y : Int) (hx : -128 ≤ x ∧ x ≤ 127) (hy : -128 ≤ y ∧ y ≤ 127) : furrowlaw15_SysTight.f 20000000000 n eq ge x y = some true := by
  unfold furrowlaw15_SysTight.f
  rw [known15_more (by omega), Option.bind_some, if_pos rfl]
  obtain ⟨b, h1, h2⟩ := Good_spec n eq ge 20000000000 (by omega)
  rw [h1, Option.bind_some]
  have hskip : furrowlaw15_SysTight.j0 20000000000 x y true n eq ge = some true := by
    obtain ⟨k, hk⟩ : ∃ k, 20000000000 = k + 1 := ⟨19999999999, rfl⟩
    rw [hk]
    simp only [furrowlaw15_SysTight.j0]
    rw [if_pos trivial]
  cases b with
  | false => rw [if_neg (by simp)]; exact hskip
  | true =>
    rw [if_pos rfl]
    by_cases hn : n = 2
    · subst hn
      obtain ⟨le, lg, hN, he, hg⟩ := h2 rfl
      obtain ⟨k, hk⟩ : ∃ k, 20000000000 = k + 1 := ⟨19999999999, rfl⟩
      have hk2 : 17179869300 ≤ k := by omega
      rw [hk]
      clear hskip hk h1
      have hp : [x, y].length = (2 : Int).toNat := rfl
      have hp2 : ∀ z ∈ [x, y], inP z := by
        intro z hz
        unfold inP
        rcases List.mem_cons.1 hz with rfl | hz
        · omega
        · have : z = y := by simpa using hz
          subst this; omega
      simp only [furrowlaw15_SysTight.j0]
      rw [if_neg (by simp), w64 (a := x) (by omega), w64 (a := y) (by omega), Option.bind_some, Tight_spec 2 eq ge he hg (by decide) le lg k hk2, Option.bind_some, Holds_spec 2 eq ge [x, y] he hg (by decide) hp hp2 le lg k (by omega)]
      have hT := tightS_holds (eq := eq) (ge := ge) 2 [x, y]
      by_cases ht : (tightS 2 eq ge).2.2.2 = true
      · obtain ⟨t1, ⟨t2, t3⟩, t4, t5⟩ := tightS_ok he hg ht
        rw [if_pos ht, Option.bind_some, t1, Of_spec 2 _ _ (by omega) (by omega) k (by omega), Option.bind_some]
        simp only []
        rw [rHolds_spec 2 _ _ [x, y] t2 t4 (by decide) hp hp2 (by omega) (by omega) k (by omega), Option.bind_some]
        rw [ht, Bool.true_and] at hT
        rw [← hT, if_neg (by simp)]
        obtain ⟨lo, hi, is, e1, e2⟩ := Bounds_spec (holdsAll eq ge [x, y] = true) 2 [x, y] hN hp eq ge he hg le lg (fun h => by
          have := holdsAll_iff.1 h
          unfold holdsF at this
          simpa using this) k (by omega)
        rw [e1, Option.bind_some]
        cases is with
        | false => rw [if_neg (by simp)]
        | true =>
          obtain ⟨l1, l2, l3⟩ := e2 rfl
          have l1 : lo.length = 2 := l1
          have l2 : hi.length = 2 := l2
          simp only [if_true]
          rw [Of_spec 2 eq ge le lg k (by omega), Option.bind_some]
          simp only []
          rw [rHolds_spec 2 eq ge [x, y] he hg (by decide) hp hp2 le lg k (by omega), Option.bind_some]
          by_cases hh : holdsAll eq ge [x, y] = true
          · rw [hh]
            have a0 := l3 hh 0 (by decide)
            have a1 := l3 hh 1 (by decide)
            match lo, l1, hi, l2 with
            | [u, v], _, [s, t], _ =>
              have b0 : u ≤ x ∧ x ≤ s := a0
              have b1 : v ≤ y ∧ y ≤ t := a1
              have r0 : ∀ a b : Int, rd [a, b] 0 = a := fun _ _ => rfl
              have r1 : ∀ a b : Int, rd [a, b] 1 = b := fun _ _ => rfl
              simp only [if_true, List.length_cons, List.length_nil, r0, r1]
              rw [if_pos (by decide), if_pos (by decide), if_pos (by decide), if_pos (by decide), if_pos (by omega), if_pos (by decide), if_pos (by omega), if_pos (by decide), if_pos (by decide), if_pos (by omega), if_pos (by decide), decide_eq_true (by omega)]
          · rw [if_neg hh]
      · rw [if_neg ht, Option.bind_some]
        have hf : (tightS 2 eq ge).2.2.2 = false := by simpa using ht
        rw [hf, Bool.false_and] at hT
        rw [hT]
        rfl
    · rw [bne_iff_ne.mpr hn]; exact hskip

end Go.Proofs.YtkkpgjkjkcmcbaaDoor.Pure
