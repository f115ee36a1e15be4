/- FormAt over numbers and lists alone. -/
import Derived.Test.YtmnifoeodohphaaDoorPureKnown
import Derived.Test.YtmnifoeodohphaaDoorPureRef
import Derived.Test.YtmnifoeodohphaaDoorXx15
import Derived.Laws.Bits64
namespace Go.Proofs.YtmnifoeodohphaaDoor.Pure
open Go.RowKit Go.Proofs.YtmnifoeodohphaaDoor.X Go.Proofs.YtmnifoeodohphaaDoor.Flt Go.Proofs.YtmnifoeodohphaaDoor.H Go.Proofs.YtmnifoeodohphaaDoorW.PrintWords Go.Proofs.YtmnifoeodohphaaDoorW.PrintLast Go.Proofs.YtmnifoeodohphaaDoorW.PrintMore
set_option linter.unusedVariables false
set_option linter.unusedSimpArgs false
theorem i64s {l : List Int} (h : ∀ x ∈ l, (Lit.int .i64 x).wf = true) : ∀ z ∈ l, inR z := fun z hz => by have := i64_of (h z hz); unfold inR; exact this
theorem at_pair {l x : List Int} {K : Int} {k : Nat} (hl : ∀ z ∈ l, inR z) (hx : ∀ z ∈ x, inR z) (hK : inR K) (hlen : l.length ≤ 20) (hk : 30 ≤ k) :
    ∃ v e r, lin_At.f k l K x = some (v, e) ∧ furrowref14_At.f k l K x = some (v, r) ∧ furrowlaw2_Tells.f e r.1 r.2 = some true := by
  by_cases c : l.length = x.length
  · exact ⟨_, _, _, at_spec c hl hx hK (by omega) (by omega), rat_spec c hl hx hK (by omega) (by omega), tells_at _ _ _ _⟩
  · exact ⟨_, _, _, at_no c, rat_no c, tells_flt 1 (.inl rfl)⟩
theorem range_pair {l x y : List Int} {K : Int} {k : Nat} (hl : ∀ z ∈ l, inR z) (hx : ∀ z ∈ x, inR z) (hy : ∀ z ∈ y, inR z) (hK : inR K) (hlen : l.length ≤ 20) (hk : 70 ≤ k) :
    ∃ v u e r, lin_Range.f k l K x y = some (v, u, e) ∧ furrowref14_Range.f k l K x y = some (v, u, r) ∧ furrowlaw2_Tells.f e r.1 r.2 = some true := by
  by_cases c : l.length = x.length ∧ l.length = y.length
  · have a := range_spec (k := k) c.1 c.2 hl hx hy hK (by omega) (by omega)
    have b := rrange_spec (k := k) c.1 c.2 hl hx hy hK (by omega) (by omega)
    cases hb : badS x y with
    | true => rw [hb] at a b; exact ⟨_, _, _, _, a, b, tells_flt 1 (.inl rfl)⟩
    | false => rw [hb] at a b; exact ⟨_, _, _, _, a, b, tells_end _ _ _ _⟩
  · exact ⟨_, _, _, _, range_no c (by omega), rrange_no c (by omega), tells_flt 1 (.inl rfl)⟩
/-- FormAt, over lists. -/
theorem format_true {l x y : List Int} {K : Int} (hl : ∀ z ∈ l, inR z) (hx : ∀ z ∈ x, inR z) (hy : ∀ z ∈ y, inR z) (hK : inR K) : furrowlaw11_FormAt.f 100 l K x y = some true := by
  have j : ∀ b : Bool, (b = false → l.length ≤ 20) → furrowlaw11_FormAt.j0 100 x y b l K = some true := by
    intro b hb
    rw [furrowlaw11_FormAt.j0]
    cases b with
    | true => rw [if_pos rfl]
    | false =>
      have h := hb rfl
      obtain ⟨v, e, r, e1, e2, e3⟩ := at_pair (k := 99) hl hx hK h (by omega)
      obtain ⟨v', u', e', r', f1, f2, f3⟩ := range_pair (k := 99) hl hx hy hK h (by omega)
      rw [if_neg (by simp), e1]
      simp only [Option.bind_some, furrowlaw11_Of.f]
      rw [e2]
      simp only [Option.bind_some]
      rw [f1]
      simp only [Option.bind_some]
      rw [f2]
      simp only [Option.bind_some, if_true]
      rw [e3]
      simp only [Option.bind_some, if_true]
      rw [f3]
      simp
  unfold furrowlaw11_FormAt.f
  rw [known_more (by omega)]
  simp only [Option.bind_some, if_true, furrowlaw11_few.f]
  by_cases c : (l.length : Int) ≤ 20
  · rw [decide_eq_true c, if_pos rfl]
    split
    · exact j true (by simp)
    · exact j _ (fun _ => by omega)
  · rw [decide_eq_false c, if_neg (by simp)]
    exact j true (by simp)

end Go.Proofs.YtmnifoeodohphaaDoor.Pure
