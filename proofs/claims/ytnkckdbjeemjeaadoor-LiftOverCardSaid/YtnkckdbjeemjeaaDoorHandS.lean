/- strconv.FormatInt at base 10, below 100: the shelf's contracts in the form of the printed walks; no conditions. -/
import Derived.Test.YtnkckdbjeemjeaaDoorShelf
import Derived.Test.YtnkckdbjeemjeaaDoorHandE
namespace Go.Proofs.YtnkckdbjeemjeaaDoor.H
open Go.Proofs.YtnkckdbjeemjeaaDoor.Flt Go.RowKit Go.Sort Go.Proofs.YtnkckdbjeemjeaaDoorW.PrintWords
def strconv_FormatInt.f (a0 : Int) (a1 : Int) : Option ByteArray := if a1 = 10 then (if 0 ≤ a0 ∧ a0 < 100 then some ⟨(Lib.decDigits a0.toNat).toArray⟩ else none) else none
theorem strconv_FormatInt.calls (a0 : Int) (a1 : Int) (r : ByteArray) (w : World) (hG : Glob w) (h : strconv_FormatInt.f a0 a1 = some r) :
    Calls Tryd.prog 40 #[.int .i64 a0, .int .i64 a1] w fun e w' => e = .returned (.string r) ∧ Below w.heap.size w w' := by
  unfold strconv_FormatInt.f at h
  by_cases h1 : a1 = 10
  · subst h1
    rw [if_pos rfl] at h
    by_cases h2 : 0 ≤ a0 ∧ a0 < 100
    · rw [if_pos h2] at h
      obtain rfl := Option.some.inj h
      obtain ⟨n, rfl⟩ : ∃ n : Nat, a0 = (n : Int) := ⟨a0.toNat, by omega⟩
      refine (Tryd.strconv_FormatInt_10_small n (by omega) w).mono ?_
      rintro e w' ⟨rfl, rfl⟩
      exact ⟨by rw [Int.toNat_natCast], Below.refl _ _⟩
    · rw [if_neg h2] at h; cases h
  · rw [if_neg h1] at h; cases h
end Go.Proofs.YtnkckdbjeemjeaaDoor.H
