/- strconv.FormatInt at base 10: the shelf's contracts in the form of the printed walks; no conditions but what is known of the table. -/
import Derived.Test.YtnkckdbjeemjeaaGreatDoorShelf
import Derived.Test.YtnkckdbjeemjeaaGreatDoorHandE
namespace Go.Proofs.YtnkckdbjeemjeaaGreatDoor.H
open Go.Proofs.YtnkckdbjeemjeaaGreatDoor.Flt Go.RowKit Go.Sort Go.Proofs.YtnkckdbjeemjeaaGreatDoorW.PrintWords
theorem below_grow {w : World} (k : Nat) (os : Array Obj) : Below w.heap.size w (grow (w.drewN k) os) :=
  ⟨rfl, rfl, rfl, by show w.heap.size ≤ (w.heap ++ os).size; simp, fun i hi => by show (w.heap ++ os)[i]? = w.heap[i]?; exact Array.getElem?_append_left hi⟩
def strconv_FormatInt.f (a0 : Int) (a1 : Int) : Option ByteArray := if a1 = 10 then (if -9223372036854775808 ≤ a0 ∧ a0 ≤ 9223372036854775807 then some ⟨(Lib.itoa a0).toArray⟩ else none) else none
theorem strconv_FormatInt.calls (a0 : Int) (a1 : Int) (r : ByteArray) (w : World) (hG : Glob w) (h : strconv_FormatInt.f a0 a1 = some r) :
    Calls Tryz.prog 66 #[.int .i64 a0, .int .i64 a1] w fun e w' => e = .returned (.string r) ∧ Below w.heap.size w w' := by
  unfold strconv_FormatInt.f at h
  by_cases h1 : a1 = 10
  · subst h1
    rw [if_pos rfl] at h
    by_cases h2 : -9223372036854775808 ≤ a0 ∧ a0 ≤ 9223372036854775807
    · rw [if_pos h2] at h
      obtain rfl := Option.some.inj h
      refine (Tryz.strconv_FormatInt_10 a0 h2.1 h2.2 w hG.tab).mono ?_
      rintro e w' ⟨rfl, k, os, rfl⟩
      exact ⟨rfl, below_grow k os⟩
    · rw [if_neg h2] at h; cases h
  · rw [if_neg h1] at h; cases h
end Go.Proofs.YtnkckdbjeemjeaaGreatDoor.H
