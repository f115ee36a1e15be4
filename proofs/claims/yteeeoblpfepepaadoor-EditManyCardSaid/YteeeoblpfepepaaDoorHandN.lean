/- slices.Clone at []string: the shelf's contract in the form of the printed walks; no conditions. -/
import Derived.Test.YteeeoblpfepepaaDoorShelf
import Derived.Test.YteeeoblpfepepaaDoorFlt
namespace Go.Proofs.YteeeoblpfepepaaDoor.H
open Go.Proofs.YteeeoblpfepepaaDoor.Flt Go.RowKit Go.Proofs.YteeeoblpfepepaaDoorW.PrintWords
def slices_Clone_string_string.f (l : List ByteArray) : Option (List ByteArray) := if l.length * 16 ≤ 140737488355328 then some l else none
theorem slices_Clone_string_string.calls (A : Option Addr) (c : Nat) (l : List ByteArray) (r : List ByteArray) (w : World) (hr : Kd.C Kd.string w A l.length l) (hc : l.length ≤ c) (h : slices_Clone_string_string.f l = some r) :
    Calls Tryd.prog 26 #[.slice A l.length c] w fun e w' => ∃ v_ : Value, e = .returned v_ ∧ Kd.R Kd.string 9 w' w.heap.size (fun _ => True) v_ r ∧ Below w.heap.size w w' := by
  unfold slices_Clone_string_string.f at h
  by_cases hb : l.length * 16 ≤ 140737488355328
  · rw [if_pos hb] at h
    obtain rfl := Option.some.inj h
    cases A with
    | none =>
      have hl : l = [] := by
        by_cases z : 0 < l.length
        · obtain ⟨ad, e, _⟩ := Kd.at_string hr 0 (by omega) (by omega)
          cases e
        · exact List.length_eq_zero_iff.1 (by omega)
      subst hl
      refine (Tryd.slices_Clone_string_nil _ c w).mono ?_
      rintro e w' ⟨rfl, rfl⟩
      exact ⟨_, rfl, Kd.R_nil _ _ _ _ _, Below.refl _ _⟩
    | some ad =>
      by_cases z : 0 < l.length
      · have h0 : ∀ j, j < l.length → w.cell? (ad.add j) = some (.string (l.getD j ByteArray.empty)) := fun j hj => by
          obtain ⟨ad', e, hx⟩ := Kd.at_string hr (j : Int) (by omega) (by omega)
          obtain rfl := Option.some.inj e
          simpa [rdOf] using hx
        have hs : ad.spot = none := World.cell?_spot (by have := h0 0 z; rw [Addr.add_zero'] at this; exact this)
        obtain ⟨b, off, spot⟩ := ad
        simp only at hs
        subst hs
        have h1 : ∀ j, j < l.length → w.cell? ⟨b, off + j, none⟩ = some (.string (l.getD j ByteArray.empty)) := fun j hj => by
          rw [← h0 j hj]
          congr 1
          unfold Addr.add
          split
          · rename_i hz; subst hz; rfl
          · rfl
        refine (Tryd.slices_Clone_string b off l.length c l w (Nat.le_refl _) hb h1).mono ?_
        rintro e w' ⟨v', rfl, ho, _, hbel⟩
        rw [List.take_length] at ho
        exact ⟨v', rfl, ⟨fun _ _ => trivial, _, ho, by simp [show Kd.string.sz = 1 from rfl], fun j p hj => by
          refine Eq.trans ?_ (show [Value.string p] = [Value.string p] from rfl)
          simp only [show Kd.string.sz = 1 from rfl, Nat.mul_one]
          have hj' : j < l.length := by
            by_cases y : j < l.length
            · exact y
            · rw [List.getElem?_eq_none (by omega)] at hj; cases hj
          rw [List.getElem?_eq_getElem hj'] at hj
          obtain rfl := Option.some.inj hj
          rw [List.drop_eq_getElem_cons (by simpa using hj')]
          simp⟩, hbel⟩
      · have hl : l = [] := List.length_eq_zero_iff.1 (by omega)
        subst hl
        refine (Tryd.slices_Clone_string_zero ad c w).mono ?_
        rintro e w' ⟨v', rfl, ho, _, hbel⟩
        exact ⟨v', rfl, ⟨fun _ _ => trivial, [], ho, rfl, fun j p hj => by simp at hj⟩, hbel⟩
  · rw [if_neg hb] at h; cases h
end Go.Proofs.YteeeoblpfepepaaDoor.H
