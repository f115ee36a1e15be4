/- What came in as data, read as the walks want it: for values of whatever kind; no conditions. -/
import Derived.Test.YtnkckdbjeemjeaaGreatDoorFlt
import Derived.ChangeArms
import Derived.DataReads
import Derived.ProofKit
import Derived.Carry
import Derived.SizedLaws
namespace Go.Proofs.YtnkckdbjeemjeaaGreatDoor.H
open Go.ChangeShapes Go.WideShapes Go.RowKit Go.Proofs.YtnkckdbjeemjeaaGreatDoorW.PrintWords
def Light {H : Type} (P : Program) (t : TypeId) (d : DataW H) : Prop := ∀ n ∈ d.weights P t, n ≤ 140737488351232
def Opens {α : Type} (P : Program) (t : TypeId) (d : Kd α) (good : α → Prop) : Prop :=
  ∀ {H : Type} (enc : TypeId × Value → H) (W : World) (spare : Nat → Bool) (held : Bool) (fuel : Nat) (cs : List Value) (x : DataW H × List MemPlace),
    DataW.trod enc P W 0 spare held fuel t cs = some x → Light P t x.1 → ∃ a : α, d.K W a cs ∧ good a
section
variable {P : Program} {t e : TypeId}
theorem opens_int {k : IntKind} (ht : P.underlying t = some (.int k)) : Opens P t (Kd.int k) (fun a => (Lit.int k a).wf = true) := by
  intro H enc W spare held fuel cs x hx hw_
  obtain ⟨n, rfl, _, hw⟩ := DataW.trod_int ht hx
  exact ⟨n, rfl, hw⟩
theorem opens_string (ht : P.underlying t = some .string) : Opens P t Kd.string (fun s => s.size ≤ 140737488351232) := by
  intro H enc W spare held fuel cs x hx hw_
  obtain ⟨s, rfl, rfl, hw⟩ := DataW.trod_string ht hx
  exact ⟨s, rfl, by simpa [DataW.weights] using hw_ s.data.toList.length (by simp [DataW.weights])⟩
theorem list_of {α : Type} {Q : Nat → α → Prop} : ∀ n : Nat, (∀ i, i < n → ∃ p, Q i p) → ∃ l : List α, l.length = n ∧ ∀ j p, l[j]? = some p → Q j p
  | 0, _ => ⟨[], rfl, fun j p h => by simp at h⟩
  | n + 1, h => by
    obtain ⟨l, hl, hq⟩ := list_of n (fun i hi => h i (by omega))
    obtain ⟨p, hp⟩ := h n (by omega)
    refine ⟨l ++ [p], by simp [hl], fun j q hj => ?_⟩
    by_cases c : j < n
    · rw [List.getElem?_append_left (by omega)] at hj; exact hq j q hj
    · rw [List.getElem?_append_right (by omega)] at hj
      have e : j - l.length = 0 := by
        by_cases z : j - l.length = 0
        · exact z
        · rw [List.getElem?_eq_none (by simp; omega)] at hj; cases hj
      rw [e] at hj
      obtain rfl := Option.some.inj hj
      obtain rfl : j = n := by omega
      exact hp
theorem add_twice (a : Addr) (m j : Nat) : a.add (m + j) = (a.add m).add j := by
  by_cases hm : m = 0 <;> by_cases hj : j = 0 <;> simp [Addr.add, hm, hj, Nat.add_assoc]
theorem mem_weightsAll {H : Type} (P : Program) (e : TypeId) : ∀ (l : List (DataW H)) (d : DataW H) (n : Nat), d ∈ l → n ∈ d.weights P e → n ∈ DataW.weightsAll P e l
  | [], _, _, h, _ => by simp at h
  | x :: l, d, n, h, hn => by
    simp only [DataW.weightsAll, List.mem_append]
    rcases List.mem_cons.1 h with rfl | h
    · exact .inl hn
    · exact .inr (mem_weightsAll P e l d n h hn)
def OpensF {α : Type} (P : Program) (T off : Nat) (fs : List Field) (d : Kd α) (good : α → Prop) : Prop :=
  ∀ {H : Type} (enc : TypeId × Value → H) (W : World) (spare : Nat → Bool) (held : Bool) (fuel : Nat) (cs : List Value), cs.length = T →
    (∀ f ∈ fs, ∃ y, DataW.trod enc P W 0 spare held fuel f.type ((cs.drop f.offset).take (P.cellsOf f.type)) = some y ∧ Light P f.type y.1) → ∃ a : α, d.K W a (cs.drop off) ∧ good a
theorem Opens.good {α : Type} {d : Kd α} {g g' : α → Prop} (h : Opens P t d g) (hg : ∀ a, g a → g' a) : Opens P t d g' := by
  intro H enc W spare held fuel cs x hx hw_
  obtain ⟨a, ha, ga⟩ := h enc W spare held fuel cs x hx hw_
  exact ⟨a, ha, hg a ga⟩
end
end Go.Proofs.YtnkckdbjeemjeaaGreatDoor.H
