/- What came in as data, read as the walks want it: for values of whatever kind; no conditions. -/
import Derived.Test.YtnkckdbjeemjeaaGreatDoorFlt
import Derived.ChangeArms
import Derived.DataReads
import Derived.ProofKit
import Derived.Carry
import Derived.SizedLaws
namespace Go.Proofs.YtnkckdbjeemjeaaGreatDoor.H
open Go.ChangeShapes Go.WideShapes Go.RowKit Go.Proofs.YtnkckdbjeemjeaaGreatDoorW.PrintWords
/-- Each part of a datum is within the reach. -/
def Light {H : Type} (P : Program) (t : TypeId) (d : DataW H) : Prop := ∀ n ∈ d.weights P t, n ≤ 140737488351232
/-- A type's data within the reach read as values of a kind that are good. -/
def Opens {α : Type} (P : Program) (t : TypeId) (d : Kd α) (good : α → Prop) : Prop :=
  ∀ {H : Type} (enc : TypeId × Value → H) (W : World) (spare : Nat → Bool) (held : Bool) (fuel : Nat) (cs : List Value) (x : DataW H × List MemPlace),
    DataW.trod enc P W 0 spare held fuel t cs = some x → Light P t x.1 → ∃ a : α, d.K W a cs ∧ good a
section
variable {P : Program} {t e : TypeId}
theorem opens_int {k : IntKind} (ht : P.underlying t = some (.int k)) : Opens P t (Kd.int k) (fun a => (Lit.int k a).wf = true) := by
  intro H enc W spare held fuel cs x hx hw_
  obtain ⟨n, rfl, _, hw⟩ := DataW.trod_int ht hx
  exact ⟨n, rfl, hw⟩
theorem opens_string (ht : P.underlying t = some .string) : Opens P t Kd.string (fun s => s.size ≤ 140737488351232) := by
  intro H enc W spare held fuel cs x hx hw_
  obtain ⟨s, rfl, rfl, hw⟩ := DataW.trod_string ht hx
  exact ⟨s, rfl, by simpa [DataW.weights] using hw_ s.data.toList.length (by simp [DataW.weights])⟩
theorem opens_bool (ht : P.underlying t = some .bool) : Opens P t Kd.bool (fun _ => True) := by
  intro H enc W spare held fuel cs x hx hw_
  obtain ⟨b, rfl, _⟩ := DataW.trod_bool ht hx
  exact ⟨b, rfl, trivial⟩
theorem list_of {α : Type} {Q : Nat → α → Prop} : ∀ n : Nat, (∀ i, i < n → ∃ p, Q i p) → ∃ l : List α, l.length = n ∧ ∀ j p, l[j]? = some p → Q j p
  | 0, _ => ⟨[], rfl, fun j p h => by simp at h⟩
  | n + 1, h => by
    obtain ⟨l, hl, hq⟩ := list_of n (fun i hi => h i (by omega))
    obtain ⟨p, hp⟩ := h n (by omega)
    refine ⟨l ++ [p], by simp [hl], fun j q hj => ?_⟩
    by_cases c : j < n
    · rw [List.getElem?_append_left (by omega)] at hj; exact hq j q hj
    · rw [List.getElem?_append_right (by omega)] at hj
      have e : j - l.length = 0 := by
        by_cases z : j - l.length = 0
        · exact z
        · rw [List.getElem?_eq_none (by simp; omega)] at hj; cases hj
      rw [e] at hj
      obtain rfl := Option.some.inj hj
      obtain rfl : j = n := by omega
      exact hp
theorem add_twice (a : Addr) (m j : Nat) : a.add (m + j) = (a.add m).add j := by
  by_cases hm : m = 0 <;> by_cases hj : j = 0 <;> simp [Addr.add, hm, hj, Nat.add_assoc]
theorem mem_weightsAll {H : Type} (P : Program) (e : TypeId) : ∀ (l : List (DataW H)) (d : DataW H) (n : Nat), d ∈ l → n ∈ d.weights P e → n ∈ DataW.weightsAll P e l
  | [], _, _, h, _ => by simp at h
  | x :: l, d, n, h, hn => by
    simp only [DataW.weightsAll, List.mem_append]
    rcases List.mem_cons.1 h with rfl | h
    · exact .inl hn
    · exact .inr (mem_weightsAll P e l d n h hn)
theorem opens_slice {α : Type} {d : Kd α} {good : α → Prop} (B : Nat) (ht : P.underlying t = some (.slice e)) (hc : P.cellsOf e = d.sz) (hB : P.bytesOf e = B) (ho : Opens P e d good) : Opens P t (Kd.slice e d) (fun l => (l.length ≤ maxLen ∧ l.length * B ≤ 140737488351232) ∧ ∀ x ∈ l, good x) := by
  intro H enc W spare held fuel cs x hx hw_
  rcases DataW.trod_slice ht hx with ⟨rfl, _⟩ | ⟨a, len, cap, elems, rest, n, _, rfl, rfl, _, hl, hm, hlen, hel, _⟩
  · exact ⟨[], ⟨none, 0, rfl, Nat.le_refl _, rfl, by simp, fun h => by simp at h⟩, by simp, by simp⟩
  · have hw1 : ∀ y ∈ elems, Light P e y.1 := fun y hy n hn => hw_ n (by
      simp only [DataW.weights, ht, List.mem_cons, List.mem_append]
      exact .inr (.inl (mem_weightsAll P e _ y.1 n (List.mem_map.2 ⟨y, hy, rfl⟩) hn)))
    have hw2 : len * B ≤ 140737488351232 := by
      have := hw_ ((elems.length + rest.length) * P.bytesOf e) (by simp [DataW.weights, ht])
      rw [hB] at this
      exact Nat.le_trans (Nat.mul_le_mul_right B (by omega)) this
    obtain ⟨l, hll, hq⟩ := list_of (Q := fun i p => good p ∧ ∃ c, c.length = d.sz ∧ d.K W p c ∧ ∀ j u, c[j]? = some u → W.cell? (a.add (i * d.sz + j)) = some u) len (fun i hi => by
      have h := hel i hi
      rw [List.getElem?_eq_getElem (by omega)] at h
      obtain ⟨c, hcs, htr⟩ := Option.bind_eq_some_iff.1 h
      obtain ⟨p, hK, hg⟩ := ho enc W spare held n c _ htr (hw1 _ (List.getElem_mem _))
      obtain ⟨_, hlc, hcell⟩ := World.cells?_some hcs
      refine ⟨p, hg, c, by rw [hlc, hc], hK, fun j u hj => ?_⟩
      have hj' : j < c.length := by
        by_cases z : j < c.length
        · exact z
        · rw [List.getElem?_eq_none (by omega)] at hj; cases hj
      have := hcell j (by omega)
      rw [hj] at this
      rw [← this]
      rw [hc, add_twice])
    subst hll
    refine ⟨l, ⟨some a, cap, rfl, hl, rfl, by unfold maxLen at hm; omega, fun _ => ⟨a, rfl, fun j p hj => (hq j p hj).2⟩⟩, ⟨by omega, hw2⟩, fun x hx => ?_⟩
    obtain ⟨j, hj, rfl⟩ := List.mem_iff_getElem.1 hx
    exact (hq j _ (List.getElem?_eq_getElem hj)).1
/-- A struct's fields from a place on. -/
def OpensF {α : Type} (P : Program) (T off : Nat) (fs : List Field) (d : Kd α) (good : α → Prop) : Prop :=
  ∀ {H : Type} (enc : TypeId × Value → H) (W : World) (spare : Nat → Bool) (held : Bool) (fuel : Nat) (cs : List Value), cs.length = T →
    (∀ f ∈ fs, ∃ y, DataW.trod enc P W 0 spare held fuel f.type ((cs.drop f.offset).take (P.cellsOf f.type)) = some y ∧ Light P f.type y.1) → ∃ a : α, d.K W a (cs.drop off) ∧ good a
theorem opens_last {α : Type} {d : Kd α} {good : α → Prop} {T off : Nat} {f : Field} (ho : Opens P f.type d good) (hf : f.offset = off) (hc : P.cellsOf f.type = d.sz) (hT : off + d.sz = T) : OpensF P T off [f] d good := by
  intro H enc W spare held fuel cs hl h
  obtain ⟨y, hy, hwy⟩ := h f (by simp)
  rw [hf, hc, List.take_of_length_le (by rw [List.length_drop]; omega)] at hy
  exact ho enc W spare held fuel _ _ hy hwy
theorem opens_next {α β : Type} {d : Kd α} {d' : Kd β} {good : α → Prop} {good' : β → Prop} {T off : Nat} {f : Field} {fs : List Field} (ho : Opens P f.type d good) (hf : f.offset = off) (hc : P.cellsOf f.type = d.sz) (hn : OpensF P T (off + d.sz) fs d' good') :
    OpensF P T off (f :: fs) (Kd.pair d d') (fun x => good x.1 ∧ good' x.2) := by
  intro H enc W spare held fuel cs hl h
  obtain ⟨y, hy, hwy⟩ := h f (by simp)
  rw [hf, hc] at hy
  obtain ⟨a, ha, ga⟩ := ho enc W spare held fuel _ _ hy hwy
  obtain ⟨b, hb, gb⟩ := hn enc W spare held fuel cs hl (fun g hg => h g (by simp [hg]))
  refine ⟨(a, b), ⟨_, _, ?_, ha, hb⟩, ga, gb⟩
  rw [← List.drop_drop]
  exact (List.take_append_drop _ _).symm
theorem opens_struct {α : Type} {d : Kd α} {good : α → Prop} {fs : Array Field} (ht : P.underlying t = some (.struct fs)) (hT : P.cellsOf t = d.sz) (h : OpensF P d.sz 0 fs.toList d good) : Opens P t d good := by
  intro H enc W spare held fuel cs x hx hw_
  obtain ⟨xs, n, _, rfl, hl, hlen, hf⟩ := DataW.trod_struct ht hx
  have := h enc W spare held n cs (by omega) (fun f hm => by
    obtain ⟨i, hi, rfl⟩ := List.mem_iff_getElem.1 hm
    have := hf i fs[i] (by simp at hi; simp [hi])
    rw [List.getElem?_eq_getElem (by simp at hi; omega)] at this
    refine ⟨_, by simpa using this, fun m hm => hw_ m ?_⟩
    simp only [DataW.weights, ht]
    exact DataW.weights_mem_each (j := i) (by simp at hi ⊢; simp [hi]) (by rw [List.getElem?_map, List.getElem?_eq_getElem (show i < xs.length by simp at hi; omega)]; rfl) m hm)
  simpa using this
theorem opens_iso {α β : Type} {d : Kd α} {good : α → Prop} {f : β → α} (g : α → β) (hg : ∀ a, f (g a) = a) (h : Opens P t d good) : Opens P t (Kd.iso d f) (fun x => good (f x)) := by
  intro H enc W spare held fuel cs x hx hw_
  obtain ⟨a, ha, ga⟩ := h enc W spare held fuel cs x hx hw_
  exact ⟨g a, by show d.K W (f (g a)) cs; rw [hg]; exact ha, by show good (f (g a)); rw [hg]; exact ga⟩
theorem Opens.good {α : Type} {d : Kd α} {g g' : α → Prop} (h : Opens P t d g) (hg : ∀ a, g a → g' a) : Opens P t d g' := by
  intro H enc W spare held fuel cs x hx hw_
  obtain ⟨a, ha, ga⟩ := h enc W spare held fuel cs x hx hw_
  exact ⟨a, ha, hg a ga⟩
end
end Go.Proofs.YtnkckdbjeemjeaaGreatDoor.H
