/- What came in as data, of a type that is nested in itself; no conditions. -/
import Derived.Test.YtnkckdbjeemjeaaGreatDoorOp
import Derived.Test.YtnkckdbjeemjeaaGreatDoorXx0
namespace Go.Proofs.YtnkckdbjeemjeaaGreatDoor.H
open Go.ChangeShapes Go.WideShapes Go.RowKit Go.Proofs.YtnkckdbjeemjeaaGreatDoorW.PrintWords Go.Proofs.YtnkckdbjeemjeaaGreatDoor.X
def OpensB {α : Type} (b : Nat) (P : Program) (t : TypeId) (d : Kd α) (good : α → Prop) : Prop :=
  ∀ {H : Type} (enc : TypeId × Value → H) (W : World) (spare : Nat → Bool) (held : Bool) (fuel : Nat) (cs : List Value) (x : DataW H × List MemPlace),
    fuel ≤ b → DataW.trod enc P W 0 spare held fuel t cs = some x → Light P t x.1 → ∃ a : α, d.K W a cs ∧ good a
section
variable {P : Program} {t e : TypeId} {b : Nat}
theorem Opens.upto {α : Type} {d : Kd α} {good : α → Prop} (h : Opens P t d good) : OpensB b P t d good := fun enc W spare held fuel cs x _ hx hl => h enc W spare held fuel cs x hx hl
theorem OpensB.le {α : Type} {d : Kd α} {good : α → Prop} {c : Nat} (h : OpensB b P t d good) (hc : c ≤ b) : OpensB c P t d good := fun enc W spare held fuel cs x hf hx hl => h enc W spare held fuel cs x (Nat.le_trans hf hc) hx hl
theorem ob_slice {α : Type} {d : Kd α} {good : α → Prop} (B : Nat) (ht : P.underlying t = some (.slice e)) (hc : P.cellsOf e = d.sz) (hB : P.bytesOf e = B) (ho : OpensB b P e d good) : OpensB (b + 1) P t (Kd.slice e d) (fun l => (l.length ≤ maxLen ∧ l.length * B ≤ 140737488351232) ∧ ∀ x ∈ l, good x) := by
  intro H enc W spare held fuel cs x hf hx hw_
  rcases DataW.trod_slice ht hx with ⟨rfl, _⟩ | ⟨a, len, cap, elems, rest, n, hfn, rfl, rfl, _, hl, hm, hlen, hel, _⟩
  · exact ⟨[], ⟨none, 0, rfl, Nat.le_refl _, rfl, by simp, fun h => by simp at h⟩, by simp, by simp⟩
  · have hw1 : ∀ y ∈ elems, Light P e y.1 := fun y hy n hn => hw_ n (by
      simp only [DataW.weights, ht, List.mem_cons, List.mem_append]
      exact .inr (.inl (mem_weightsAll P e _ y.1 n (List.mem_map.2 ⟨y, hy, rfl⟩) hn)))
    have hw2 : len * B ≤ 140737488351232 := by
      have := hw_ ((elems.length + rest.length) * P.bytesOf e) (by simp [DataW.weights, ht])
      rw [hB] at this
      exact Nat.le_trans (Nat.mul_le_mul_right B (by omega)) this
    obtain ⟨l, hll, hq⟩ := list_of (Q := fun i p => good p ∧ ∃ c, c.length = d.sz ∧ d.K W p c ∧ ∀ j u, c[j]? = some u → W.cell? (a.add (i * d.sz + j)) = some u) len (fun i hi => by
      have h := hel i hi
      rw [List.getElem?_eq_getElem (by omega)] at h
      obtain ⟨c, hcs, htr⟩ := Option.bind_eq_some_iff.1 h
      obtain ⟨p, hK, hg⟩ := ho enc W spare held n c _ (by omega) htr (hw1 _ (List.getElem_mem _))
      obtain ⟨_, hlc, hcell⟩ := World.cells?_some hcs
      refine ⟨p, hg, c, by rw [hlc, hc], hK, fun j u hj => ?_⟩
      have hj' : j < c.length := by
        by_cases z : j < c.length
        · exact z
        · rw [List.getElem?_eq_none (by omega)] at hj; cases hj
      have := hcell j (by omega)
      rw [hj] at this
      rw [← this]
      rw [hc, add_twice])
    subst hll
    refine ⟨l, ⟨some a, cap, rfl, hl, rfl, by unfold maxLen at hm; omega, fun _ => ⟨a, rfl, fun j p hj => (hq j p hj).2⟩⟩, ⟨by omega, hw2⟩, fun x hx => ?_⟩
    obtain ⟨j, hj, rfl⟩ := List.mem_iff_getElem.1 hx
    exact (hq j _ (List.getElem?_eq_getElem hj)).1
def OpensFB {α : Type} (b : Nat) (P : Program) (T off : Nat) (fs : List Field) (d : Kd α) (good : α → Prop) : Prop :=
  ∀ {H : Type} (enc : TypeId × Value → H) (W : World) (spare : Nat → Bool) (held : Bool) (fuel : Nat) (cs : List Value), fuel ≤ b → cs.length = T →
    (∀ f ∈ fs, ∃ y, DataW.trod enc P W 0 spare held fuel f.type ((cs.drop f.offset).take (P.cellsOf f.type)) = some y ∧ Light P f.type y.1) → ∃ a : α, d.K W a (cs.drop off) ∧ good a
theorem ob_last {α : Type} {d : Kd α} {good : α → Prop} {T off : Nat} {f : Field} (ho : OpensB b P f.type d good) (hf : f.offset = off) (hc : P.cellsOf f.type = d.sz) (hT : off + d.sz = T) : OpensFB b P T off [f] d good := by
  intro H enc W spare held fuel cs hfu hl h
  obtain ⟨y, hy, hwy⟩ := h f (by simp)
  rw [hf, hc, List.take_of_length_le (by rw [List.length_drop]; omega)] at hy
  exact ho enc W spare held fuel _ _ hfu hy hwy
theorem ob_next {α β : Type} {d : Kd α} {d' : Kd β} {good : α → Prop} {good' : β → Prop} {T off : Nat} {f : Field} {fs : List Field} (ho : OpensB b P f.type d good) (hf : f.offset = off) (hc : P.cellsOf f.type = d.sz) (hn : OpensFB b P T (off + d.sz) fs d' good') :
    OpensFB b P T off (f :: fs) (Kd.pair d d') (fun x => good x.1 ∧ good' x.2) := by
  intro H enc W spare held fuel cs hfu hl h
  obtain ⟨y, hy, hwy⟩ := h f (by simp)
  rw [hf, hc] at hy
  obtain ⟨a, ha, ga⟩ := ho enc W spare held fuel _ _ hfu hy hwy
  obtain ⟨b, hb, gb⟩ := hn enc W spare held fuel cs hfu hl (fun g hg => h g (by simp [hg]))
  refine ⟨(a, b), ⟨_, _, ?_, ha, hb⟩, ga, gb⟩
  rw [← List.drop_drop]
  exact (List.take_append_drop _ _).symm
theorem ob_struct {α : Type} {d : Kd α} {good : α → Prop} {fs : Array Field} (ht : P.underlying t = some (.struct fs)) (hT : P.cellsOf t = d.sz) (h : OpensFB b P d.sz 0 fs.toList d good) : OpensB (b + 1) P t d good := by
  intro H enc W spare held fuel cs x hfu hx hw_
  obtain ⟨xs, n, hfn, rfl, hl, hlen, hf⟩ := DataW.trod_struct ht hx
  have := h enc W spare held n cs (by omega) (by omega) (fun f hm => by
    obtain ⟨i, hi, rfl⟩ := List.mem_iff_getElem.1 hm
    have := hf i fs[i] (by simp at hi; simp [hi])
    rw [List.getElem?_eq_getElem (by simp at hi; omega)] at this
    refine ⟨_, by simpa using this, fun m hm => hw_ m ?_⟩
    simp only [DataW.weights, ht]
    exact DataW.weights_mem_each (j := i) (by simp at hi ⊢; simp [hi]) (by rw [List.getElem?_map, List.getElem?_eq_getElem (show i < xs.length by simp at hi; omega)]; rfl) m hm)
  simpa using this
theorem ob_iso {α β : Type} {d : Kd α} {good : α → Prop} {f : β → α} (g : α → β) (hg : ∀ a, f (g a) = a) (h : OpensB b P t d good) : OpensB b P t (Kd.iso d f) (fun x => good (f x)) := by
  intro H enc W spare held fuel cs x hfu hx hw_
  obtain ⟨a, ha, ga⟩ := h enc W spare held fuel cs x hfu hx hw_
  exact ⟨g a, by show d.K W (f (g a)) cs; rw [hg]; exact ha, by show good (f (g a)); rw [hg]; exact ga⟩
theorem OpensB.good {α : Type} {d : Kd α} {g g' : α → Prop} (h : OpensB b P t d g) (hg : ∀ a, g a → g' a) : OpensB b P t d g' := by
  intro H enc W spare held fuel cs x hf hx hw_
  obtain ⟨a, ha, ga⟩ := h enc W spare held fuel cs x hf hx hw_
  exact ⟨a, ha, hg a ga⟩
theorem opens_fix {α : Type} {F : Kd α → Kd α} {sz : Nat} {E : List Nat} {hs : ∀ n, (Kd.upto F sz E n).sz = sz} {hE : ∀ n q, q ∈ (Kd.upto F sz E n).E → q ∈ E} {good : α → Prop}
    (step : ∀ b d, d.sz = sz → OpensB b P t d good → OpensB (b + 1) P t (F d) good) : Opens P t (Kd.fix F sz E hs hE) good := by
  have key : ∀ b, OpensB b P t (Kd.upto F sz E b) good := by
    intro b
    induction b with
    | zero =>
      intro H enc W spare held fuel cs x hb hx _
      obtain rfl : fuel = 0 := by omega
      simp [DataW.trod] at hx
    | succ b ih => exact step b _ (hs b) ih
  intro H enc W spare held fuel cs x hx hl
  obtain ⟨a, ha, ga⟩ := key fuel enc W spare held fuel cs x (Nat.le_refl _) hx hl
  exact ⟨a, ⟨fuel, ha⟩, ga⟩
end
inductive GE : S24 → Prop
  | mk (x : S24) (h1 : (Lit.int .i64 x.f0).wf = true) (h2 : (Lit.int .i64 x.f1).wf = true) (h3 : x.f2.size ≤ 140737488351232) (h4 : x.f3.length ≤ maxLen ∧ x.f3.length * 56 ≤ 140737488351232) (h5 : ∀ y ∈ x.f3, GE y) : GE x
theorem opens24 : Opens Tryz.prog 24 k24 GE := by
  unfold k24
  refine opens_fix fun b d hd ho => ?_
  refine OpensB.le (b := b + 2) ?_ (by omega)
  refine OpensB.good (ob_iso (fun p => ⟨p.1, p.2.1, p.2.2.1, p.2.2.2⟩) (fun _ => rfl) (ob_struct Tryz.underlying24 (by show _ = 1 + (1 + (1 + 1)); kernel_rfl) (ob_next (Opens.upto (opens_int Tryz.underlying3)) rfl (by kernel_rfl) (ob_next (Opens.upto (opens_int Tryz.underlying2)) rfl (by kernel_rfl) (ob_next (Opens.upto (opens_string Tryz.underlying9)) rfl (by kernel_rfl) (ob_last (ob_slice 56 Tryz.underlying22 (by rw [hd]; kernel_rfl) (by kernel_rfl) ho) rfl (by kernel_rfl) (by kernel_rfl))))))) ?_
  intro a ⟨g1, g2, g3, g4, g5⟩
  exact .mk a g1 g2 g3 g4 g5
end Go.Proofs.YtnkckdbjeemjeaaGreatDoor.H
