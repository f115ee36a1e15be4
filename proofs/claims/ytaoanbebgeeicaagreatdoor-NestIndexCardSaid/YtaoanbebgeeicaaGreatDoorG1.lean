/- Ghost values and ghost heaps: names in place of block numbers; what ties them to a world. -/
import Derived.Orders
import Derived.Below
import Derived.Laws.Cells
import Derived.Laws.AppendOwn
import Derived.WalkKit
import Derived.Laws.Slices
import Derived.Laws.Strings2
import Derived.Laws.StructEq
import Derived.Laws.Append
import Derived.KernelRfl
namespace Go.Proofs.YtaoanbebgeeicaaGreatDoor.G
open Go Go.RowKit
set_option linter.unusedVariables false

/-- A ghost value: a block is told by a name; what a slice may grow to is told or not. -/
inductive AV where
  | bool (b : Bool) | int (k : IntKind) (n : Int) | str (s : List Nat) | nilPtr | ptr (n o : Nat) | nilSlice | slice (n o len : Nat) (ex : Bool) (cap : Nat)
  | func (fn : Fn) (first captured : List AV) | nilFunc | iface (t : TypeId) (v : AV) | nilIface | agg (cs : List AV) | tup (vs : List AV)
  | rty (t g e : Nat)   -- package reflectlite's word for a type
  | sy (k : IntKind) (z : Int) (m : Nat) (c : Int)   -- any small number of which what it leaves at m is known alone

/-- Where a name lies: block, first cell; for a row that grows: cells an element, elements that there is room for. -/
structure Pl where
  b : Nat
  d : Nat
  sz : Nat
  cap : Nat

abbrev Rho := Nat → Option Pl
def Rho.le (r s : Rho) : Prop := ∀ n p, r n = some p → s n = some p
theorem Rho.le.refl (r : Rho) : r.le r := fun _ _ h => h
theorem Rho.le.trans {r s t : Rho} (h : r.le s) (k : s.le t) : r.le t := fun n p e => k n p (h n p e)

def bytesOf (s : List Nat) : ByteArray := ⟨(s.map UInt8.ofNat).toArray⟩
/-- What a slice has room for: told (ex), or all that its name has (then its element's cells are told). -/
def capOk (p : Pl) (o c : Nat) : Bool → Nat → Prop
  | true, c' => c = c'
  | false, sz => p.sz = sz ∧ o + c * sz = p.cap * sz

mutual
def RV (r : Rho) : AV → Value → Prop
  | .bool b, v => v = .bool b
  | .int k n, v => v = .int k n
  | .str s, v => v = .string (bytesOf s) ∧ ∀ x ∈ s, x < 256
  | .nilPtr, v => v = .pointer none
  | .ptr n o, v => ∃ p, r n = some p ∧ v = .pointer (some ⟨p.b, p.d + o, none⟩)
  | .nilSlice, v => v = .slice none 0 0
  | .slice n o len ex cap, v => ∃ p c, r n = some p ∧ v = .slice (some ⟨p.b, p.d + o, none⟩) len c ∧ len ≤ c ∧ capOk p o c ex cap
  | .func fn f c, v => ∃ f' c', v = .func fn f' c' ∧ RVs r f f'.toList ∧ RVs r c c'.toList
  | .nilFunc, v => v = .nilFunc
  | .iface t x, v => ∃ y, v = .iface t y ∧ RV r x y
  | .nilIface, v => v = .nilIface
  | .agg l, v => ∃ l', v = .agg l' ∧ RVs r l l'.toList
  | .tup l, v => ∃ l', v = .tuple l' ∧ RVs r l l'.toList
  | .rty t g e, v => v = .iface t (.agg #[.pointer (some ⟨g, e, none⟩)])
  | .sy k z m c, v => v = .int k z ∧ -128 ≤ z ∧ z ≤ 255 ∧ 0 < m ∧ z.tmod m = c
def RVs (r : Rho) : List AV → List Value → Prop
  | [], l => l = []
  | x :: xs, l => ∃ y ys, l = y :: ys ∧ RV r x y ∧ RVs r xs ys
end

mutual
theorem RV.mono {r s : Rho} (h : r.le s) : ∀ (x : AV) (v : Value), RV r x v → RV s x v
  | .bool b, v, e => e
  | .int k n, v, e => e
  | .str s, v, e => e
  | .nilPtr, v, e => e
  | .ptr n o, v, ⟨p, hp, e⟩ => ⟨p, h _ _ hp, e⟩
  | .nilSlice, v, e => e
  | .slice n o len ex cap, v, ⟨p, c, hp, e⟩ => ⟨p, c, h _ _ hp, e⟩
  | .func fn f c, v, ⟨f', c', e, h1, h2⟩ => ⟨f', c', e, RVs.mono h f _ h1, RVs.mono h c _ h2⟩
  | .nilFunc, v, e => e
  | .iface t x, v, ⟨y, e, h1⟩ => ⟨y, e, RV.mono h x _ h1⟩
  | .nilIface, v, e => e
  | .agg l, v, ⟨l', e, h1⟩ => ⟨l', e, RVs.mono h l _ h1⟩
  | .tup l, v, ⟨l', e, h1⟩ => ⟨l', e, RVs.mono h l _ h1⟩
  | .rty t g e, v, h1 => h1
  | .sy k z m c, v, h1 => h1
theorem RVs.mono {r s : Rho} (h : r.le s) : ∀ (x : List AV) (v : List Value), RVs r x v → RVs s x v
  | [], v, e => e
  | x :: xs, v, ⟨y, ys, e, h1, h2⟩ => ⟨y, ys, e, RV.mono h x _ h1, RVs.mono h xs _ h2⟩
end

theorem RVs.length {r : Rho} : ∀ {l : List AV} {l' : List Value}, RVs r l l' → l'.length = l.length
  | [], _, h => by rw [RVs] at h; subst h; rfl
  | x :: xs, _, h => by rw [RVs] at h; obtain ⟨y, ys, rfl, _, h2⟩ := h; simp [h2.length]
theorem RVs.get {r : Rho} : ∀ {l : List AV} {l' : List Value}, RVs r l l' → ∀ {i : Nat} {x : AV}, l[i]? = some x → ∃ y, l'[i]? = some y ∧ RV r x y
  | [], _, h, i, x, e => by simp at e
  | a :: as, _, h, i, x, e => by
    rw [RVs] at h; obtain ⟨y, ys, rfl, h1, h2⟩ := h
    cases i with
    | zero => simp at e; subst e; exact ⟨y, rfl, h1⟩
    | succ i => simp at e; simpa using h2.get e
theorem RVs.of {r : Rho} : ∀ {l : List AV} {l' : List Value}, l'.length = l.length → (∀ (i : Nat) x y, l[i]? = some x → l'[i]? = some y → RV r x y) → RVs r l l'
  | [], l', hl, _ => by rw [RVs]; exact List.length_eq_zero_iff.mp hl
  | a :: as, [], hl, _ => by simp at hl
  | a :: as, y :: ys, hl, h => by
    rw [RVs]
    exact ⟨y, ys, rfl, h 0 _ _ rfl rfl, RVs.of (by simpa using hl) fun i x z e1 e2 => h (i + 1) x z (by simpa using e1) (by simpa using e2)⟩
theorem RVs.append {r : Rho} : ∀ {l m : List AV} {l' m' : List Value}, RVs r l l' → RVs r m m' → RVs r (l ++ m) (l' ++ m')
  | [], m, l', m', h, k => by rw [RVs] at h; subst h; exact k
  | x :: xs, m, l', m', h, k => by
    rw [RVs] at h; obtain ⟨y, ys, rfl, h1, h2⟩ := h
    rw [List.cons_append, RVs]; exact ⟨y, ys ++ m', rfl, h1, h2.append k⟩
theorem RVs.take {r : Rho} {l : List AV} {l' : List Value} (h : RVs r l l') (k : Nat) : RVs r (l.take k) (l'.take k) := by
  refine RVs.of (by simp [h.length]) fun i x y e1 e2 => ?_
  rw [List.getElem?_take] at e1 e2
  split at e1
  · rw [if_pos ‹_›] at e2; obtain ⟨z, hz, hr⟩ := h.get e1; rw [hz] at e2; cases e2; exact hr
  · cases e1
theorem RVs.drop {r : Rho} {l : List AV} {l' : List Value} (h : RVs r l l') (k : Nat) : RVs r (l.drop k) (l'.drop k) := by
  refine RVs.of (by simp [h.length]) fun i x y e1 e2 => ?_
  rw [List.getElem?_drop] at e1 e2
  obtain ⟨z, hz, hr⟩ := h.get e1; rw [hz] at e2; cases e2; exact hr

/-- A value of one cell. -/
def AV.one : AV → Bool
  | .agg _ | .tup _ => false
  | _ => true
def AV.cells : AV → List AV
  | .agg l => l
  | v => [v]
theorem RV.oneCell {r : Rho} {x : AV} {v : Value} (h : RV r x v) (h1 : x.one = true) : v.oneCell' = true := by
  cases x <;> simp only [RV] at h <;> first
    | (simp [AV.one] at h1; done)
    | (obtain ⟨_, _, rfl⟩ := h; rfl)
    | (obtain ⟨_, _, _, rfl, _⟩ := h; rfl)
    | (obtain ⟨_, _, rfl, _⟩ := h; rfl)
    | (obtain ⟨_, rfl, _⟩ := h; rfl)
    | (obtain ⟨rfl, _⟩ := h; rfl)
    | (subst h; rfl)
theorem RV.cellsOf {r : Rho} {x : AV} {v : Value} (h : RV r x v) (ht : ∀ l, x ≠ .tup l) : RVs r x.cells v.cells.toList := by
  cases x with
  | agg l => rw [RV] at h; obtain ⟨l', rfl, h⟩ := h; exact h
  | tup l => exact absurd rfl (ht l)
  | _ =>
    have h0 := h
    simp only [RV] at h
    have : v.cells = #[v] := by
      first
        | (obtain ⟨_, _, rfl⟩ := h; rfl)
        | (obtain ⟨_, _, _, rfl, _⟩ := h; rfl)
        | (obtain ⟨_, _, rfl, _⟩ := h; rfl)
        | (obtain ⟨_, rfl, _⟩ := h; rfl)
        | (obtain ⟨rfl, _⟩ := h; rfl)
        | (subst h; rfl)
    rw [this]; simp only [AV.cells, RVs]; exact ⟨v, [], rfl, h0, rfl⟩

/-- A ghost cell: of one's own; of another's, read alone; what is behind it is free for it alone; given away. -/
inductive Cell where
  | rw (v : AV) | ro (v : AV) | tail (sz : Nat) | dead
abbrev Hp := Nat → Nat → Option Cell
def Cell.wr : Cell → Bool
  | .rw _ | .tail _ => true
  | _ => false
def Cell.val? : Cell → Option AV
  | .rw v | .ro v => some v
  | _ => none

/-- The world's cells that a ghost cell stands for. -/
def At (r : Rho) (n o : Nat) (c : Cell) (b j : Nat) : Prop :=
  ∃ p, r n = some p ∧ b = p.b ∧ match c with
    | .dead => False
    | .tail _ => p.d + o ≤ j
    | _ => j = p.d + o
def CellOk (r : Rho) (w : World) (n o : Nat) : Cell → Prop
  | .dead => True
  | .ro v => v.one = true ∧ ∃ p v', r n = some p ∧ w.cell? ⟨p.b, p.d + o, none⟩ = some v' ∧ RV r v v'
  | .rw v => v.one = true ∧ ∃ p v', r n = some p ∧ w.cell? ⟨p.b, p.d + o, none⟩ = some v' ∧ RV r v v' ∧ w.frozen? ⟨p.b, p.d + o, none⟩ = false
  | .tail sz => ∃ p cs e, r n = some p ∧ p.sz = sz ∧ 0 < sz ∧ w.heap[p.b]? = some (.cells cs e (0, 0)) ∧ p.d + p.cap * p.sz ≤ cs.size

structure Rel (P : Program) (r : Rho) (H : Hp) (w : World) : Prop where
  cell : ∀ n o c, H n o = some c → CellOk r w n o c
  sep : ∀ n1 o1 c1 n2 o2 c2 b j, H n1 o1 = some c1 → H n2 o2 = some c2 → c1.wr = true → At r n1 o1 c1 b j → At r n2 o2 c2 b j → n1 = n2 ∧ o1 = o2
  low : ∀ n p, r n = some p → p.b < w.heap.size
  glob : ∀ g, g < P.globals.size → ∃ p, r g = some p ∧ p.b = g ∧ p.d = 0

def Owned (r : Rho) (H : Hp) (b : Nat) : Prop := ∃ n o c p, H n o = some c ∧ c.wr = true ∧ r n = some p ∧ p.b = b

/-- From one state to a later one: what was named stays named, no block that is not one's own has turned. -/
structure Adv (n n' : Nat) (r : Rho) (H : Hp) (w : World) (r' : Rho) (H' : Hp) (w' : World) : Prop where
  le : r.le r'
  only : ∀ m, (m < n ∨ n' ≤ m) → r' m = r m
  os : w'.os = w.os
  tape : w'.tape = w.tape
  output : w'.output = w.output
  size : w.heap.size ≤ w'.heap.size
  block : ∀ b, b < w.heap.size → ¬ Owned r H b → w'.heap[b]? = w.heap[b]?
  own : ∀ b, b < w.heap.size → Owned r' H' b → Owned r H b

theorem Adv.refl (n : Nat) (r : Rho) (H : Hp) (w : World) : Adv n n r H w r H w :=
  ⟨.refl r, fun _ _ => rfl, rfl, rfl, rfl, Nat.le_refl _, fun _ _ _ => rfl, fun _ _ h => h⟩
theorem Adv.trans {n n1 n2 : Nat} {r r1 r2 : Rho} {H H1 H2 : Hp} {w w1 w2 : World} (h : Adv n n1 r H w r1 H1 w1) (k : Adv n1 n2 r1 H1 w1 r2 H2 w2) (hn : n ≤ n1) (hk : n1 ≤ n2) :
    Adv n n2 r H w r2 H2 w2 :=
  ⟨h.le.trans k.le, fun m hm => (k.only m (by omega)).trans (h.only m (by omega)), k.os.trans h.os, k.tape.trans h.tape, k.output.trans h.output, Nat.le_trans h.size k.size,
   fun b hb ho => (k.block b (Nat.lt_of_lt_of_le hb h.size) fun o1 => ho (h.own b hb o1)).trans (h.block b hb ho),
   fun b hb o2 => h.own b hb (k.own b (Nat.lt_of_lt_of_le hb h.size) o2)⟩

/-- A heap with another behind it. -/
def Hp.over (F H : Hp) : Hp := fun n o => match F n o with | some c => some c | none => H n o
def Hp.sub (F H : Hp) : Prop := ∀ n o c, F n o = some c → H n o = some c
theorem Hp.over_of_sub {F H : Hp} (h : F.sub H) : F.over H = H := by
  funext n o; unfold Hp.over; cases e : F n o with
  | none => rfl
  | some c => exact (h _ _ _ e).symm
theorem Owned.sub {r : Rho} {F H : Hp} {b : Nat} (h : Owned r F b) (hs : F.sub H) : Owned r H b := by
  obtain ⟨n, o, c, p, h1, h2⟩ := h; exact ⟨n, o, c, p, hs _ _ _ h1, h2⟩
theorem Owned.over {r : Rho} {F X : Hp} {b : Nat} (h : Owned r (F.over X) b) : Owned r F b ∨ Owned r X b := by
  obtain ⟨n, o, c, p, h1, h2⟩ := h
  unfold Hp.over at h1
  cases e : F n o with
  | some c' => rw [e] at h1; cases h1; exact .inl ⟨n, o, c, p, e, h2⟩
  | none => rw [e] at h1; exact .inr ⟨n, o, c, p, h1, h2⟩

/-- What may be forgotten. -/
theorem Rel.less {P : Program} {r : Rho} {H H' : Hp} {w : World} (h : Rel P r H w) (hs : H'.sub H) : Rel P r H' w :=
  ⟨fun n o c e => h.cell n o c (hs _ _ _ e), fun n1 o1 c1 n2 o2 c2 b j e1 e2 => h.sep n1 o1 c1 n2 o2 c2 b j (hs _ _ _ e1) (hs _ _ _ e2), h.low, h.glob⟩

theorem Rel.drew {P : Program} {r : Rho} {H : Hp} {w : World} (h : Rel P r H w) : Rel P r H w.drew :=
  ⟨fun n o c e => by
    have := h.cell n o c e
    cases c <;> exact this, h.sep, h.low, h.glob⟩
theorem Adv.drew {n : Nat} {r : Rho} {H : Hp} {w : World} : Adv n n r H w r H w.drew :=
  ⟨.refl r, fun _ _ => rfl, rfl, rfl, rfl, Nat.le_refl _, fun _ _ _ => rfl, fun _ _ h => h⟩

def Hp.set (H : Hp) (n o : Nat) (c : Cell) : Hp := fun m j => if m = n ∧ j = o then some c else H m j
def Hp.row (H : Hp) (n : Nat) (G : Nat → Option Cell) : Hp := fun m j => if m = n then G j else H m j
def Rho.set (r : Rho) (n : Nat) (p : Pl) : Rho := fun m => if m = n then some p else r m
theorem Rho.le_set {r : Rho} {n : Nat} {p : Pl} (h : r n = none) : r.le (r.set n p) := fun m q e => by
  unfold Rho.set; split
  · rename_i hm; subst hm; rw [h] at e; cases e
  · exact e

theorem CellOk.mono {r s : Rho} {w : World} {n o : Nat} {c : Cell} (h : CellOk r w n o c) (hs : r.le s) : CellOk s w n o c := by
  cases c with
  | dead => trivial
  | ro v => obtain ⟨h1, p, v', hp, hc, hv⟩ := h; exact ⟨h1, p, v', hs _ _ hp, hc, hv.mono hs⟩
  | rw v => obtain ⟨h1, p, v', hp, hc, hv, hf⟩ := h; exact ⟨h1, p, v', hs _ _ hp, hc, hv.mono hs, hf⟩
  | tail sz => obtain ⟨p, cs, e, hp, h⟩ := h; exact ⟨p, cs, e, hs _ _ hp, h⟩
theorem CellOk.named {r : Rho} {w : World} {n o : Nat} {c : Cell} (h : CellOk r w n o c) (hd : c ≠ .dead) : ∃ p, r n = some p := by
  cases c with
  | dead => exact absurd rfl hd
  | ro v => obtain ⟨h1, p, v', hp, _⟩ := h; exact ⟨p, hp⟩
  | rw v => obtain ⟨h1, p, v', hp, _⟩ := h; exact ⟨p, hp⟩
  | tail sz => obtain ⟨p, cs, e, hp, _⟩ := h; exact ⟨p, hp⟩
/-- A cell whose block stays. -/
theorem CellOk.block {r : Rho} {w w' : World} {n o : Nat} {c : Cell} (h : CellOk r w n o c) (hb : ∀ p, r n = some p → w'.heap[p.b]? = w.heap[p.b]?) : CellOk r w' n o c := by
  cases c with
  | dead => trivial
  | ro v => obtain ⟨h1, p, v', hp, hc, hv⟩ := h; exact ⟨h1, p, v', hp, by rw [World.cell?_of_block (w := w) (hb p hp)]; exact hc, hv⟩
  | rw v => obtain ⟨h1, p, v', hp, hc, hv, hf⟩ := h; exact ⟨h1, p, v', hp, by rw [World.cell?_of_block (w := w) (hb p hp)]; exact hc, hv, by rw [World.frozen?_of_block (w := w) (hb p hp)]; exact hf⟩
  | tail sz => obtain ⟨p, cs, e, hp, h1, h2, h3, h4⟩ := h; exact ⟨p, cs, e, hp, h1, h2, by rw [hb p hp]; exact h3, h4⟩

theorem Rel.get {P : Program} {r : Rho} {H : Hp} {w : World} (h : Rel P r H w) {n o : Nat} {c : Cell} {v : AV} (e : H n o = some c) (hv : c.val? = some v) :
    v.one = true ∧ ∃ p v', r n = some p ∧ w.cell? ⟨p.b, p.d + o, none⟩ = some v' ∧ RV r v v' := by
  have := h.cell n o c e
  cases c <;> simp only [Cell.val?, Option.some.injEq, reduceCtorEq] at hv
  · subst hv; obtain ⟨h1, p, v', hp, hc, hr, _⟩ := this; exact ⟨h1, p, v', hp, hc, hr⟩
  · subst hv; exact this

theorem heap_setCell_some {w : World} {a : Addr} {v : Value} {b : Nat} {cs : Array Value} {e : TypeId} {f : Nat × Nat} (h : w.heap[b]? = some (.cells cs e f)) :
    ∃ cs', (w.setCell a v).heap[b]? = some (.cells cs' e f) ∧ cs'.size = cs.size := by
  simp only [World.setCell, Array.getElem?_modify]
  split
  · rename_i hb; subst hb; rw [h]; exact ⟨_, rfl, by split <;> simp⟩
  · exact ⟨cs, h, rfl⟩

/-- A store into a cell of one's own. -/
theorem Rel.store {P : Program} {r : Rho} {H : Hp} {w : World} (h : Rel P r H w) {n o : Nat} {u v : AV} {v' : Value} (e : H n o = some (.rw u)) (h1 : v.one = true) (hv : RV r v v')
    {p : Pl} (hp : r n = some p) : Rel P r (H.set n o (.rw v)) (w.setCell ⟨p.b, p.d + o, none⟩ v') := by
  obtain ⟨_, p0, u', hp0, hc, _, hf⟩ := h.cell n o _ e
  rw [hp] at hp0; cases hp0
  have hsep : ∀ n2 o2 c2, H n2 o2 = some c2 → ¬ (n2 = n ∧ o2 = o) → ¬ At r n2 o2 c2 p.b (p.d + o) := fun n2 o2 c2 e2 hne ha => by
    have := h.sep n o _ n2 o2 c2 p.b (p.d + o) e e2 rfl ⟨p, hp, rfl, rfl⟩ ha
    exact hne ⟨this.1.symm, this.2.symm⟩
  refine ⟨fun m j c ec => ?_, fun n1 o1 c1 n2 o2 c2 b j e1 e2 w1 a1 a2 => ?_, fun m q hq => by rw [World.size_setCell]; exact h.low m q hq, h.glob⟩
  · unfold Hp.set at ec
    split at ec
    · rename_i hmj; obtain ⟨rfl, rfl⟩ := hmj; cases ec
      exact ⟨h1, p, v', hp, World.cell?_setCell_same _ _ _ hc, hv, by rw [World.frozen?_setCell]; exact hf⟩
    · rename_i hmj
      have hok := h.cell m j c ec
      have hno := hsep m j c ec hmj
      cases c with
      | dead => trivial
      | ro x =>
        obtain ⟨h2, q, x', hq, hcx, hr⟩ := hok
        refine ⟨h2, q, x', hq, ?_, hr⟩
        rw [World.cell?_setCell_other]; exact hcx
        intro ea; exact hno ⟨q, hq, congrArg Addr.block ea, congrArg Addr.off ea⟩
      | rw x =>
        obtain ⟨h2, q, x', hq, hcx, hr, hfx⟩ := hok
        refine ⟨h2, q, x', hq, ?_, hr, by rw [World.frozen?_setCell]; exact hfx⟩
        rw [World.cell?_setCell_other]; exact hcx
        intro ea; exact hno ⟨q, hq, congrArg Addr.block ea, congrArg Addr.off ea⟩
      | tail sz =>
        obtain ⟨q, cs, ty, hq, g1, g2, g3, g4⟩ := hok
        obtain ⟨cs', k1, k2⟩ := heap_setCell_some (a := ⟨p.b, p.d + o, none⟩) (v := v') g3
        exact ⟨q, cs', ty, hq, g1, g2, k1, by rw [k2]; exact g4⟩
  · have back : ∀ m j c, H.set n o (.rw v) m j = some c → ∃ c', H m j = some c' ∧ c'.wr = c.wr ∧ ∀ b i, At r m j c b i → At r m j c' b i := fun m j c ec => by
      unfold Hp.set at ec
      split at ec
      · rename_i hmj; obtain ⟨rfl, rfl⟩ := hmj; cases ec; exact ⟨_, e, rfl, fun b i ha => ha⟩
      · exact ⟨c, ec, rfl, fun b i ha => ha⟩
    obtain ⟨c1', k1, k2, k3⟩ := back n1 o1 c1 e1
    obtain ⟨c2', l1, l2, l3⟩ := back n2 o2 c2 e2
    exact h.sep n1 o1 c1' n2 o2 c2' b j k1 l1 (k2.trans w1) (k3 _ _ a1) (l3 _ _ a2)
theorem Adv.store {n0 : Nat} {r : Rho} {H : Hp} {w : World} {n o : Nat} {u v : AV} {v' : Value} (e : H n o = some (.rw u)) {p : Pl} (hp : r n = some p) :
    Adv n0 n0 r H w r (H.set n o (.rw v)) (w.setCell ⟨p.b, p.d + o, none⟩ v') := by
  refine ⟨.refl r, fun _ _ => rfl, rfl, rfl, rfl, by simp, fun b hb hno => ?_, fun b hb ho => ?_⟩
  · refine Below.heap_setCell _ _ _ _ fun he => hno ⟨n, o, _, p, e, rfl, hp, he.symm⟩
  · obtain ⟨m, j, c, q, k1, k2, k3, k4⟩ := ho
    unfold Hp.set at k1
    split at k1
    · rename_i hmj; obtain ⟨rfl, rfl⟩ := hmj; exact ⟨_, _, _, q, e, rfl, k3, k4⟩
    · exact ⟨m, j, c, q, k1, k2, k3, k4⟩

/-- A new block under a new name. -/
theorem Rel.alloc {P : Program} {r : Rho} {H : Hp} {w : World} (h : Rel P r H w) {n : Nat} (hn : r n = none) (G : Nat → Option Cell) (cs : Array Value) (ty : TypeId) (sz cap : Nat)
    (hG : ∀ o c, G o = some c → (∃ v v', c = .rw v ∧ v.one = true ∧ cs[o]? = some v' ∧ RV r v v') ∨ (c = .tail sz ∧ 0 < sz ∧ cap * sz ≤ cs.size ∧ ∀ o' c', G o' = some c' → o ≤ o' → o' = o)) :
    Rel P (r.set n ⟨w.heap.size, 0, sz, cap⟩) (H.row n G) (w.alloc (.cells cs ty)) := by
  have hle := Rho.le_set (p := ⟨w.heap.size, 0, sz, cap⟩) hn
  have hself : (r.set n ⟨w.heap.size, 0, sz, cap⟩) n = some ⟨w.heap.size, 0, sz, cap⟩ := by simp [Rho.set]
  have hoth : ∀ m, m ≠ n → (r.set n ⟨w.heap.size, 0, sz, cap⟩) m = r m := fun m hm => by simp [Rho.set, hm]
  have hat : ∀ m j c b i, m ≠ n → At (r.set n ⟨w.heap.size, 0, sz, cap⟩) m j c b i → At r m j c b i := fun m j c b i hm ha => by
    obtain ⟨p, hp, ha⟩ := ha; rw [hoth m hm] at hp; exact ⟨p, hp, ha⟩
  have hlow : ∀ m j c b i, m ≠ n → At (r.set n ⟨w.heap.size, 0, sz, cap⟩) m j c b i → b < w.heap.size := fun m j c b i hm ha => by
    obtain ⟨p, hp, rfl, _⟩ := hat m j c b i hm ha; exact h.low m p hp
  have hnew : ∀ j c b i, At (r.set n ⟨w.heap.size, 0, sz, cap⟩) n j c b i → b = w.heap.size := fun j c b i ha => by
    obtain ⟨p, hp, hb, _⟩ := ha; rw [hself] at hp; cases hp; exact hb
  refine ⟨fun m j c ec => ?_, fun n1 o1 c1 n2 o2 c2 b j e1 e2 w1 a1 a2 => ?_, fun m q hq => ?_, fun g hg => ?_⟩
  · unfold Hp.row at ec
    split at ec
    · rename_i hm; subst hm
      rcases hG j c ec with ⟨v, v', rfl, h1, h2, h3⟩ | ⟨rfl, h1, h2, h3⟩
      · refine ⟨h1, _, v', hself, ?_, h3.mono hle, ?_⟩
        · simp only [Nat.zero_add]; rw [World.cell?_alloc_new]; exact h2
        · simp only [Nat.zero_add]; rw [World.frozen?_alloc_new]
      · refine ⟨_, cs, ty, hself, rfl, h1, by show (w.heap.push _)[w.heap.size]? = _; simp, by simpa using h2⟩
    · rename_i hm
      refine (CellOk.block (w := w) (h.cell m j c ec) fun p hp => ?_).mono hle
      exact Below.heap_alloc w _ _ (h.low m p hp)
  · by_cases m1 : n1 = n
    · subst m1
      have hb := hnew _ _ _ _ a1
      by_cases m2 : n2 = n1
      · subst m2
        refine ⟨rfl, ?_⟩
        simp only [Hp.row, if_true] at e1 e2
        obtain ⟨p1, hp1, hb1, q1⟩ := a1
        obtain ⟨p2, hp2, hb2, q2⟩ := a2
        rw [hself] at hp1 hp2; cases hp1; cases hp2
        rcases hG o1 c1 e1 with ⟨v, v', rfl, h1, h2, h3⟩ | ⟨rfl, h1, h2, h3⟩ <;> rcases hG o2 c2 e2 with ⟨x, x', rfl, g1, g2, g3⟩ | ⟨rfl, g1, g2, g3⟩
        · dsimp only at q1 q2; omega
        · dsimp only at q1 q2; exact g3 o1 _ e1 (by omega)
        · dsimp only at q1 q2; exact (h3 o2 _ e2 (by omega)).symm
        · rcases Nat.le_total o1 o2 with hl | hl
          · exact (h3 o2 _ e2 hl).symm
          · exact g3 o1 _ e1 hl
      · exact absurd hb (Nat.ne_of_lt (hlow _ _ _ _ _ m2 a2))
    · by_cases m2 : n2 = n
      · subst m2; exact absurd (hnew _ _ _ _ a2) (Nat.ne_of_lt (hlow _ _ _ _ _ m1 a1))
      · simp only [Hp.row, if_neg m1] at e1; simp only [Hp.row, if_neg m2] at e2
        exact h.sep n1 o1 c1 n2 o2 c2 b j e1 e2 w1 (hat _ _ _ _ _ m1 a1) (hat _ _ _ _ _ m2 a2)
  · rw [World.size_alloc]
    by_cases hm : m = n
    · subst hm; rw [hself] at hq; cases hq; exact Nat.lt_succ_self _
    · rw [hoth m hm] at hq; exact Nat.lt_succ_of_lt (h.low m q hq)
  · obtain ⟨p, hp, hq⟩ := h.glob g hg
    exact ⟨p, hle _ _ hp, hq⟩
theorem Adv.alloc {P : Program} {r : Rho} {H : Hp} {w : World} (h : Rel P r H w) {n : Nat} (hn : r n = none) (G : Nat → Option Cell) (cs : Array Value) (ty : TypeId) (p : Pl) (hp : p.b = w.heap.size) :
    Adv n (n + 1) r H w (r.set n p) (H.row n G) (w.alloc (.cells cs ty)) := by
  refine ⟨Rho.le_set hn, fun m hm => if_neg (by omega), rfl, rfl, rfl, Nat.le_of_lt (by rw [World.size_alloc]; exact Nat.lt_succ_self _), fun b hb _ => Below.heap_alloc w _ _ hb, fun b hb ho => ?_⟩
  obtain ⟨m, j, c, q, k1, k2, k3, k4⟩ := ho
  by_cases hm : m = n
  · subst hm; unfold Rho.set at k3; rw [if_pos rfl] at k3; cases k3; omega
  · simp only [Hp.row, if_neg hm] at k1; simp only [Rho.set, if_neg hm] at k3; exact ⟨m, j, c, q, k1, k2, k3, k4⟩

/-- Stores one behind the other. -/
def sets (w : World) (b o : Nat) : List Value → World
  | [] => w
  | v :: vs => sets (w.setCell ⟨b, o, none⟩ v) b (o + 1) vs
def Hp.sets (H : Hp) (n o : Nat) : List AV → Hp
  | [] => H
  | v :: vs => Hp.sets (H.set n o (.rw v)) n (o + 1) vs
theorem run_sets {P : Program} (a : Addr) : ∀ (vs : List Value) (i : Nat) (w : World), a.spot = none → (∀ j, j < vs.length → (w.cell? ⟨a.block, a.off + i + j, none⟩).isSome = true) →
    (∀ j, j < vs.length → w.frozen? ⟨a.block, a.off + i + j, none⟩ = false) → (∀ v ∈ vs, v.oneCell' = true) → (storeCells a vs i).run P w = .ok () (sets w a.block (a.off + i) vs)
  | [], i, w, _, _, _, _ => by simp [storeCells, sets]
  | v :: vs, i, w, hs, h1, h2, h3 => by
    have e : a.add i = ⟨a.block, a.off + i, none⟩ := by
      unfold Addr.add; split
      · rename_i hi; subst hi; cases a; simp at hs; subst hs; rfl
      · rfl
    have c0 := h1 0 (by simp)
    have f0 := h2 0 (by simp)
    rw [Nat.add_zero] at c0 f0
    obtain ⟨u, hu⟩ := Option.isSome_iff_exists.mp c0
    simp only [storeCells, Sem.run_bind, e]
    rw [run_store P w _ v _ (h3 v (by simp)), hu, f0]
    simp only [Bool.false_eq_true, if_false, Result.andThen_ok]
    rw [run_sets a vs (i + 1) _ hs]
    · rfl
    · intro j hj
      have := h1 (j + 1) (by simpa using hj)
      rw [show a.off + (i + 1) + j = a.off + i + (j + 1) by omega]
      obtain ⟨x, hx⟩ := Option.isSome_iff_exists.mp this
      rw [World.cell?_setCell_other, hx]; · rfl
      intro ea; have := congrArg Addr.off ea; simp at this
    · intro j hj
      rw [World.frozen?_setCell, show a.off + (i + 1) + j = a.off + i + (j + 1) by omega]
      exact h2 (j + 1) (by simpa using hj)
    · exact fun v hv => h3 v (by simp [hv])

theorem Hp.set_other {H : Hp} {n o m j : Nat} {c : Cell} (h : ¬ (m = n ∧ j = o)) : H.set n o c m j = H m j := if_neg h
theorem Hp.set_self {H : Hp} {n o : Nat} {c : Cell} : H.set n o c n o = some c := if_pos ⟨rfl, rfl⟩

theorem Rel.stores {P : Program} {r : Rho} {n : Nat} {p : Pl} (hp : r n = some p) (n0 : Nat) : ∀ (vs : List AV) (vs' : List Value) (H : Hp) (w : World) (o : Nat), Rel P r H w →
    (∀ j, j < vs.length → ∃ u, H n (o + j) = some (.rw u)) → (∀ v ∈ vs, v.one = true) → RVs r vs vs' →
    Rel P r (H.sets n o vs) (sets w p.b (p.d + o) vs') ∧ Adv n0 n0 r H w r (H.sets n o vs) (sets w p.b (p.d + o) vs')
  | [], vs', H, w, o, h, _, _, hv => by rw [RVs] at hv; subst hv; exact ⟨h, .refl _ _ _ _⟩
  | v :: vs, _, H, w, o, h, h1, h2, hv => by
    rw [RVs] at hv; obtain ⟨v', vs', rfl, hv, hvs⟩ := hv
    obtain ⟨u, hu⟩ := h1 0 (by simp)
    rw [Nat.add_zero] at hu
    have hs := h.store hu (h2 v (by simp)) hv hp
    have ha := Adv.store (n0 := n0) (v := v) (v' := v') (w := w) hu hp
    have ih := Rel.stores hp n0 vs vs' (H.set n o (.rw v)) _ (o + 1) hs (fun j hj => by
      obtain ⟨x, hx⟩ := h1 (j + 1) (by simpa using hj)
      exact ⟨x, by rw [Hp.set_other (by omega), show o + 1 + j = o + (j + 1) by omega]; exact hx⟩) (fun x hx => h2 x (by simp [hx])) hvs
    rw [show p.d + (o + 1) = p.d + o + 1 by omega] at ih
    exact ⟨ih.1, ha.trans ih.2 (Nat.le_refl _) (Nat.le_refl _)⟩
theorem Rel.storable {P : Program} {r : Rho} {H : Hp} {w : World} (h : Rel P r H w) {n o : Nat} {p : Pl} (hp : r n = some p) {k : Nat} (h1 : ∀ j, j < k → ∃ u, H n (o + j) = some (.rw u)) :
    (∀ j, j < k → (w.cell? ⟨p.b, p.d + o + j, none⟩).isSome = true) ∧ (∀ j, j < k → w.frozen? ⟨p.b, p.d + o + j, none⟩ = false) := by
  refine ⟨fun j hj => ?_, fun j hj => ?_⟩ <;> obtain ⟨u, hu⟩ := h1 j hj <;> obtain ⟨_, q, v', hq, hc, _, hf⟩ := h.cell _ _ _ hu <;> rw [hp] at hq <;> cases hq
  · rw [show p.d + o + j = p.d + (o + j) by omega, hc]; rfl
  · rw [show p.d + o + j = p.d + (o + j) by omega]; exact hf

/-- A row takes a new name; its old one is given away. -/
def Hp.move (H : Hp) (n0 off L n1 : Nat) : Hp := fun m j =>
  if m = n1 then (if j ≤ L then H n0 (off + j) else none) else if m = n0 ∧ off ≤ j ∧ j ≤ off + L then some .dead else H m j
theorem Rel.move {P : Program} {r : Rho} {H : Hp} {w : World} (h : Rel P r H w) {n0 off L n1 sz cap : Nat} {p0 : Pl} (hp : r n0 = some p0) (hn : r n1 = none)
    (hrw : ∀ j, j < L → ∃ u, H n0 (off + j) = some (.rw u)) (ht : H n0 (off + L) = some (.tail sz)) (hc : off + cap * sz = p0.cap * p0.sz) :
    Rel P (r.set n1 ⟨p0.b, p0.d + off, sz, cap⟩) (H.move n0 off L n1) w ∧ Adv n1 (n1 + 1) r H w (r.set n1 ⟨p0.b, p0.d + off, sz, cap⟩) (H.move n0 off L n1) w := by
  have hne : n0 ≠ n1 := fun e => by subst e; rw [hp] at hn; cases hn
  have hle := Rho.le_set (p := ⟨p0.b, p0.d + off, sz, cap⟩) hn
  have hself : (r.set n1 ⟨p0.b, p0.d + off, sz, cap⟩) n1 = some ⟨p0.b, p0.d + off, sz, cap⟩ := by simp [Rho.set]
  have hoth : ∀ m, m ≠ n1 → (r.set n1 ⟨p0.b, p0.d + off, sz, cap⟩) m = r m := fun m hm => by simp [Rho.set, hm]
  -- each cell stands for one that was
  have back : ∀ m j c, H.move n0 off L n1 m j = some c → c = .dead ∨ ∃ m' j', H m' j' = some c ∧ (∀ b i, At (r.set n1 ⟨p0.b, p0.d + off, sz, cap⟩) m j c b i → At r m' j' c b i) ∧
      ((m = n1 ∧ m' = n0 ∧ j' = off + j ∧ j ≤ L) ∨ (m ≠ n1 ∧ m' = m ∧ j' = j ∧ ¬ (m = n0 ∧ off ≤ j ∧ j ≤ off + L))) := fun m j c ec => by
    unfold Hp.move at ec
    split at ec
    · rename_i hm; subst hm
      split at ec
      · rename_i hj
        refine .inr ⟨n0, off + j, ec, fun b i ha => ?_, .inl ⟨rfl, rfl, rfl, hj⟩⟩
        obtain ⟨p, q1, q2, q3⟩ := ha
        rw [hself] at q1; cases q1
        refine ⟨p0, hp, q2, ?_⟩
        cases c <;> simp only at q3 ⊢ <;> omega
      · cases ec
    · rename_i hm
      split at ec
      · cases ec; exact .inl rfl
      · rename_i hj
        refine .inr ⟨m, j, ec, fun b i ha => ?_, .inr ⟨hm, rfl, rfl, hj⟩⟩
        obtain ⟨p, q1, q⟩ := ha
        rw [hoth m hm] at q1; exact ⟨p, q1, q⟩
  refine ⟨⟨fun m j c ec => ?_, fun n1' o1 c1 n2 o2 c2 b j e1 e2 w1 a1 a2 => ?_, fun m q hq => ?_, fun g hg => ?_⟩, ⟨hle, fun m hm => if_neg (by omega), rfl, rfl, rfl, Nat.le_refl _, fun _ _ _ => rfl, fun b hb ho => ?_⟩⟩
  · rcases back m j c ec with rfl | ⟨m', j', hm', hat, hcase⟩
    · trivial
    · have hok := h.cell m' j' c hm'
      rcases hcase with ⟨rfl, rfl, rfl, hj⟩ | ⟨h1, rfl, rfl, h2⟩
      · by_cases hjl : j < L
        · obtain ⟨u, hu⟩ := hrw j hjl
          rw [hu] at hm'; cases hm'
          obtain ⟨k1, q, v', hq, k2, k3, k4⟩ := hok
          rw [hp] at hq; cases hq
          refine ⟨k1, _, v', hself, ?_, k3.mono hle, ?_⟩ <;> dsimp only <;> rw [Nat.add_assoc]
          · exact k2
          · exact k4
        · have : j = L := by omega
          subst this
          rw [ht] at hm'; cases hm'
          obtain ⟨q, cs, ty, hq, k1, k2, k3, k4⟩ := hok
          rw [hp] at hq; cases hq
          exact ⟨_, cs, ty, hself, rfl, k2, k3, by dsimp only; omega⟩
      · exact hok.mono hle
  · rcases back n1' o1 c1 e1 with rfl | ⟨m1, j1, hm1, hat1, hc1⟩
    · cases w1
    · rcases back n2 o2 c2 e2 with rfl | ⟨m2, j2, hm2, hat2, hc2⟩
      · obtain ⟨_, _, _, hf⟩ := a2; exact hf.elim
      · have := h.sep m1 j1 c1 m2 j2 c2 b j hm1 hm2 w1 (hat1 _ _ a1) (hat2 _ _ a2)
        rcases hc1 with ⟨x1, x2, x3, x4⟩ | ⟨x1, x2, x3, x4⟩ <;> rcases hc2 with ⟨y1, y2, y3, y4⟩ | ⟨y1, y2, y3, y4⟩ <;> omega
  · by_cases hm : m = n1
    · subst hm; rw [hself] at hq; cases hq; exact h.low n0 p0 hp
    · rw [hoth m hm] at hq; exact h.low m q hq
  · obtain ⟨p, hp, hq⟩ := h.glob g hg; exact ⟨p, hle _ _ hp, hq⟩
  · obtain ⟨m, j, c, q, k1, k2, k3, k4⟩ := ho
    rcases back m j c k1 with rfl | ⟨m', j', hm', hat, hcase⟩
    · cases k2
    · rcases hcase with ⟨rfl, rfl, rfl, hj⟩ | ⟨h1, rfl, rfl, h2⟩
      · rw [hself] at k3; cases k3; exact ⟨_, _, c, p0, hm', k2, hp, k4⟩
      · rw [hoth _ h1] at k3; exact ⟨_, _, c, q, hm', k2, k3, k4⟩

/-- One element more behind a row that grows. -/
def Hp.push (H : Hp) (n L sz : Nat) (v : AV) : Hp := (H.set n L (.rw v)).set n (L + 1) (.tail sz)
theorem Rel.push {P : Program} {r : Rho} {H : Hp} {w : World} (h : Rel P r H w) {n L sz : Nat} {p : Pl} (hp : r n = some p) (ht : H n L = some (.tail sz)) {v : AV} {v' : Value}
    (h1 : v.one = true) (hv : RV r v v') (hroom : L < p.cap * p.sz) :
    Rel P r (H.push n L sz v) (w.setCell ⟨p.b, p.d + L, none⟩ v') ∧ (∀ n0, Adv n0 n0 r H w r (H.push n L sz v) (w.setCell ⟨p.b, p.d + L, none⟩ v')) ∧
      (w.cell? ⟨p.b, p.d + L, none⟩).isSome = true ∧ w.frozen? ⟨p.b, p.d + L, none⟩ = false := by
  obtain ⟨p', cs, ty, hp', hsz, hpos, hblk, hfit⟩ := h.cell n L _ ht
  rw [hp] at hp'; cases hp'
  have hin : p.d + L < cs.size := by omega
  have hcell : w.cell? ⟨p.b, p.d + L, none⟩ = some cs[p.d + L] := by simp only [World.cell?, hblk]; simp [hin]
  have hfr : ∀ o, w.frozen? ⟨p.b, o, none⟩ = false := fun o => by simp only [World.frozen?, hblk]; simp
  -- no other cell lies there
  have hsep : ∀ m j c i, H m j = some c → ¬ (m = n ∧ j = L) → p.d + L ≤ i → ¬ At r m j c p.b i := fun m j c i e hne hi ha => by
    have := h.sep n L _ m j c p.b i ht e rfl ⟨p, hp, rfl, hi⟩ ha
    exact hne ⟨this.1.symm, this.2.symm⟩
  have get : ∀ m j c, H.push n L sz v m j = some c → (m = n ∧ j = L + 1 ∧ c = .tail sz) ∨ (m = n ∧ j = L ∧ c = .rw v) ∨ (H m j = some c ∧ ¬ (m = n ∧ j = L) ∧ ¬ (m = n ∧ j = L + 1)) := fun m j c ec => by
    unfold Hp.push Hp.set at ec
    split at ec
    · rename_i hx; cases ec; exact .inl ⟨hx.1, hx.2, rfl⟩
    · rename_i hx1
      split at ec
      · rename_i hx; cases ec; exact .inr (.inl ⟨hx.1, hx.2, rfl⟩)
      · rename_i hx2; exact .inr (.inr ⟨ec, hx2, hx1⟩)
  refine ⟨⟨fun m j c ec => ?_, fun n1 o1 c1 n2 o2 c2 b j e1 e2 w1 a1 a2 => ?_, fun m q hq => by rw [World.size_setCell]; exact h.low m q hq, h.glob⟩, fun n0 => ⟨.refl r, fun _ _ => rfl, rfl, rfl, rfl, by simp, fun b hb hno => ?_, fun b hb ho => ?_⟩, by rw [hcell]; rfl, hfr _⟩
  · rcases get m j c ec with ⟨rfl, rfl, rfl⟩ | ⟨rfl, rfl, rfl⟩ | ⟨e0, hne, hne2⟩
    · obtain ⟨cs', k1, k2⟩ := heap_setCell_some (a := ⟨p.b, p.d + L, none⟩) (v := v') hblk
      exact ⟨p, cs', ty, hp, hsz, hpos, k1, by rw [k2]; exact hfit⟩
    · exact ⟨h1, p, v', hp, World.cell?_setCell_same _ _ _ hcell, hv, by rw [World.frozen?_setCell]; exact hfr _⟩
    · have hok := h.cell m j c e0
      cases c with
      | dead => trivial
      | ro x =>
        obtain ⟨h2, q, x', hq, hcx, hr⟩ := hok
        refine ⟨h2, q, x', hq, ?_, hr⟩
        rw [World.cell?_setCell_other]; exact hcx
        intro ea; exact hsep m j _ _ e0 hne (Nat.le_refl _) ⟨q, hq, congrArg Addr.block ea, congrArg Addr.off ea⟩
      | rw x =>
        obtain ⟨h2, q, x', hq, hcx, hr, hfx⟩ := hok
        refine ⟨h2, q, x', hq, ?_, hr, by rw [World.frozen?_setCell]; exact hfx⟩
        rw [World.cell?_setCell_other]; exact hcx
        intro ea; exact hsep m j _ _ e0 hne (Nat.le_refl _) ⟨q, hq, congrArg Addr.block ea, congrArg Addr.off ea⟩
      | tail sz' =>
        obtain ⟨q, cs2, ty2, hq, g1, g2, g3, g4⟩ := hok
        obtain ⟨cs', k1, k2⟩ := heap_setCell_some (a := ⟨p.b, p.d + L, none⟩) (v := v') g3
        exact ⟨q, cs', ty2, hq, g1, g2, k1, by rw [k2]; exact g4⟩
  · -- each of the two new ones lies where the old end lay
    have at1 : ∀ m j c i b, ((m = n ∧ j = L + 1 ∧ c = .tail sz) ∨ (m = n ∧ j = L ∧ c = .rw v)) → At r m j c b i → b = p.b ∧ p.d + L ≤ i := fun m j c i b hx ha => by
      obtain ⟨q, hq, hb, hi⟩ := ha
      rcases hx with ⟨rfl, rfl, rfl⟩ | ⟨rfl, rfl, rfl⟩ <;> rw [hp] at hq <;> cases hq <;> simp only at hi <;> exact ⟨hb, by omega⟩
    have both : ∀ m1 j1 c1 m2 j2 c2 i b, ((m1 = n ∧ j1 = L + 1 ∧ c1 = .tail sz) ∨ (m1 = n ∧ j1 = L ∧ c1 = .rw v)) → ((m2 = n ∧ j2 = L + 1 ∧ c2 = .tail sz) ∨ (m2 = n ∧ j2 = L ∧ c2 = .rw v)) →
        At r m1 j1 c1 b i → At r m2 j2 c2 b i → m1 = m2 ∧ j1 = j2 := fun m1 j1 c1 m2 j2 c2 i b hx hy ha hb => by
      obtain ⟨q, hq, _, hi⟩ := ha
      obtain ⟨q', hq', _, hi'⟩ := hb
      rcases hx with ⟨rfl, rfl, rfl⟩ | ⟨rfl, rfl, rfl⟩ <;> rcases hy with ⟨rfl, rfl, rfl⟩ | ⟨rfl, rfl, rfl⟩ <;> rw [hp] at hq hq' <;> cases hq <;> cases hq' <;> simp only at hi hi' <;> first | exact ⟨rfl, rfl⟩ | omega
    rcases get n1 o1 c1 e1 with x | x | ⟨x, xn, xn2⟩ <;> rcases get n2 o2 c2 e2 with y | y | ⟨y, yn, yn2⟩
    · exact both _ _ _ _ _ _ _ _ (.inl x) (.inl y) a1 a2
    · exact both _ _ _ _ _ _ _ _ (.inl x) (.inr y) a1 a2
    · obtain ⟨rfl, hi⟩ := at1 _ _ _ _ _ (.inl x) a1; exact absurd a2 (hsep _ _ _ _ y yn hi)
    · exact both _ _ _ _ _ _ _ _ (.inr x) (.inl y) a1 a2
    · exact both _ _ _ _ _ _ _ _ (.inr x) (.inr y) a1 a2
    · obtain ⟨rfl, hi⟩ := at1 _ _ _ _ _ (.inr x) a1; exact absurd a2 (hsep _ _ _ _ y yn hi)
    · obtain ⟨rfl, hi⟩ := at1 _ _ _ _ _ (.inl y) a2; exact absurd a1 (hsep _ _ _ _ x xn hi)
    · obtain ⟨rfl, hi⟩ := at1 _ _ _ _ _ (.inr y) a2; exact absurd a1 (hsep _ _ _ _ x xn hi)
    · exact h.sep n1 o1 c1 n2 o2 c2 b j x y w1 a1 a2
  · exact Below.heap_setCell _ _ _ _ fun he => hno ⟨n, L, _, p, ht, rfl, hp, he.symm⟩
  · obtain ⟨m, j, c, q, k1, k2, k3, k4⟩ := ho
    rcases get m j c k1 with ⟨rfl, rfl, rfl⟩ | ⟨rfl, rfl, rfl⟩ | ⟨e0, _⟩
    · exact ⟨_, _, _, q, ht, rfl, k3, k4⟩
    · exact ⟨_, _, _, q, ht, rfl, k3, k4⟩
    · exact ⟨m, j, c, q, e0, k2, k3, k4⟩
end Go.Proofs.YtaoanbebgeeicaaGreatDoor.G
