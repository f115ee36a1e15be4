/- Shorter words still: steps whose small conditions are shown where they are used; no conditions. -/
import Derived.Test.YtnkckdbjeemjeaaGreatDoorSq
import Derived.Test.YtnkckdbjeemjeaaGreatDoorWLast
import Derived.Test.YtnkckdbjeemjeaaGreatDoorWTab
import Derived.Test.YtnkckdbjeemjeaaGreatDoorWMore
namespace Go.Proofs.YtnkckdbjeemjeaaGreatDoor.H
open Go.Proofs.YtnkckdbjeemjeaaGreatDoor.Flt Go.RowKit Go.Proofs.YtnkckdbjeemjeaaGreatDoorW.PrintWords Go.Proofs.YtnkckdbjeemjeaaGreatDoorW.PrintLast Go.Proofs.YtnkckdbjeemjeaaGreatDoorW.PrintMore
set_option linter.unusedVariables false
/-- The world now, by what is held of it. -/
theorem bH {p : Prop} (h : p := by repeat (first | (with_reducible first | exact HB.out | apply bA | apply bN | apply bD | refine bS ?_ (by assumption)) | exact HB.out)) : p := h
theorem rE {p : Prop} (h : p := by first | rfl | (simp [errW_none, errW_some] <;> rfl) | (simp [*, errW_none, errW_some] <;> rfl)) : p := h
theorem nK {p : Prop} (h : p := by first | exact Kd.R_nil _ _ _ _ _ | exact Kd.N_nil _ _ _ _ _ | exact Kd.V_nil _ _ _ _ _ | exact Kd.Q_nil _ _ _ _ _ | exact Kd.S_nil _ _ _ _ _) : p := h
section
variable {α : Type} {d : Kd α} {e : Nat} {w W W' : World} {base : Nat} {ok : Nat → Prop} {v : Value} {xs : List α} {g : Nat} {o : Obj}
theorem rB (h : Aside0 (Kd.R d e w base ok v xs)) (hb : Below W.heap.size W W') [u : Up w W] : Aside0 (Kd.R d e W' base ok v xs) := mk0 (Kd.R_below (uR h.out) hb)
theorem vB (h : Aside0 (Kd.V d e w base ok v xs)) (hb : Below W.heap.size W W') [u : Up w W] : Aside0 (Kd.V d e W' base ok v xs) := mk0 (Kd.V_below (uV h.out) hb)
theorem nB (h : Aside0 (Kd.N d e w base ok v xs)) (hb : Below W.heap.size W W') [u : Up w W] : Aside0 (Kd.N d e W' base ok v xs) := mk0 (Kd.N_below (uN h.out) hb)
theorem bB (h : Aside0 (w.heap[g]? = some o)) (hb : Below W.heap.size W W') [u : Up w W] : Aside0 (W'.heap[g]? = some o) := mk0 (blk_below (uB h.out) hb)
theorem uC {A : Option Addr} {n : Nat} (h : Kd.C d w A n xs) [u : Up w W] : Kd.C d W A n xs := Kd.C_below h u.below
theorem hbB {w0 : World} (h : Below w0.heap.size w0 W) (hb : Below W.heap.size W W') : Aside0 (Below w0.heap.size w0 W') := mk0 (below_step h hb)
theorem nL {g' : Nat} (h : Aside0 (w.heap[g]? = some o)) (hg : g' = W.heap.size) [u : Up w W] : Aside0 (g ≠ g') := mk0 (by rw [hg]; exact Nat.ne_of_lt (blk_lt (uB h.out)))
theorem nG {g' : Nat} (h : Aside0 (w.heap[g]? = some o)) (hg : g' = W.heap.size) [u : Up w W] : Aside0 (g' ≠ g) := mk0 (by rw [hg]; exact Nat.ne_of_gt (blk_lt (uB h.out)))
theorem gE {w0 : World} {g' : Nat} (h : Below w0.heap.size w0 W) (hg : g' = W.heap.size) : Aside0 (w0.heap.size ≤ g') := mk0 (by rw [hg]; exact below_size h)
end
section
variable {w : World} {g t : Nat} {a b c d e f a1 b1 : Value}
theorem cL1 (h : Aside0 (w.heap[g]? = some (.cells #[a] t (0, 0)))) : w.cell? ⟨g, 0, none⟩ = some a ∧ w.frozen? ⟨g, 0, none⟩ = false := ⟨blk_cell h.out 0, blk_frozen h.out 0⟩
theorem cL2 (h : Aside0 (w.heap[g]? = some (.cells #[a, b] t (0, 0)))) : w.cell? ⟨g, 0, none⟩ = some a ∧ w.cell? ⟨g, 1, none⟩ = some b ∧ w.frozen? ⟨g, 0, none⟩ = false ∧ w.frozen? ⟨g, 1, none⟩ = false := ⟨blk_cell h.out 0, blk_cell h.out 1, blk_frozen h.out 0, blk_frozen h.out 1⟩
theorem cL3 (h : Aside0 (w.heap[g]? = some (.cells #[a, b, c] t (0, 0)))) : w.cell? ⟨g, 0, none⟩ = some a ∧ w.cell? ⟨g, 1, none⟩ = some b ∧ w.cell? ⟨g, 2, none⟩ = some c ∧ w.frozen? ⟨g, 0, none⟩ = false ∧ w.frozen? ⟨g, 1, none⟩ = false ∧ w.frozen? ⟨g, 2, none⟩ = false := ⟨blk_cell h.out 0, blk_cell h.out 1, blk_cell h.out 2, blk_frozen h.out 0, blk_frozen h.out 1, blk_frozen h.out 2⟩
theorem cL4 (h : Aside0 (w.heap[g]? = some (.cells #[a, b, c, d] t (0, 0)))) : w.cell? ⟨g, 0, none⟩ = some a ∧ w.cell? ⟨g, 1, none⟩ = some b ∧ w.cell? ⟨g, 2, none⟩ = some c ∧ w.cell? ⟨g, 3, none⟩ = some d ∧ w.frozen? ⟨g, 0, none⟩ = false ∧ w.frozen? ⟨g, 1, none⟩ = false ∧ w.frozen? ⟨g, 2, none⟩ = false ∧ w.frozen? ⟨g, 3, none⟩ = false := ⟨blk_cell h.out 0, blk_cell h.out 1, blk_cell h.out 2, blk_cell h.out 3, blk_frozen h.out 0, blk_frozen h.out 1, blk_frozen h.out 2, blk_frozen h.out 3⟩
end
section
variable {P : Program} {ops : Array Oper} {Q : Exit → Act → World → Prop} {md : Region.Mode} {S : World → Prop} {ds : List Nat} {T : Bool × List (List Nat × List Nat)} {B : List Nat}
/-- What has come up: a number's bits. -/
def bts (n m : Nat) : Array Bool := ((List.range n).map fun i => m.testBit i).toArray
theorem pA (i : Nat) (N : Option Tmp) (m n m' : Nat) {oi : Oper} {v : Value} {fuel : Nat} {a : Act} {w : World} {a' : Act} (HT : Aside0 (rtab md ops = T))
    (h : wpAnyLast P md ops Q S ds fuel (bts n m') a' w)
    (hi : ops[i]? = some oi := by exact rfl) (hN : oi.dst = N := by exact rfl) (hc : anyT T (bts n m).toList (bts n m').toList i = true := by kernel_rfl)
    (hQ : ∀ c a w, Q (.panic c) (a.put oi.dst v) w → Q (.panic c) a w := by exact fun _ _ _ h => h)
    (hy : Yields P ops oi v a := by (refine Or.inl ⟨by rfl, ?_⟩; intro w'; go_simp; with_reducible rfl))
    (ha : a.put N v = a' := by (simp only [Act.put, List.setIfInBounds_toArray, List.set_cons_zero, List.set_cons_succ, i64_w, i32_w]; rfl)) : wpAnyLast P md ops Q S ds (fuel + 1) (bts n m) a w :=
  pure_ _ hi hN (any_of HT.out hc) hQ hy ha h
theorem pU (i : Nat) (N : Option Tmp) (m n m' : Nat) {oi : Oper} {fuel : Nat} {a : Act} {w : World} {a' : Act} (HT : Aside0 (rtab md ops = T))
    (h : wpAnyLast P md ops Q S ds fuel (bts n m') a' w)
    (hi : ops[i]? = some oi := by exact rfl) (hN : oi.dst = N := by exact rfl) (hc : anyT T (bts n m).toList (bts n m').toList i = true := by kernel_rfl)
    (hQ : ∀ c a w, Q (.panic c) (a.put oi.dst undef) w → Q (.panic c) a w := by exact fun _ _ _ h => h)
    (hy : Yields P ops oi undef a := by exact Or.inr ⟨by rfl, rfl⟩)
    (ha : a.put N undef = a' := by (simp only [Act.put, List.setIfInBounds_toArray, List.set_cons_zero, List.set_cons_succ, i64_w, i32_w]; rfl)) : wpAnyLast P md ops Q S ds (fuel + 1) (bts n m) a w :=
  pure_ _ hi hN (any_of HT.out hc) hQ hy ha h
theorem tA1 (i : Nat) (N : Option Tmp) (m n m' : Nat) {oi : Oper} {v : Value} {fuel : Nat} {a : Act} {w : World} {a' : Act} (HT : Aside0 (rtab md ops = T)) (HW : Aside0 (waitsOk T.2 B = true)) (hS : S w)
    (h : wpAnyLast P md ops Q S ds fuel (bts n m') a' w)
    (hi : ops[i]? = some oi := by exact rfl) (hN : oi.dst = N := by exact rfl) (hc : takeW T B ds (bts n m).toList (bts n m').toList i = true := by kernel_rfl)
    (hQ : ∀ c a w, Q (.panic c) (a.put oi.dst v) w → Q (.panic c) a w := by exact fun _ _ _ h => h)
    (hy : YieldsIf P ops S oi v a := by (refine Or.inl ⟨by rfl, ?_⟩; rintro w' s0; go_simp; with_reducible rfl))
    (ha : a.put N v = a' := by (simp only [Act.put, List.setIfInBounds_toArray, List.set_cons_zero, List.set_cons_succ, i64_w, i32_w]; rfl)) : wpAnyLast P md ops Q S ds (fuel + 1) (bts n m) a w :=
  take_ _ hi hN (take_ofW HT.out HW.out hc) hQ hy hS ha h
theorem tA2 (i : Nat) (N : Option Tmp) (m n m' : Nat) {oi : Oper} {v : Value} {fuel : Nat} {a : Act} {w : World} {a' : Act} (HT : Aside0 (rtab md ops = T)) (HW : Aside0 (waitsOk T.2 B = true)) (hS : S w)
    (h : wpAnyLast P md ops Q S ds fuel (bts n m') a' w)
    (hi : ops[i]? = some oi := by exact rfl) (hN : oi.dst = N := by exact rfl) (hc : takeW T B ds (bts n m).toList (bts n m').toList i = true := by kernel_rfl)
    (hQ : ∀ c a w, Q (.panic c) (a.put oi.dst v) w → Q (.panic c) a w := by exact fun _ _ _ h => h)
    (hy : YieldsIf P ops S oi v a := by (refine Or.inl ⟨by rfl, ?_⟩; rintro w' ⟨s0, s1⟩; go_simp; with_reducible rfl))
    (ha : a.put N v = a' := by (simp only [Act.put, List.setIfInBounds_toArray, List.set_cons_zero, List.set_cons_succ, i64_w, i32_w]; rfl)) : wpAnyLast P md ops Q S ds (fuel + 1) (bts n m) a w :=
  take_ _ hi hN (take_ofW HT.out HW.out hc) hQ hy hS ha h
theorem tA3 (i : Nat) (N : Option Tmp) (m n m' : Nat) {oi : Oper} {v : Value} {fuel : Nat} {a : Act} {w : World} {a' : Act} (HT : Aside0 (rtab md ops = T)) (HW : Aside0 (waitsOk T.2 B = true)) (hS : S w)
    (h : wpAnyLast P md ops Q S ds fuel (bts n m') a' w)
    (hi : ops[i]? = some oi := by exact rfl) (hN : oi.dst = N := by exact rfl) (hc : takeW T B ds (bts n m).toList (bts n m').toList i = true := by kernel_rfl)
    (hQ : ∀ c a w, Q (.panic c) (a.put oi.dst v) w → Q (.panic c) a w := by exact fun _ _ _ h => h)
    (hy : YieldsIf P ops S oi v a := by (refine Or.inl ⟨by rfl, ?_⟩; rintro w' ⟨s0, s1, s2⟩; go_simp; with_reducible rfl))
    (ha : a.put N v = a' := by (simp only [Act.put, List.setIfInBounds_toArray, List.set_cons_zero, List.set_cons_succ, i64_w, i32_w]; rfl)) : wpAnyLast P md ops Q S ds (fuel + 1) (bts n m) a w :=
  take_ _ hi hN (take_ofW HT.out HW.out hc) hQ hy hS ha h
theorem tA4 (i : Nat) (N : Option Tmp) (m n m' : Nat) {oi : Oper} {v : Value} {fuel : Nat} {a : Act} {w : World} {a' : Act} (HT : Aside0 (rtab md ops = T)) (HW : Aside0 (waitsOk T.2 B = true)) (hS : S w)
    (h : wpAnyLast P md ops Q S ds fuel (bts n m') a' w)
    (hi : ops[i]? = some oi := by exact rfl) (hN : oi.dst = N := by exact rfl) (hc : takeW T B ds (bts n m).toList (bts n m').toList i = true := by kernel_rfl)
    (hQ : ∀ c a w, Q (.panic c) (a.put oi.dst v) w → Q (.panic c) a w := by exact fun _ _ _ h => h)
    (hy : YieldsIf P ops S oi v a := by (refine Or.inl ⟨by rfl, ?_⟩; rintro w' ⟨s0, s1, s2, s3⟩; go_simp; with_reducible rfl))
    (ha : a.put N v = a' := by (simp only [Act.put, List.setIfInBounds_toArray, List.set_cons_zero, List.set_cons_succ, i64_w, i32_w]; rfl)) : wpAnyLast P md ops Q S ds (fuel + 1) (bts n m) a w :=
  take_ _ hi hN (take_ofW HT.out HW.out hc) hQ hy hS ha h
theorem tA5 (i : Nat) (N : Option Tmp) (m n m' : Nat) {oi : Oper} {v : Value} {fuel : Nat} {a : Act} {w : World} {a' : Act} (HT : Aside0 (rtab md ops = T)) (HW : Aside0 (waitsOk T.2 B = true)) (hS : S w)
    (h : wpAnyLast P md ops Q S ds fuel (bts n m') a' w)
    (hi : ops[i]? = some oi := by exact rfl) (hN : oi.dst = N := by exact rfl) (hc : takeW T B ds (bts n m).toList (bts n m').toList i = true := by kernel_rfl)
    (hQ : ∀ c a w, Q (.panic c) (a.put oi.dst v) w → Q (.panic c) a w := by exact fun _ _ _ h => h)
    (hy : YieldsIf P ops S oi v a := by (refine Or.inl ⟨by rfl, ?_⟩; rintro w' ⟨s0, s1, s2, s3, s4⟩; go_simp; with_reducible rfl))
    (ha : a.put N v = a' := by (simp only [Act.put, List.setIfInBounds_toArray, List.set_cons_zero, List.set_cons_succ, i64_w, i32_w]; rfl)) : wpAnyLast P md ops Q S ds (fuel + 1) (bts n m) a w :=
  take_ _ hi hN (take_ofW HT.out HW.out hc) hQ hy hS ha h
theorem tA6 (i : Nat) (N : Option Tmp) (m n m' : Nat) {oi : Oper} {v : Value} {fuel : Nat} {a : Act} {w : World} {a' : Act} (HT : Aside0 (rtab md ops = T)) (HW : Aside0 (waitsOk T.2 B = true)) (hS : S w)
    (h : wpAnyLast P md ops Q S ds fuel (bts n m') a' w)
    (hi : ops[i]? = some oi := by exact rfl) (hN : oi.dst = N := by exact rfl) (hc : takeW T B ds (bts n m).toList (bts n m').toList i = true := by kernel_rfl)
    (hQ : ∀ c a w, Q (.panic c) (a.put oi.dst v) w → Q (.panic c) a w := by exact fun _ _ _ h => h)
    (hy : YieldsIf P ops S oi v a := by (refine Or.inl ⟨by rfl, ?_⟩; rintro w' ⟨s0, s1, s2, s3, s4, s5⟩; go_simp; with_reducible rfl))
    (ha : a.put N v = a' := by (simp only [Act.put, List.setIfInBounds_toArray, List.set_cons_zero, List.set_cons_succ, i64_w, i32_w]; rfl)) : wpAnyLast P md ops Q S ds (fuel + 1) (bts n m) a w :=
  take_ _ hi hN (take_ofW HT.out HW.out hc) hQ hy hS ha h
theorem tA7 (i : Nat) (N : Option Tmp) (m n m' : Nat) {oi : Oper} {v : Value} {fuel : Nat} {a : Act} {w : World} {a' : Act} (HT : Aside0 (rtab md ops = T)) (HW : Aside0 (waitsOk T.2 B = true)) (hS : S w)
    (h : wpAnyLast P md ops Q S ds fuel (bts n m') a' w)
    (hi : ops[i]? = some oi := by exact rfl) (hN : oi.dst = N := by exact rfl) (hc : takeW T B ds (bts n m).toList (bts n m').toList i = true := by kernel_rfl)
    (hQ : ∀ c a w, Q (.panic c) (a.put oi.dst v) w → Q (.panic c) a w := by exact fun _ _ _ h => h)
    (hy : YieldsIf P ops S oi v a := by (refine Or.inl ⟨by rfl, ?_⟩; rintro w' ⟨s0, s1, s2, s3, s4, s5, s6⟩; go_simp; with_reducible rfl))
    (ha : a.put N v = a' := by (simp only [Act.put, List.setIfInBounds_toArray, List.set_cons_zero, List.set_cons_succ, i64_w, i32_w]; rfl)) : wpAnyLast P md ops Q S ds (fuel + 1) (bts n m) a w :=
  take_ _ hi hN (take_ofW HT.out HW.out hc) hQ hy hS ha h
theorem tA8 (i : Nat) (N : Option Tmp) (m n m' : Nat) {oi : Oper} {v : Value} {fuel : Nat} {a : Act} {w : World} {a' : Act} (HT : Aside0 (rtab md ops = T)) (HW : Aside0 (waitsOk T.2 B = true)) (hS : S w)
    (h : wpAnyLast P md ops Q S ds fuel (bts n m') a' w)
    (hi : ops[i]? = some oi := by exact rfl) (hN : oi.dst = N := by exact rfl) (hc : takeW T B ds (bts n m).toList (bts n m').toList i = true := by kernel_rfl)
    (hQ : ∀ c a w, Q (.panic c) (a.put oi.dst v) w → Q (.panic c) a w := by exact fun _ _ _ h => h)
    (hy : YieldsIf P ops S oi v a := by (refine Or.inl ⟨by rfl, ?_⟩; rintro w' ⟨s0, s1, s2, s3, s4, s5, s6, s7⟩; go_simp; with_reducible rfl))
    (ha : a.put N v = a' := by (simp only [Act.put, List.setIfInBounds_toArray, List.set_cons_zero, List.set_cons_succ, i64_w, i32_w]; rfl)) : wpAnyLast P md ops Q S ds (fuel + 1) (bts n m) a w :=
  take_ _ hi hN (take_ofW HT.out HW.out hc) hQ hy hS ha h
theorem tA9 (i : Nat) (N : Option Tmp) (m n m' : Nat) {oi : Oper} {v : Value} {fuel : Nat} {a : Act} {w : World} {a' : Act} (HT : Aside0 (rtab md ops = T)) (HW : Aside0 (waitsOk T.2 B = true)) (hS : S w)
    (h : wpAnyLast P md ops Q S ds fuel (bts n m') a' w)
    (hi : ops[i]? = some oi := by exact rfl) (hN : oi.dst = N := by exact rfl) (hc : takeW T B ds (bts n m).toList (bts n m').toList i = true := by kernel_rfl)
    (hQ : ∀ c a w, Q (.panic c) (a.put oi.dst v) w → Q (.panic c) a w := by exact fun _ _ _ h => h)
    (hy : YieldsIf P ops S oi v a := by (refine Or.inl ⟨by rfl, ?_⟩; rintro w' ⟨s0, s1, s2, s3, s4, s5, s6, s7, s8⟩; go_simp; with_reducible rfl))
    (ha : a.put N v = a' := by (simp only [Act.put, List.setIfInBounds_toArray, List.set_cons_zero, List.set_cons_succ, i64_w, i32_w]; rfl)) : wpAnyLast P md ops Q S ds (fuel + 1) (bts n m) a w :=
  take_ _ hi hN (take_ofW HT.out HW.out hc) hQ hy hS ha h
end
section
variable {P : Program} {ops : Array Oper} {rest : List Oper} {o : Oper} {a : Act} {Q : Exit → Act → World → Prop}
theorem bxE {W : World} (N : Tmp) (cs : Array Value) (t : TypeId)
    (h : ∀ g, g = W.heap.size → ∀ w1, w1.heap[g]? = some (.cells cs t (0, 0)) → Below W.heap.size W w1 → wpList P ops Q rest (a.put o.dst (.pointer (some ⟨g, 0, none⟩))) w1)
    (hgd : o.guard = none := by rfl) (hd : o.dst = some N := by rfl)
    (hrun : (execOp a.eval o).run P W = .ok (.value (.pointer (some ⟨W.heap.size, 0, none⟩))) (W.alloc (.cells cs t (0, 0))) := by first | (go_simp; done) | (go_simp; rfl)) : wpList P ops Q (o :: rest) a W :=
  box_event hgd hd hrun h
theorem gsM {oi : Oper} {w : World} (N : Option Tmp) {f : FuncId} {fn : Func} (hf : P.funcs[f]? = some fn) (args : Array Value) {as_ : Array Operand} {ts : Array TypeId}
    (h : Calls P f args w fun e w' => ∃ v, e = .returned v ∧ wpList P ops Q rest (a.put N v) w')
    (hd : oi.dst = N := by rfl) (hg : oi.guard = none := by rfl) (hname : (fn.name == "runtime.NumGoroutine") = false := by kernel_rfl) (hb : fn.body.isSome = true := by rfl)
    (hop : oi.op = .call { callee := .value (.func f), args := as_, argTypes := ts } := by rfl) (hargs : as_.map a.eval = args := by ((try simp only [Act.put, List.setIfInBounds_toArray, List.set_cons_zero, List.set_cons_succ]); (try simp only [List.map_toArray, List.map_cons, List.map_nil]); first | done | rfl | (simp only [List.length_drop, List.length_take]; rfl))) : wpList P ops Q (oi :: rest) a w :=
  goesL_ N hd hg hf hname hb args hop hargs h
end
section
variable {α : Type} {d : Kd α} {e : Nat} {w W W' : World} {base : Nat} {ok ok' : Nat → Prop} {v : Value} {xs : List α} {g : Nat} {o : Obj}
theorem gB {row : Option Nat} (h : Aside0 (w.heap[g]? = some o)) (hg : W.grownBy W' row) (hne : some g ≠ row) [u : Up w W] : Aside0 (W'.heap[g]? = some o) := mk0 (blk_grown (uB h.out) hg hne)
theorem fB {k : Nat} (h : Aside0 (w.heap[g]? = some o)) (hk : W.heap.size ≤ k) [u : Up w W] : k ≠ g := Kd.freshB (uB h.out) k hk
theorem vP (h : Aside0 (Kd.V d e w base ok v xs)) (hm : ∀ k, ok k → ok' k := by intro _ hk; simp only [hk, ne_eq, not_false_eq_true, and_self]) : Kd.V d e w base ok' v xs := Kd.V_mono h.out hm
theorem nP (h : Aside0 (Kd.N d e w base ok v xs)) (hm : ∀ k, ok k → ok' k := by intro _ hk; simp only [hk, ne_eq, not_false_eq_true, and_self]) : Kd.N d e w base ok' v xs := Kd.N_mono h.out hm
theorem rP (h : Aside0 (Kd.R d e w base ok v xs)) (hm : ∀ k, ok k → ok' k := by intro _ hk; simp only [hk, ne_eq, not_false_eq_true, and_self]) : Kd.R d e w base ok' v xs := Kd.R_mono h.out hm
theorem vF (p : Addr) (x : Value) (h : Aside0 (Kd.V d e w base ok v xs)) (hn : ∀ k, ok k → k ≠ p.block := by intro _ hk; simp only [hk, ne_eq, not_false_eq_true]) (hm : ∀ k, ok k → ok' k := by intro _ hk; simp only [hk, ne_eq, not_false_eq_true, and_self]) : Kd.V d e (w.setCell p x) base ok' v xs := Kd.V_mono (Kd.V_far h.out hn x) hm
theorem nF (p : Addr) (x : Value) (h : Aside0 (Kd.N d e w base ok v xs)) (hn : ∀ k, ok k → k ≠ p.block := by intro _ hk; simp only [hk, ne_eq, not_false_eq_true]) (hm : ∀ k, ok k → ok' k := by intro _ hk; simp only [hk, ne_eq, not_false_eq_true, and_self]) : Kd.N d e (w.setCell p x) base ok' v xs := Kd.N_mono (Kd.N_far h.out hn x) hm
end
section
variable {P : Program} {ops : Array Oper} {rest : List Oper} {o o2 : Oper} {a : Act} {Q : Exit → Act → World → Prop}
/-- A variable's block: laid, and stored into at once. -/
theorem bxS {W : World} (N : Tmp) (cs : Array Value) (t : TypeId) {zs : Array Value}
    (h : ∀ g, g = W.heap.size → ∀ w1, w1.heap[g]? = some (.cells cs t (0, 0)) → Below W.heap.size W w1 → wpList P ops Q rest (a.put o.dst (.pointer (some ⟨g, 0, none⟩))) w1)
    (hgd : o.guard = none := by rfl) (hd : o.dst = some N := by rfl) (hgd2 : o2.guard = none := by rfl) (hd2 : o2.dst = none := by rfl)
    (hrun : (execOp a.eval o).run P W = .ok (.value (.pointer (some ⟨W.heap.size, 0, none⟩))) (W.alloc (.cells zs t (0, 0))) := by first | (go_simp; done) | (go_simp; rfl))
    (hrun2 : (execOp (a.put o.dst (.pointer (some ⟨W.heap.size, 0, none⟩))).eval o2).run P (W.alloc (.cells zs t (0, 0))) = .ok .skip (W.alloc (.cells cs t (0, 0))) := by ((try simp only [Act.put, List.setIfInBounds_toArray, List.set_cons_zero, List.set_cons_succ]); first | (go_simp; done) | (go_simp; rfl))) : wpList P ops Q (o :: o2 :: rest) a W :=
  Kd.event_run hgd hrun (by
    refine wpList_plain hgd2 fun K hK => ?_
    unfold Oper.wp
    rw [hrun2]
    refine hK _ _ ?_
    rw [hd2]
    exact h _ rfl _ (blk_new W _) (below_alloc (Below.refl _ _) _))
end
section
variable {P : Program} {ops : Array Oper} {Q : Exit → Act → World → Prop} {md : Region.Mode} {S : World → Prop} {ds : List Nat}
theorem nmX {fuel : Nat} {l : Array Bool} {a a' : Act} {w : World} (h : wpAnyLast P md ops Q S ds fuel l a' w) (ha : a = a' := by first | (simp only [putAll, Act.put, List.setIfInBounds_toArray, List.set_cons_zero, List.set_cons_succ]; done) | (simp only [putAll, Act.put, List.setIfInBounds_toArray, List.set_cons_zero, List.set_cons_succ]; rfl) | (simp only [putAll, Act.put, List.setIfInBounds_toArray, List.set_cons_zero, List.set_cons_succ, *]; done)) : wpAnyLast P md ops Q S ds fuel l a w := norm_ ha h
end
section
variable {α : Type} {d : Kd α} {e : Nat} {w W w1 : World} {base : Nat} {ok : Nat → Prop} {u v v1 : Value} {xs : List α}
theorem vA (h : Aside0 (Kd.V d e w base ok u xs)) (hg : W.grownBy w1 v.ownBlock) (hat : v1.ownBlock = v.ownBlock ∨ ∃ b, v1.ownBlock = some b ∧ W.heap.size ≤ b) [i : Up w W] (hn : ∀ k, ok k → some k ≠ v.ownBlock := by intro _ hk; simp only [hk, ne_eq, not_false_eq_true]) : Aside0 (Kd.V d e w1 base (fun k => ok k ∧ some k ≠ v1.ownBlock) u xs) := mk0 (Kd.V_afterv (uV (Kd.V_mono h.out (fun k hk => ⟨hk, hn k hk⟩))) hg hat)
theorem nA (h : Aside0 (Kd.N d e w base ok u xs)) (hg : W.grownBy w1 v.ownBlock) (hat : v1.ownBlock = v.ownBlock ∨ ∃ b, v1.ownBlock = some b ∧ W.heap.size ≤ b) [i : Up w W] (hn : ∀ k, ok k → some k ≠ v.ownBlock := by intro _ hk; simp only [hk, ne_eq, not_false_eq_true]) : Aside0 (Kd.N d e w1 base (fun k => ok k ∧ some k ≠ v1.ownBlock) u xs) := mk0 (Kd.N_afterv (uN (Kd.N_mono h.out (fun k hk => ⟨hk, hn k hk⟩))) hg hat)
end
/-- One layer that leaves all blocks as they are. -/
class Lay (w : outParam World) (W : World) : Prop where
  below : Below w.heap.size w W
instance layA (w : World) (o : Obj) : Lay w (w.alloc o) := ⟨below_alloc (Below.refl _ _) o⟩
instance layN (w : World) (n : Nat) : Lay w (w.drewN n) := ⟨pw_below_drewN (Below.refl _ _) n⟩
instance layD (w : World) : Lay w w.drew := ⟨below_drew (Below.refl _ _)⟩
theorem lay {w W : World} [i : Lay w W] {g : Nat} {o : Obj} (h : w.heap[g]? = some o) : W.heap[g]? = some o := blk_below h i.below
theorem cB {α : Type} {d : Kd α} {w W W' : World} {A : Option Addr} {n : Nat} {xs : List α} (h : Aside0 (Kd.C d w A n xs)) (hb : Below W.heap.size W W') [u : Up w W] : Aside0 (Kd.C d W' A n xs) := mk0 (Kd.C_below (uC h.out) hb)
theorem dY {p : Prop} [i : Decidable p] (h : decide p = true := by first | (with_reducible assumption) | assumption) : p := of_decide_eq_true h
section
variable {α : Type} {d : Kd α} {e : Nat} {w W : World} {b k g : Nat} {ok : Nat → Prop} {v : Value} {xs : List α} {o : Obj}
theorem e1N (h : k < b ∨ W.heap.size ≤ k) (H : Aside0 (Kd.N d e w b ok v xs)) [i : Up w W] : some k ≠ v.ownBlock := h.elim (fun hs e => Nat.not_le.2 hs (Kd.N_base H.out k e.symm)) (fun hn => Kd.fresh' (Kd.N_lt (uN H.out)) k hn)
theorem e1R (h : k < b ∨ W.heap.size ≤ k) (H : Aside0 (Kd.R d e w b ok v xs)) [i : Up w W] : some k ≠ v.ownBlock := h.elim (fun hs e => Nat.not_le.2 hs (Kd.R_base H.out k e.symm)) (fun hn => Kd.fresh' (Kd.R_lt (uR H.out)) k hn)
theorem e1B (h : k < b ∨ W.heap.size ≤ k) (G : Aside0 (b ≤ g)) (H : Aside0 (w.heap[g]? = some o)) [i : Up w W] : k ≠ g := h.elim (fun hs e => Nat.not_le.2 hs (by rw [e]; exact G.out)) (fun hn => Kd.freshB (uB H.out) k hn)
theorem e2N (h : (k < b ∨ k < b) ∨ W.heap.size ≤ k) (H : Aside0 (Kd.N d e w b ok v xs)) [i : Up w W] : some k ≠ v.ownBlock := e1N (h.imp (fun h => h.elim id id) id) H
theorem e2R (h : (k < b ∨ k < b) ∨ W.heap.size ≤ k) (H : Aside0 (Kd.R d e w b ok v xs)) [i : Up w W] : some k ≠ v.ownBlock := e1R (h.imp (fun h => h.elim id id) id) H
theorem e2B (h : (k < b ∨ k < b) ∨ W.heap.size ≤ k) (G : Aside0 (b ≤ g)) (H : Aside0 (w.heap[g]? = some o)) [i : Up w W] : k ≠ g := e1B (h.imp (fun h => h.elim id id) id) G H
end
end Go.Proofs.YtnkckdbjeemjeaaGreatDoor.H
