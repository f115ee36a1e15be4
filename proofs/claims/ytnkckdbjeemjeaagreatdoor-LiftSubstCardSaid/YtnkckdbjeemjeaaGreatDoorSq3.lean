/- Shorter words, a third round; no conditions. -/
import Derived.Test.YtnkckdbjeemjeaaGreatDoorSq2
namespace Go.Proofs.YtnkckdbjeemjeaaGreatDoor.H
open Go.Proofs.YtnkckdbjeemjeaaGreatDoor.Flt Go.RowKit Go.Proofs.YtnkckdbjeemjeaaGreatDoorW.PrintWords Go.Proofs.YtnkckdbjeemjeaaGreatDoorW.PrintLast Go.Proofs.YtnkckdbjeemjeaaGreatDoorW.PrintMore
set_option linter.unusedVariables false
theorem AP : (∀ (a : Act) (t : Tmp) (v : Value), a.put (some t) v = { a with tmps := a.tmps.setIfInBounds t v }) ∧ (∀ (a : Act) (v : Value), a.put none v = a) ∧ (∀ {α : Type} (l : List α) (i : Nat) (x : α), l.toArray.setIfInBounds i x = (l.set i x).toArray) ∧ (∀ {α : Type} (x y : α) (l : List α), (x :: l).set 0 y = y :: l) ∧ (∀ {α : Type} (x y : α) (l : List α) (n : Nat), (x :: l).set (n + 1) y = x :: l.set n y) :=
  ⟨fun _ _ _ => rfl, fun _ _ => rfl, fun _ _ _ => List.setIfInBounds_toArray .., fun _ _ _ => rfl, fun _ _ _ _ => rfl⟩
theorem eK {p : Prop} (h : p := by first | rfl | (simp; done) | (simp [*]; done) | (simp [bne_nil_, beq_nil_]; done)) : p := h
theorem nO {α : Type} {p c : Prop} [Decidable c] {a : Option α} {b : α} (H : (if c then a else none) = some b) (h : ¬ c) : p := by rw [if_neg h] at H; exact absurd H (by simp)
theorem nI {α : Type} {p c : Prop} [Decidable c] {a : Option α} {b : α} (H : (if c then none else a) = some b) (h : c) : p := by rw [if_pos h] at H; exact absurd H (by simp)
theorem oB {α β : Type} {o : Option α} {f : α → Option β} {r : β} (H : o.bind f = some r) : ∃ a, Aside0 (o = some a) ∧ f a = some r := by
  obtain ⟨a, h, k⟩ := Option.bind_eq_some_iff.mp H; exact ⟨a, mk0 h, k⟩
theorem oN {α β : Type} {a : α} {f : α → Option β} {r : Option β} (H : (some a).bind f = r) : f a = r := H
theorem iT {α : Type} {a b r : α} (H : (if true = true then a else b) = r) : a = r := by rw [if_pos rfl] at H; exact H
theorem iF {α : Type} {a b r : α} (H : (if false = true then a else b) = r) : b = r := by rw [if_neg (by decide)] at H; exact H
theorem lO_ {p : Prop} (h : p := by repeat' first | (with_reducible exact i0_ ..) | (with_reducible exact i1_ ..) | (with_reducible exact i2_ ..) | (with_reducible exact i3_ ..) | (with_reducible exact i4_ ..) | (with_reducible exact i5_ ..) | (with_reducible exact i6_ ..) | (with_reducible exact i7_ ..) | (with_reducible exact i8_ ..) | (with_reducible exact m0_ ..) | (with_reducible exact m1_ ..) | (with_reducible exact m2_ ..) | (with_reducible exact m3_ ..) | (with_reducible exact m4_ ..) | (with_reducible exact m5_ ..) | (with_reducible exact m6_ ..) | (with_reducible exact m7_ ..) | (with_reducible exact m8_ ..) | (with_reducible exact m9_ ..) | (with_reducible exact m10_ ..) | (with_reducible exact m11_ ..) | (with_reducible exact LeO.refl _) | (with_reducible exact LeO.none _) | (with_reducible refine LeO.ite ?_ ?_) | (with_reducible refine LeO.bind ?_ (fun _ => ?_)) | exact i0_ .. | exact i1_ .. | exact i2_ .. | exact i3_ .. | exact i4_ .. | exact i5_ .. | exact m0_ .. | exact m1_ .. | exact m2_ .. | exact m3_ .. | exact LeO.none _ | refine LeO.ite ?_ ?_ | refine LeO.bind ?_ (fun _ => ?_)) : p := h
section
variable {P : Program} {ops : Array Oper} {Q : Exit → Act → World → Prop} {md : Region.Mode} {S : World → Prop} {ds : List Nat} {T : Bool × List (List Nat × List Nat)} {B : List Nat}
theorem qA (i m' : Nat) {N : Option Tmp} {m n : Nat} {oi : Oper} {v : Value} {fuel : Nat} {a : Act} {w : World} {a' : Act} (h : wpAnyLast P md ops Q S ds fuel (bts n m') a' w) (HT : Aside0 (rtab md ops = T) := by exact HT_)
    (hi : ops[i]? = some oi := by exact rfl) (hN : oi.dst = N := by conv => lhs; whnf) (hc : anyT T (bts n m).toList (bts n m').toList i = true := by kernel_rfl)
    (hQ : ∀ c a w, Q (.panic c) (a.put oi.dst v) w → Q (.panic c) a w := by exact fun _ _ _ h => h)
    (hy : Yields P ops oi v a := by (refine Or.inl ⟨by rfl, ?_⟩; intro w'; go_simp; with_reducible rfl))
    (ha : a.put N v = a' := by (simp only [AP, i64_w, i32_w]; rfl)) : wpAnyLast P md ops Q S ds (fuel + 1) (bts n m) a w :=
  pure_ _ hi hN (any_of HT.out hc) hQ hy ha h
theorem qU (i m' : Nat) {N : Option Tmp} {m n : Nat} {oi : Oper} {fuel : Nat} {a : Act} {w : World} {a' : Act} (h : wpAnyLast P md ops Q S ds fuel (bts n m') a' w) (HT : Aside0 (rtab md ops = T) := by exact HT_)
    (hi : ops[i]? = some oi := by exact rfl) (hN : oi.dst = N := by conv => lhs; whnf) (hc : anyT T (bts n m).toList (bts n m').toList i = true := by kernel_rfl)
    (hQ : ∀ c a w, Q (.panic c) (a.put oi.dst undef) w → Q (.panic c) a w := by exact fun _ _ _ h => h)
    (hy : Yields P ops oi undef a := by exact Or.inr ⟨by rfl, rfl⟩)
    (ha : a.put N undef = a' := by (simp only [AP, i64_w, i32_w]; rfl)) : wpAnyLast P md ops Q S ds (fuel + 1) (bts n m) a w :=
  pure_ _ hi hN (any_of HT.out hc) hQ hy ha h
theorem qT1 (i m' : Nat) {N : Option Tmp} {m n : Nat} {oi : Oper} {v : Value} {fuel : Nat} {a : Act} {w : World} {a' : Act} (h : wpAnyLast P md ops Q S ds fuel (bts n m') a' w) (HT : Aside0 (rtab md ops = T) := by exact HT_) (HW : Aside0 (waitsOk T.2 B = true) := by exact HW_) (hS : S w := by exact hHeld)
    (hi : ops[i]? = some oi := by exact rfl) (hN : oi.dst = N := by conv => lhs; whnf) (hc : takeW T B ds (bts n m).toList (bts n m').toList i = true := by kernel_rfl)
    (hQ : ∀ c a w, Q (.panic c) (a.put oi.dst v) w → Q (.panic c) a w := by exact fun _ _ _ h => h)
    (hy : YieldsIf P ops S oi v a := by (refine Or.inl ⟨by rfl, ?_⟩; rintro w' s0; go_simp; with_reducible rfl))
    (ha : a.put N v = a' := by (simp only [AP, i64_w, i32_w]; rfl)) : wpAnyLast P md ops Q S ds (fuel + 1) (bts n m) a w :=
  take_ _ hi hN (take_ofW HT.out HW.out hc) hQ hy hS ha h
theorem qT2 (i m' : Nat) {N : Option Tmp} {m n : Nat} {oi : Oper} {v : Value} {fuel : Nat} {a : Act} {w : World} {a' : Act} (h : wpAnyLast P md ops Q S ds fuel (bts n m') a' w) (HT : Aside0 (rtab md ops = T) := by exact HT_) (HW : Aside0 (waitsOk T.2 B = true) := by exact HW_) (hS : S w := by exact hHeld)
    (hi : ops[i]? = some oi := by exact rfl) (hN : oi.dst = N := by conv => lhs; whnf) (hc : takeW T B ds (bts n m).toList (bts n m').toList i = true := by kernel_rfl)
    (hQ : ∀ c a w, Q (.panic c) (a.put oi.dst v) w → Q (.panic c) a w := by exact fun _ _ _ h => h)
    (hy : YieldsIf P ops S oi v a := by (refine Or.inl ⟨by rfl, ?_⟩; rintro w' ⟨s0, s1⟩; go_simp; with_reducible rfl))
    (ha : a.put N v = a' := by (simp only [AP, i64_w, i32_w]; rfl)) : wpAnyLast P md ops Q S ds (fuel + 1) (bts n m) a w :=
  take_ _ hi hN (take_ofW HT.out HW.out hc) hQ hy hS ha h
theorem qT3 (i m' : Nat) {N : Option Tmp} {m n : Nat} {oi : Oper} {v : Value} {fuel : Nat} {a : Act} {w : World} {a' : Act} (h : wpAnyLast P md ops Q S ds fuel (bts n m') a' w) (HT : Aside0 (rtab md ops = T) := by exact HT_) (HW : Aside0 (waitsOk T.2 B = true) := by exact HW_) (hS : S w := by exact hHeld)
    (hi : ops[i]? = some oi := by exact rfl) (hN : oi.dst = N := by conv => lhs; whnf) (hc : takeW T B ds (bts n m).toList (bts n m').toList i = true := by kernel_rfl)
    (hQ : ∀ c a w, Q (.panic c) (a.put oi.dst v) w → Q (.panic c) a w := by exact fun _ _ _ h => h)
    (hy : YieldsIf P ops S oi v a := by (refine Or.inl ⟨by rfl, ?_⟩; rintro w' ⟨s0, s1, s2⟩; go_simp; with_reducible rfl))
    (ha : a.put N v = a' := by (simp only [AP, i64_w, i32_w]; rfl)) : wpAnyLast P md ops Q S ds (fuel + 1) (bts n m) a w :=
  take_ _ hi hN (take_ofW HT.out HW.out hc) hQ hy hS ha h
theorem qT4 (i m' : Nat) {N : Option Tmp} {m n : Nat} {oi : Oper} {v : Value} {fuel : Nat} {a : Act} {w : World} {a' : Act} (h : wpAnyLast P md ops Q S ds fuel (bts n m') a' w) (HT : Aside0 (rtab md ops = T) := by exact HT_) (HW : Aside0 (waitsOk T.2 B = true) := by exact HW_) (hS : S w := by exact hHeld)
    (hi : ops[i]? = some oi := by exact rfl) (hN : oi.dst = N := by conv => lhs; whnf) (hc : takeW T B ds (bts n m).toList (bts n m').toList i = true := by kernel_rfl)
    (hQ : ∀ c a w, Q (.panic c) (a.put oi.dst v) w → Q (.panic c) a w := by exact fun _ _ _ h => h)
    (hy : YieldsIf P ops S oi v a := by (refine Or.inl ⟨by rfl, ?_⟩; rintro w' ⟨s0, s1, s2, s3⟩; go_simp; with_reducible rfl))
    (ha : a.put N v = a' := by (simp only [AP, i64_w, i32_w]; rfl)) : wpAnyLast P md ops Q S ds (fuel + 1) (bts n m) a w :=
  take_ _ hi hN (take_ofW HT.out HW.out hc) hQ hy hS ha h
theorem qT5 (i m' : Nat) {N : Option Tmp} {m n : Nat} {oi : Oper} {v : Value} {fuel : Nat} {a : Act} {w : World} {a' : Act} (h : wpAnyLast P md ops Q S ds fuel (bts n m') a' w) (HT : Aside0 (rtab md ops = T) := by exact HT_) (HW : Aside0 (waitsOk T.2 B = true) := by exact HW_) (hS : S w := by exact hHeld)
    (hi : ops[i]? = some oi := by exact rfl) (hN : oi.dst = N := by conv => lhs; whnf) (hc : takeW T B ds (bts n m).toList (bts n m').toList i = true := by kernel_rfl)
    (hQ : ∀ c a w, Q (.panic c) (a.put oi.dst v) w → Q (.panic c) a w := by exact fun _ _ _ h => h)
    (hy : YieldsIf P ops S oi v a := by (refine Or.inl ⟨by rfl, ?_⟩; rintro w' ⟨s0, s1, s2, s3, s4⟩; go_simp; with_reducible rfl))
    (ha : a.put N v = a' := by (simp only [AP, i64_w, i32_w]; rfl)) : wpAnyLast P md ops Q S ds (fuel + 1) (bts n m) a w :=
  take_ _ hi hN (take_ofW HT.out HW.out hc) hQ hy hS ha h
theorem qT6 (i m' : Nat) {N : Option Tmp} {m n : Nat} {oi : Oper} {v : Value} {fuel : Nat} {a : Act} {w : World} {a' : Act} (h : wpAnyLast P md ops Q S ds fuel (bts n m') a' w) (HT : Aside0 (rtab md ops = T) := by exact HT_) (HW : Aside0 (waitsOk T.2 B = true) := by exact HW_) (hS : S w := by exact hHeld)
    (hi : ops[i]? = some oi := by exact rfl) (hN : oi.dst = N := by conv => lhs; whnf) (hc : takeW T B ds (bts n m).toList (bts n m').toList i = true := by kernel_rfl)
    (hQ : ∀ c a w, Q (.panic c) (a.put oi.dst v) w → Q (.panic c) a w := by exact fun _ _ _ h => h)
    (hy : YieldsIf P ops S oi v a := by (refine Or.inl ⟨by rfl, ?_⟩; rintro w' ⟨s0, s1, s2, s3, s4, s5⟩; go_simp; with_reducible rfl))
    (ha : a.put N v = a' := by (simp only [AP, i64_w, i32_w]; rfl)) : wpAnyLast P md ops Q S ds (fuel + 1) (bts n m) a w :=
  take_ _ hi hN (take_ofW HT.out HW.out hc) hQ hy hS ha h
theorem qT7 (i m' : Nat) {N : Option Tmp} {m n : Nat} {oi : Oper} {v : Value} {fuel : Nat} {a : Act} {w : World} {a' : Act} (h : wpAnyLast P md ops Q S ds fuel (bts n m') a' w) (HT : Aside0 (rtab md ops = T) := by exact HT_) (HW : Aside0 (waitsOk T.2 B = true) := by exact HW_) (hS : S w := by exact hHeld)
    (hi : ops[i]? = some oi := by exact rfl) (hN : oi.dst = N := by conv => lhs; whnf) (hc : takeW T B ds (bts n m).toList (bts n m').toList i = true := by kernel_rfl)
    (hQ : ∀ c a w, Q (.panic c) (a.put oi.dst v) w → Q (.panic c) a w := by exact fun _ _ _ h => h)
    (hy : YieldsIf P ops S oi v a := by (refine Or.inl ⟨by rfl, ?_⟩; rintro w' ⟨s0, s1, s2, s3, s4, s5, s6⟩; go_simp; with_reducible rfl))
    (ha : a.put N v = a' := by (simp only [AP, i64_w, i32_w]; rfl)) : wpAnyLast P md ops Q S ds (fuel + 1) (bts n m) a w :=
  take_ _ hi hN (take_ofW HT.out HW.out hc) hQ hy hS ha h
theorem qT8 (i m' : Nat) {N : Option Tmp} {m n : Nat} {oi : Oper} {v : Value} {fuel : Nat} {a : Act} {w : World} {a' : Act} (h : wpAnyLast P md ops Q S ds fuel (bts n m') a' w) (HT : Aside0 (rtab md ops = T) := by exact HT_) (HW : Aside0 (waitsOk T.2 B = true) := by exact HW_) (hS : S w := by exact hHeld)
    (hi : ops[i]? = some oi := by exact rfl) (hN : oi.dst = N := by conv => lhs; whnf) (hc : takeW T B ds (bts n m).toList (bts n m').toList i = true := by kernel_rfl)
    (hQ : ∀ c a w, Q (.panic c) (a.put oi.dst v) w → Q (.panic c) a w := by exact fun _ _ _ h => h)
    (hy : YieldsIf P ops S oi v a := by (refine Or.inl ⟨by rfl, ?_⟩; rintro w' ⟨s0, s1, s2, s3, s4, s5, s6, s7⟩; go_simp; with_reducible rfl))
    (ha : a.put N v = a' := by (simp only [AP, i64_w, i32_w]; rfl)) : wpAnyLast P md ops Q S ds (fuel + 1) (bts n m) a w :=
  take_ _ hi hN (take_ofW HT.out HW.out hc) hQ hy hS ha h
theorem qT9 (i m' : Nat) {N : Option Tmp} {m n : Nat} {oi : Oper} {v : Value} {fuel : Nat} {a : Act} {w : World} {a' : Act} (h : wpAnyLast P md ops Q S ds fuel (bts n m') a' w) (HT : Aside0 (rtab md ops = T) := by exact HT_) (HW : Aside0 (waitsOk T.2 B = true) := by exact HW_) (hS : S w := by exact hHeld)
    (hi : ops[i]? = some oi := by exact rfl) (hN : oi.dst = N := by conv => lhs; whnf) (hc : takeW T B ds (bts n m).toList (bts n m').toList i = true := by kernel_rfl)
    (hQ : ∀ c a w, Q (.panic c) (a.put oi.dst v) w → Q (.panic c) a w := by exact fun _ _ _ h => h)
    (hy : YieldsIf P ops S oi v a := by (refine Or.inl ⟨by rfl, ?_⟩; rintro w' ⟨s0, s1, s2, s3, s4, s5, s6, s7, s8⟩; go_simp; with_reducible rfl))
    (ha : a.put N v = a' := by (simp only [AP, i64_w, i32_w]; rfl)) : wpAnyLast P md ops Q S ds (fuel + 1) (bts n m) a w :=
  take_ _ hi hN (take_ofW HT.out HW.out hc) hQ hy hS ha h
end
section
variable {α β γ : Type} {d : Kd α} {d2 : Kd β} {d3 : Kd γ} {e e2 e3 : Nat} {w W W' : World} {base b0 : Nat} {ok : Nat → Prop} {v v2 v3 : Value} {xs : List α} {ys : List β} {zs : List γ} {ok2 ok3 : Nat → Prop} {g : Nat}
theorem uS (h : Kd.S d e w base ok v xs) [u : Up w W] : Kd.S d e W base ok v xs := Kd.S_below h u.below
theorem nT {w0 : World} (h : Kd.N d e W' b0 ok v xs) (hb : w0.heap.size ≤ b0 := by exact below_size bH) : Aside0 (Kd.N d e W' w0.heap.size (fun _ => True) v xs) := mk0 (Kd.N_lower (Kd.N_mono h (fun _ _ => trivial)) hb)
theorem vD (h : Aside0 (Kd.V d e w base ok v xs)) (a : Nat) (hg : a = W.heap.size) (hb : Below W.heap.size W W') [u : Up w W] : Aside0 (Kd.V d e W' base (fun k => ok k ∧ k ≠ a) v xs) := mk0 (Kd.V_below (Kd.V_elderB (uV h.out) a (Nat.le_of_eq hg.symm)) hb)
theorem nD (h : Aside0 (Kd.N d e w base ok v xs)) (a : Nat) (hg : a = W.heap.size) (hb : Below W.heap.size W W') [u : Up w W] : Aside0 (Kd.N d e W' base (fun k => ok k ∧ k ≠ a) v xs) := mk0 (Kd.N_below (Kd.N_elderB (uN h.out) a (Nat.le_of_eq hg.symm)) hb)
theorem nENN (h : Aside0 (Kd.N d e w base ok v xs)) (hb : Below W.heap.size W W') (h2 : Kd.N d2 e2 W' W.heap.size ok2 v2 ys) (h3 : Kd.N d3 e3 W' W.heap.size ok3 v3 zs) [u : Up w W] : Aside0 (Kd.N d e W' base (fun k => (ok k ∧ some k ≠ v2.ownBlock) ∧ some k ≠ v3.ownBlock) v xs) := mk0 (Kd.N_mono (Kd.N_told (Kd.N_told (Kd.N_old (uN h.out) hb) (Kd.N_base h2)) (Kd.N_base h3)) (fun _ h_ => h_.1))
theorem nERR (h : Aside0 (Kd.N d e w base ok v xs)) (hb : Below W.heap.size W W') (h2 : Kd.R d2 e2 W' W.heap.size ok2 v2 ys) (h3 : Kd.R d3 e3 W' W.heap.size ok3 v3 zs) [u : Up w W] : Aside0 (Kd.N d e W' base (fun k => (ok k ∧ some k ≠ v2.ownBlock) ∧ some k ≠ v3.ownBlock) v xs) := mk0 (Kd.N_mono (Kd.N_told (Kd.N_told (Kd.N_old (uN h.out) hb) (Kd.R_base h2)) (Kd.R_base h3)) (fun _ h_ => h_.1))
theorem oC {w0 : World} {a : Addr} (HB : Aside0 (Below w0.heap.size w0 W)) (h : w0.cell? a = some v) : W.cell? a = some v := (HB.out.cell (World.block_lt_of_cell? w0 _ h)).trans h
theorem cQ {w W : World} {n : Nat} {a : Addr} {v : Option Value} (hq : World.drewN w n = W) (h : w.cell? a = v) : W.cell? a = v := by subst hq; exact h
theorem bfar {w : World} {g : Nat} {p : Addr} {o : Option Obj} (h : w.heap[g]? = o) (hp : g ≠ p.block) (u : Value) : (w.setCell p u).heap[g]? = o := (Below.heap_setCell w p u g hp).trans h
theorem kB {p : Prop} (h : p := by
  repeat (first | refine lay ?_ | refine bfar ?_ (Aside0.out (by assumption)) _ | apply blk_put)
  exact Aside0.out (by first | (with_reducible assumption) | assumption)
  all_goals rfl) : p := h
end
end Go.Proofs.YtnkckdbjeemjeaaGreatDoor.H
