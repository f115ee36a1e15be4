/- A small map that is made, filled and asked: as one event, and its look-up; no conditions. -/
import Derived.Test.YtnkckdbjeemjeaaDoorXx0
import Derived.MapKept
import Derived.WideLaws
namespace Go.Proofs.YtnkckdbjeemjeaaDoor.H
open Go.RowKit Go.Proofs.YtnkckdbjeemjeaaDoorW.PrintWords
section
variable {P : Program} {t kt et : TypeId}
theorem run_ins {W : World} {r clock : Nat} {es : Array MapEntry} {k : Int} (v : Value) (hm : P.underlying t = some (.map kt et)) (hk : P.underlying kt = some (.int .i64)) (hb : W.heap[r]? = some (.map es clock))
    (hf : Instr.findNow (.int .i64) (.int .i64 k) es.toList 0 = some none) :
    (Instr.mapUpdate t (.map (some r)) (.int .i64 k) v).run P W = .ok () { W with heap := W.heap.setIfInBounds r (.map (es.push { key := .int .i64 k, val := v, born := clock }) (clock + 1)) } := by
  have hc : (Instr.checkKey false 10000 kt (.int .i64 k)).run P W = .ok () W := MapKept.run_checkKey (k := .int .i64 k) hk (by simp [MapKept.IsKey]) false 9999
  simp [Instr.mapUpdate, run_underlying hm, MapKept.run_getObj_map hb, hc, MapKept.run_findKey hk hf, MapKept.run_setObj_map _ hb, Result.andThen]
theorem run_look {W : World} {r clock : Nat} {es : Array MapEntry} {k : Int} {j : Nat} {v : Value} (hm : P.underlying t = some (.map kt et)) (hk : P.underlying kt = some (.int .i64)) (hb : W.heap[r]? = some (.map es clock))
    (hf : Instr.findNow (.int .i64) (.int .i64 k) es.toList 0 = some (some (j, v))) :
    (Instr.lookup t (.map (some r)) (.int .i64 k) false).run P W = .ok v W := by
  have hc : ∀ b, (Instr.checkKey b 10000 kt (.int .i64 k)).run P W = .ok () W := fun b => MapKept.run_checkKey (k := .int .i64 k) hk (by simp [MapKept.IsKey]) b 9999
  simp [Instr.lookup, run_underlying hm, MapKept.run_getObj_map hb, hc, MapKept.run_findKey hk hf, Result.andThen]
end
section
variable {P : Program} {ops : Array Oper} {rest : List Oper} {o o1 o2 o3 o4 o5 : Oper} {a : Act} {Q : Exit → Act → World → Prop} {W : World} {t kt et : TypeId}
theorem ins_ev {r clock : Nat} {es : Array MapEntry} {k : Int} {v : Value} {N : Tmp} (hgd : o.guard = none) (hd : o.dst = none) (ho : o.op = .insert t (.tmp N) (.const (.int .i64 k)) (.const v)) (hm : P.underlying t = some (.map kt et)) (hk : P.underlying kt = some (.int .i64))
    (he : a.eval (.tmp N) = .map (some r)) (hb : W.heap[r]? = some (.map es clock)) (hf : Instr.findNow (.int .i64) (.int .i64 k) es.toList 0 = some none)
    (h : ∀ w1 : World, w1.heap[r]? = some (.map (es.push { key := .int .i64 k, val := v, born := clock }) (clock + 1)) → (∀ q, q ≠ r → w1.heap[q]? = W.heap[q]?) → (∀ b, b ≤ r → Below b W w1) → wpList P ops Q rest a w1) :
    wpList P ops Q (o :: rest) a W := by
  have hlt : r < W.heap.size := by
    rcases Nat.lt_or_ge r W.heap.size with h | h
    · exact h
    · rw [Array.getElem?_eq_none h] at hb; cases hb
  refine wpList_plain hgd fun K hK => ?_
  unfold Oper.wp
  have hrun : (execOp a.eval o).run P W = .ok .skip { W with heap := W.heap.setIfInBounds r (.map (es.push { key := .int .i64 k, val := v, born := clock }) (clock + 1)) } := by
    have h1 := run_ins v hm hk hb hf
    unfold execOp
    rw [ho]
    show ((do Instr.mapUpdate t (a.eval (.tmp N)) (a.eval (.const (.int .i64 k))) (a.eval (.const v)); pure Next.skip : Sem Next)).run P W = _
    rw [he]
    show ((do Instr.mapUpdate t (.map (some r)) (.int .i64 k) v; pure Next.skip : Sem Next)).run P W = _
    simp [h1, Result.andThen]
  rw [hrun]
  show K (a.put o.dst undef) _
  rw [hd]
  refine hK _ _ (h _ ?_ ?_ ?_)
  · show (W.heap.setIfInBounds r _)[r]? = _
    rw [Array.getElem?_setIfInBounds_self_of_lt hlt]
  · intro q hq
    show (W.heap.setIfInBounds r _)[q]? = _
    rw [Array.getElem?_setIfInBounds_ne (Ne.symm hq)]
  · intro b hbr
    refine ⟨rfl, rfl, rfl, by show W.heap.size ≤ (W.heap.setIfInBounds r _).size; simp, fun i hi => ?_⟩
    show (W.heap.setIfInBounds r _)[i]? = _
    rw [Array.getElem?_setIfInBounds_ne (by omega)]
theorem below_at {b : Nat} {w0 w1 w2 w3 w4 w5 : World} (h1 : Below b w0 w1) (h2 : Below b w1 w2) (h3 : Below b w2 w3) (h4 : Below b w3 w4) (h5 : Below b w4 w5) : Below b w0 w5 := (((h1.trans h2).trans h3).trans h4).trans h5
theorem map_ev {N : Tmp} {k2 k3 k4 k5 : Int} {v2 v3 v4 v5 : Value} (hm : P.underlying t = some (.map kt et)) (hk : P.underlying kt = some (.int .i64))
    (g1 : o1.guard = none) (d1 : o1.dst = some N) (p1 : o1.op = .makeMap t none)
    (g2 : o2.guard = none) (d2 : o2.dst = none) (p2 : o2.op = .insert t (.tmp N) (.const (.int .i64 k2)) (.const v2))
    (g3 : o3.guard = none) (d3 : o3.dst = none) (p3 : o3.op = .insert t (.tmp N) (.const (.int .i64 k3)) (.const v3))
    (g4 : o4.guard = none) (d4 : o4.dst = none) (p4 : o4.op = .insert t (.tmp N) (.const (.int .i64 k4)) (.const v4))
    (g5 : o5.guard = none) (d5 : o5.dst = none) (p5 : o5.op = .insert t (.tmp N) (.const (.int .i64 k5)) (.const v5))
    (hne : k2 ≠ k3 ∧ k2 ≠ k4 ∧ k2 ≠ k5 ∧ k3 ≠ k4 ∧ k3 ≠ k5 ∧ k4 ≠ k5)
    (he : ∀ g, (a.put (some N) (.map (some g))).eval (.tmp N) = .map (some g))
    (h : ∀ (g : Nat) (w1 : World), w1.heap[g]? = some (.map #[⟨.int .i64 k2, v2, 0⟩, ⟨.int .i64 k3, v3, 1⟩, ⟨.int .i64 k4, v4, 2⟩, ⟨.int .i64 k5, v5, 3⟩] 4) → Below W.heap.size W w1 → wpList P ops Q rest (a.put (some N) (.map (some g))) w1) :
    wpList P ops Q (o1 :: o2 :: o3 :: o4 :: o5 :: rest) a W := by
  refine Kd.event_run (w1 := W.alloc (.map #[] 0)) (v := .map (some W.heap.size)) g1 ?_ ?_
  · unfold execOp
    rw [p1]
    show ((do let x ← Instr.makeMap t none; pure (Next.value x) : Sem Next)).run P W = _
    simp [show (Instr.makeMap t none).run P W = .ok (.map (some W.heap.size)) (W.alloc (.map #[] 0)) from rfl, Result.andThen]
  rw [d1]
  have hb0 := (MapKept.heap_alloc W (.map #[] 0)).1
  have e0 : Below W.heap.size W (W.alloc (.map #[] 0)) := below_alloc (Below.refl _ _) _
  have nf : ∀ {x y : Int}, x ≠ y → ((y == x) = false) := fun h => beq_eq_false_iff_ne.mpr (Ne.symm h)
  obtain ⟨h23, h24, h25, h34, h35, h45⟩ := hne
  refine ins_ev g2 d2 p2 hm hk (he _) hb0 rfl fun wa ha _ ba => ?_
  refine ins_ev g3 d3 p3 hm hk (he _) ha (by simp [Instr.findNow, Instr.sameNow, nf h23]) fun wb hb _ bb => ?_
  refine ins_ev g4 d4 p4 hm hk (he _) hb (by simp [Instr.findNow, Instr.sameNow, nf h24, nf h34]) fun wc hc _ bc => ?_
  refine ins_ev g5 d5 p5 hm hk (he _) hc (by simp [Instr.findNow, Instr.sameNow, nf h25, nf h35, nf h45]) fun wd hd _ bd => ?_
  exact h _ wd (by simpa using hd) (below_at e0 (ba _ (Nat.le_refl _)) (bb _ (Nat.le_refl _)) (bc _ (Nat.le_refl _)) (bd _ (Nat.le_refl _)))
theorem look_ev {r clock : Nat} {es : Array MapEntry} {k : Int} {v : Value} {j : Nat} {m i : Operand} (hgd : o.guard = none) (ho : o.op = .lookup t m i false) (hm : P.underlying t = some (.map kt et)) (hk : P.underlying kt = some (.int .i64))
    (he : a.eval m = .map (some r)) (hi : a.eval i = .int .i64 k) (hb : W.heap[r]? = some (.map es clock)) (hf : Instr.findNow (.int .i64) (.int .i64 k) es.toList 0 = some (some (j, v)))
    (h : wpList P ops Q rest (a.put o.dst v) W) : wpList P ops Q (o :: rest) a W := by
  refine Kd.event_run (w1 := W) (v := v) hgd ?_ h
  unfold execOp
  rw [ho]
  show ((do let x ← Instr.lookup t (a.eval m) (a.eval i) false; pure (Next.value x) : Sem Next)).run P W = _
  rw [he, hi]
  simp [run_look hm hk hb hf, Result.andThen]
end
end Go.Proofs.YtnkckdbjeemjeaaDoor.H
