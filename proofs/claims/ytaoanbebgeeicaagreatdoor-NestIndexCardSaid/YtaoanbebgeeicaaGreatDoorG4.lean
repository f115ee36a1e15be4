/- Each operation comes to its event. -/
import Derived.Test.YtaoanbebgeeicaaGreatDoorG3
import Derived.Laws.BytesString
namespace Go.Proofs.YtaoanbebgeeicaaGreatDoor.G
open Go Go.RowKit
set_option linter.unusedVariables false
set_option linter.unusedSimpArgs false

def bytesEv (P : Program) (src dst : TypeId) (a : AV) : Option Ev :=
  match elemB P src with
  | none => none
  | some e => (match P.underlying dst, P.underlying e with
    | some .string, some (.int .u8) => (match a with | .nilSlice => some (.val (.str [])) | .slice n o len _ _ => some (.bytes n o len) | _ => some .bad)
    | _, _ => some .bad)
def convEv (P : Program) (src dst : TypeId) (a : AV) : Ev := match bytesEv P src dst a with | some e => e | none => .of (convAV P src dst a)
theorem fold_push (ns : List Nat) (s : ByteArray) : (ns.map (Int.ofNat)).foldl (fun r n => r.push (UInt8.ofNat n.toNat)) s = s ++ bytesOf ns := by
  induction ns generalizing s with
  | nil => simp [bytesOf]; apply ByteArray.ext; simp
  | cons n ns ih =>
    simp only [List.map_cons, List.foldl_cons, ih]
    apply ByteArray.ext; apply Array.ext'
    simp [bytesOf, ByteArray.push]
theorem convEv_ok {P : Program} {r : Rho} {src dst : TypeId} {a : AV} {a' : Value} (ha : RV r a a') : Sim P r (do pure (.value (← convert src dst a'))) (convEv P src dst a) := by
  unfold convEv
  split
  · rename_i ev hev
    unfold bytesEv at hev
    split at hev
    · cases hev
    · rename_i e he
      have hs := elemB_ok he
      split at hev
      · rename_i hd hu
        split at hev <;> cases hev
        · simp only [RV] at ha; subst ha
          refine ⟨.string .empty, ⟨by apply congrArg; apply ByteArray.ext; rfl, by simp⟩, fun w => ?_⟩
          simp [convert, run_underlying hs, run_underlying hd, run_underlying hu, Conv.bytesToString]
        · rename_i n o len _ _
          simp only [RV] at ha; obtain ⟨p, c, hp, rfl, _⟩ := ha
          refine ⟨p, hp, fun w bs hl hb hc => ?_⟩
          have h1 := run_loadCells_list (P := P) w ⟨p.b, p.d + o, none⟩ (bs.map fun (b : Nat) => Value.int .u8 (b : Int)) (fun j v e => by
            rw [List.getElem?_map] at e
            cases hj : bs[j]? with
            | none => rw [hj] at e; cases e
            | some b => rw [hj] at e; cases e; rw [addr_add]; exact hc j b hj)
          rw [List.length_map, hl] at h1
          have h2 := run_bytesToString (P := P) w ⟨p.b, p.d + o, none⟩ len c (bs.map Int.ofNat) (by rw [h1, List.map_map]; rfl)
          rw [fold_push] at h2
          have h3 : ByteArray.empty ++ bytesOf bs = bytesOf bs := by apply ByteArray.ext; simp
          rw [h3] at h2
          simp [convert, run_underlying hs, run_underlying hd, run_underlying hu, h2]
        · trivial
      · cases hev; trivial
  · exact Sim.of fun v hv => convAV_ok hv ha

def callEv (f : AV) (args : List AV) : Ev :=
  match f with
  | .func (.func g) first cap => .call g (first ++ (args ++ cap))
  | _ => .bad
def builtinEv (P : Program) (b : Builtin) (ts : List TypeId) (args : List AV) : Ev :=
  match b, ts, args with
  | .len, [t], [a] => .of (lenAV P t a)
  | .append, [t, u], [s, x] => (match elemB P t, P.underlying u with
    | some e, some d => (match d, P.info? e with
      | .int _, _ => .bad
      | _, some i => (match i.zero with | some z => if Nat.beq z.cells.size i.size then .app i.size i.bytes s x else .bad | none => .bad)
      | _, none => .bad)
    | _, _ => .bad)
  | .max, _, args => .of (mmAV true args)
  | .min, _, args => .of (mmAV false args)
  | _, _, _ => .bad
def opt (e : Operand → AV) : Option Operand → Option AV
  | none => none
  | some x => some (e x)
def parts (e : Operand → AV) (ps : Array (Nat × Operand)) : List (Nat × AV) := ps.toList.map fun x => (x.1, e x.2)
/-- The event of an operation. -/
def evOp (P : Program) (e : Operand → AV) (op : Op) : Ev :=
  match op with
  | .move x | .assign x => .val (e x)
  | .pick c a b => (match e c with | .bool true => .val (e a) | .bool false => .val (e b) | _ => .bad)
  | .alloc t => allocEv P t
  | .box _ x => boxEv (e x)
  | .build t ps => .of (buildAV P t (parts e ps))
  | .buildSlice t n ps => buildSliceEv P t n (parts e ps)
  | .load t a => loadEv P t (e a)
  | .store t a x => storeEv P t (e a) (e x)
  | .nilCheck x => .of (nilAV (e x))
  | .binOp op t x y _ => .of (binAV P op t x y (e x) (e y))
  | .unOp op _ x => .of (unAV op (e x))
  | .convert s d x => convEv P s d (e x)
  | .makeInterface t x => if P.concrete t then .val (.iface t (e x)) else .bad
  | .makeFunc fn first cap => .val (.func fn (first.toList.map e) (cap.toList.map e))
  | .makeSlice t l c => makeEv P t (e l) (e c)
  | .slice t x lo hi none => .of (sliceAV P t (e x) (opt e lo) (opt e hi))
  | .fieldAddr s x f => .of (fieldAddrAV P s (e x) f)
  | .field s x f => .of (fieldAV P s (e x) f)
  | .indexAddr t x i => .of (indexAddrAV P t (e x) (e i))
  | .index t x i => .of (indexAV P t (e x) (e i))
  | .extract t i => .of (extractAV (e t) i)
  | .call { callee := .value f, args, .. } => callEv (e f) (args.toList.map e)
  | .call { callee := .builtin b, args, argTypes } => builtinEv P b argTypes.toList (args.toList.map e)
  | _ => .bad

theorem RVs.map {r : Rho} {α : Type} {e : α → AV} {e' : α → Value} : ∀ {l : List α}, (∀ x ∈ l, RV r (e x) (e' x)) → RVs r (l.map e) (l.map e')
  | [], _ => by simp [RVs]
  | x :: xs, h => by rw [List.map_cons, List.map_cons, RVs]; exact ⟨_, _, rfl, h x (by simp), RVs.map fun y hy => h y (by simp [hy])⟩
theorem mm_ok {P : Program} {r : Rho} {mx : Bool} {l : List AV} {l' : List Value} {v : AV} (h : mmAV mx l = some v) (hl : RVs r l l') (ts : Array TypeId) (ty : TypeId) :
    Pur P r (if mx then Builtin.max_ ts ty l'.toArray else Builtin.min_ ts ty l'.toArray) v := by
  unfold mmAV at h
  split at h
  · cases h
    simp only [RVs, RV] at hl
    obtain ⟨_, _, rfl, rfl, _, _, rfl, rfl, rfl⟩ := hl
    refine ⟨_, rfl, fun w => ?_⟩
    cases mx <;> simp [Builtin.max_, Builtin.min_, Builtin.max2, Builtin.min2]
  · cases h
    simp only [RVs, RV] at hl
    obtain ⟨_, _, rfl, rfl, _, _, rfl, rfl, _, _, rfl, rfl, rfl⟩ := hl
    refine ⟨_, rfl, fun w => ?_⟩
    cases mx <;> simp [Builtin.max_, Builtin.min_, Builtin.max2, Builtin.min2]
  · cases h
theorem builtinEv_ok {P : Program} {r : Rho} {b : Builtin} {ts : Array TypeId} {l : List AV} {l' : Array Value} (hl : RVs r l l'.toList) (ty : TypeId) (cs : Array Bool) :
    Sim P r (builtin b ts ty cs l') (builtinEv P b ts.toList l) := by
  unfold builtinEv
  split
  · rename_i t a heq
    have hts : ts = #[t] := by apply Array.ext'; exact heq
    subst hts
    simp only [RVs] at hl
    obtain ⟨a', _, hl', ha, rfl⟩ := hl
    have : l' = #[a'] := by apply Array.ext'; exact hl'
    subst this
    exact Sim.of fun v hv => lenAV_ok hv ha
  · rename_i t u s x heq
    have hts : ts = #[t, u] := by apply Array.ext'; exact heq
    subst hts
    simp only [RVs] at hl
    obtain ⟨s', _, hl', hs, x', _, rfl, hx, rfl⟩ := hl
    have : l' = #[s', x'] := by apply Array.ext'; exact hl'
    subst this
    split
    · rename_i e d he hu
      split
      · trivial
      · rename_i hnd hi
        split
        · rename_i z hz
          split
          · rename_i hzs
            exact ⟨t, u, _, e, _, z, s', x', ty, elemB_ok he, hu, fun k hk => hnd k hk, hi, rfl, rfl, hz, Nat.eq_of_beq_eq_true hzs, hs, hx, fun w => by simp [builtin]⟩
          · trivial
        · trivial
      · trivial
    · trivial
  · rename_i args
    refine Sim.of (s := Builtin.max_ ts ty l') fun v hv => ?_
    have := mm_ok (P := P) hv hl ts ty
    simpa using this
  · rename_i args
    refine Sim.of (s := Builtin.min_ ts ty l') fun v hv => ?_
    have := mm_ok (P := P) hv hl ts ty
    simpa using this
  · trivial

theorem evOp_sim {P : Program} {r : Rho} {e : Operand → AV} {e' : Operand → Value} {o : Oper} (he : ∀ x ∈ o.op.operands, RV r (e x) (e' x)) : Sim P r (execOp e' o) (evOp P e o.op) := by
  obtain ⟨dst, op, ty, pos, after, guard⟩ := o
  have hp : ∀ (ps : Array (Nat × Operand)), (∀ x ∈ (ps.toList.map (·.2)), RV r (e x) (e' x)) → (∀ (j : Nat) x y, (parts e ps)[j]? = some x → (ps.map fun (i, x) => (i, e' x)).toList[j]? = some y → x.1 = y.1 ∧ RV r x.2 y.2) := fun ps h j x y e1 e2 => by
    simp only [parts, List.getElem?_map, Array.toList_map] at e1 e2
    cases hq : ps.toList[j]? with
    | none => rw [hq] at e1; cases e1
    | some q =>
      rw [hq] at e1 e2; cases e1; cases e2
      exact ⟨rfl, h _ (List.mem_map.mpr ⟨q, List.mem_of_getElem? hq, rfl⟩)⟩
  unfold evOp
  simp only at he ⊢
  split
  · exact ⟨_, he _ (by simp [Op.operands]), fun w => rfl⟩
  · exact ⟨_, he _ (by simp [Op.operands]), fun w => rfl⟩
  · rename_i c a b
    have hc := he c (by simp [Op.operands])
    split
    · rename_i h; rw [h, RV] at hc
      exact ⟨_, he a (by simp [Op.operands]), fun w => by simp [execOp, hc, asBool]⟩
    · rename_i h; rw [h, RV] at hc
      exact ⟨_, he b (by simp [Op.operands]), fun w => by simp [execOp, hc, asBool]⟩
    · trivial
  · exact allocEv_ok
  · exact boxEv_ok (he _ (by simp [Op.operands]))
  · rename_i t ps
    exact Sim.of fun v hv => buildAV_ok hv (by simp [parts]) (hp ps (by simpa [Op.operands] using he))
  · rename_i t n ps
    exact buildSliceEv_ok (by simp [parts]) (hp ps (by simpa [Op.operands] using he))
  · exact loadEv_ok (he _ (by simp [Op.operands]))
  · exact storeEv_ok (he _ (by simp [Op.operands])) (he _ (by simp [Op.operands]))
  · rename_i x
    have hx := he x (by simp [Op.operands])
    cases hv : nilAV (e x) with
    | none => trivial
    | some v =>
      unfold nilAV at hv
      split at hv <;> (try cases hv)
      · rename_i f a b hf
        rw [hf] at hx; have h0 := hx; simp only [RV] at hx; obtain ⟨f', c', hx, _⟩ := hx
        exact ⟨_, h0, fun w => by simp only [execOp]; rw [hx]; rfl⟩
      · rename_i h1 h2 h3 h4 h5
        refine ⟨e' x, hx, fun w => ?_⟩
        generalize hq : e x = q at hx h1 h2 h3 h4 h5
        generalize hq' : e' x = q' at hx
        simp only [execOp, hq']
        cases q <;> simp only [RV] at hx <;> first
          | exact absurd rfl h1 | exact absurd rfl h2 | exact absurd rfl h3
          | (obtain ⟨_, _, rfl⟩ := hx; rfl)
          | (obtain ⟨_, _, _, rfl, _⟩ := hx; rfl)
          | (rename_i fn fs cs; exact absurd rfl (h5 fn fs cs))
          | (obtain ⟨_, _, rfl, _⟩ := hx; rfl)
          | (obtain ⟨_, rfl, _⟩ := hx; rfl)
          | (obtain ⟨rfl, _⟩ := hx; rfl)
          | (subst hx; rfl)
  · exact Sim.of fun v hv => binAV_ok hv (he _ (by simp [Op.operands])) (he _ (by simp [Op.operands]))
  · exact Sim.of fun v hv => unAV_ok hv (he _ (by simp [Op.operands]))
  · exact convEv_ok (he _ (by simp [Op.operands]))
  · rename_i t x
    split
    · rename_i hc
      exact ⟨.iface t (e' x), ⟨_, rfl, he x (by simp [Op.operands])⟩, fun w => by simp [execOp, run_makeInterface w t (e' x) hc]⟩
    · trivial
  · rename_i fn first cap
    refine ⟨.func fn (first.map e') (cap.map e'), ⟨_, _, rfl, ?_, ?_⟩, fun w => rfl⟩
    · rw [Array.toList_map]; exact RVs.map fun x hx => he x (by simp [Op.operands]; exact .inl (by simpa using hx))
    · rw [Array.toList_map]; exact RVs.map fun x hx => he x (by simp [Op.operands]; exact .inr (by simpa using hx))
  · exact makeEv_ok (he _ (by simp [Op.operands])) (he _ (by simp [Op.operands]))
  · rename_i t x lo hi
    refine Sim.of fun v hv => sliceAV_ok hv (he x (by simp [Op.operands])) ?_ ?_
    · cases lo with
      | none => trivial
      | some y => exact he y (by simp [Op.operands])
    · cases hi with
      | none => trivial
      | some y => exact he y (by simp [Op.operands])
  · exact Sim.of fun v hv => fieldAddrAV_ok hv (he _ (by simp [Op.operands]))
  · exact Sim.of fun v hv => fieldAV_ok hv (he _ (by simp [Op.operands]))
  · exact Sim.of fun v hv => indexAddrAV_ok hv (he _ (by simp [Op.operands])) (he _ (by simp [Op.operands]))
  · exact Sim.of fun v hv => indexAV_ok hv (he _ (by simp [Op.operands])) (he _ (by simp [Op.operands]))
  · exact Sim.of fun v hv => extractAV_ok hv (he _ (by simp [Op.operands]))
  · rename_i f args ts
    have hf := he f (by simp [Op.operands, Call.operands])
    unfold callEv
    split
    · rename_i g first cap h
      rw [h, RV] at hf; obtain ⟨f1, c1, hf, r1, r2⟩ := hf
      intro ⟨fn, k1, k2, k3⟩
      refine ⟨f1 ++ (args.map e' ++ c1), ?_, fun w => ?_⟩
      · simp only [Array.toList_append, Array.toList_map]
        exact r1.append ((RVs.map fun x hx => he x (by simp [Op.operands, Call.operands]; exact .inr (by simpa using hx))).append r2)
      · have hb : fn.body.isNone = false := by cases hh : fn.body <;> simp [hh] at k3 ⊢
        simp [execOp, resolve, hf, Deferred.ofValue, invoke, callFunc, k1, k2, hb, Array.append_assoc]
        intro hn; rw [hn] at k3; cases k3
    · trivial
  · rename_i b args ts
    show Sim P r (builtin b ts ty _ (args.map e')) _
    exact builtinEv_ok (by rw [Array.toList_map]; exact RVs.map fun x hx => he x (by simp [Op.operands, Call.operands]; simpa using hx)) ty _
  · trivial
end Go.Proofs.YtaoanbebgeeicaaGreatDoor.G
