/- Ghost operations: what each operation of the program's form comes to, told as an event. -/
import Derived.Test.YtaoanbebgeeicaaGreatDoorG2
namespace Go.Proofs.YtaoanbebgeeicaaGreatDoor.G
open Go Go.RowKit
set_option linter.unusedVariables false
set_option linter.unusedSimpArgs false

def leafAV : Value → Option AV
  | .bool b => some (.bool b)
  | .int k n => some (.int k n)
  | .string s => some (.str (s.data.toList.map UInt8.toNat))
  | .pointer none => some .nilPtr
  | .slice none 0 0 => some .nilSlice
  | .nilFunc => some .nilFunc
  | .nilIface => some .nilIface
  | .func f ⟨[]⟩ ⟨[]⟩ => some (.func f [] [])
  | _ => none
def leafsAV : List Value → Option (List AV)
  | [] => some []
  | v :: vs => match leafAV v, leafsAV vs with | some x, some xs => some (x :: xs) | _, _ => none
def toAV : Value → Option AV
  | .agg cs => (match leafsAV cs.toList with | some l => some (.agg l) | none => none)
  | v => leafAV v
theorem bytesOf_data (s : ByteArray) : bytesOf (s.data.toList.map UInt8.toNat) = s := by
  apply ByteArray.ext; apply Array.ext'
  show (List.map UInt8.ofNat (List.map UInt8.toNat s.data.toList)) = s.data.toList
  rw [List.map_map]; conv => rhs; rw [← List.map_id s.data.toList]
  exact List.map_congr_left fun x _ => by simp
theorem leafAV_ok {r : Rho} {v : Value} {x : AV} (h : leafAV v = some x) : RV r x v := by
  unfold leafAV at h
  split at h <;> (try cases h) <;> simp only [RV]
  · refine ⟨by rw [bytesOf_data], fun z hz => ?_⟩
    obtain ⟨u, _, rfl⟩ := List.mem_map.mp hz
    have := UInt8.toNat_lt u; omega
  · exact ⟨_, _, rfl, by simp [RVs], by simp [RVs]⟩
theorem leafsAV_ok {r : Rho} : ∀ {l : List Value} {x : List AV}, leafsAV l = some x → RVs r x l
  | [], x, h => by simp only [leafsAV, Option.some.injEq] at h; subst h; simp [RVs]
  | v :: vs, x, h => by
    simp only [leafsAV] at h
    split at h
    · rename_i y ys h1 h2; cases h; rw [RVs]; exact ⟨v, vs, rfl, leafAV_ok h1, leafsAV_ok h2⟩
    · cases h
theorem toAV_ok {r : Rho} {v : Value} {x : AV} (h : toAV v = some x) : RV r x v := by
  unfold toAV at h
  split at h
  · split at h
    · rename_i l hl; cases h; exact ⟨_, rfl, leafsAV_ok hl⟩
    · cases h
  · exact leafAV_ok h
def zeroAV (P : Program) (t : TypeId) : Option AV := match P.info? t with | some i => (match i.zero with | some z => toAV z | none => none) | none => none
theorem zeroAV_ok {P : Program} {t : TypeId} {x : AV} (h : zeroAV P t = some x) : ∃ i z, P.info? t = some i ∧ i.zero = some z ∧ (∀ r, RV r x z) ∧ (∀ w, (zeroValue t).run P w = .ok z w) := by
  unfold zeroAV at h
  split at h
  · rename_i i hi
    split at h
    · rename_i z hz
      exact ⟨i, z, hi, hz, fun r => toAV_ok h, fun w => by simp [zeroValue, typeInfo, hi, hz]⟩
    · cases h
  · cases h

/-- What an operation does to the heap. -/
inductive Ev where
  | val (v : AV) | load (n o k : Nat) (agg : Bool) | store (n o : Nat) (vs : List AV) | newP (vs : List AV) | newS (vs : List AV) (len : Nat)
  | app (sz bytes : Nat) (s x : AV) | bytes (n o len : Nat) | call (f : FuncId) (args : List AV) | bad
def Ev.of : Option AV → Ev
  | some v => .val v
  | none => .bad

def callable (P : Program) (f : FuncId) : Prop := ∃ fn, P.funcs[f]? = some fn ∧ fn.name ≠ "runtime.NumGoroutine" ∧ fn.body.isSome = true
def Sim (P : Program) (r : Rho) (s : Sem Next) : Ev → Prop
  | .val v => ∃ v', RV r v v' ∧ ∀ w, s.run P w = .ok (.value v') w
  | .load n o k agg => ∃ p, r n = some p ∧ (agg = false → k = 1) ∧ ∀ w (vs : List Value), vs.length = k → (∀ j v, vs[j]? = some v → w.cell? ⟨p.b, p.d + o + j, none⟩ = some v) →
      s.run P w = .ok (.value (if agg then .agg vs.toArray else vs.headD undef)) w
  | .store n o vs => ∃ p vs', r n = some p ∧ RVs r vs vs' ∧ (∀ w, (∀ j, j < vs'.length → (w.cell? ⟨p.b, p.d + o + j, none⟩).isSome = true) → (∀ j, j < vs'.length → w.frozen? ⟨p.b, p.d + o + j, none⟩ = false) →
      (∀ v ∈ vs', v.oneCell' = true) → s.run P w = .ok .skip (sets w p.b (p.d + o) vs'))
  | .newP vs => ∃ vs' ty, RVs r vs vs' ∧ ∀ w, s.run P w = .ok (.value (.pointer (some ⟨w.heap.size, 0, none⟩))) (w.alloc (.cells vs'.toArray ty))
  | .newS vs len => ∃ vs' ty, RVs r vs vs' ∧ ∀ w, s.run P w = .ok (.value (.slice (some ⟨w.heap.size, 0, none⟩) len len)) (w.alloc (.cells vs'.toArray ty))
  | .app sz by_ s1 x => ∃ t u d e i z s' x' ty, P.underlying t = some (.slice e) ∧ P.underlying u = some d ∧ (∀ k, d ≠ .int k) ∧ P.info? e = some i ∧ i.size = sz ∧ i.bytes = by_ ∧ i.zero = some z ∧ z.cells.size = sz ∧ RV r s1 s' ∧ RV r x x' ∧
      ∀ w, s.run P w = ((Builtin.append_ #[t, u] ty #[s', x']).run P w).andThen fun v w' => .ok (.value v) w'
  | .bytes n o len => ∃ p, r n = some p ∧ ∀ w (bs : List Nat), bs.length = len → (∀ x ∈ bs, x < 256) → (∀ (j b : Nat), bs[j]? = some b → w.cell? ⟨p.b, p.d + o + j, none⟩ = some (.int .u8 (b : Int))) →
      s.run P w = .ok (.value (.string (bytesOf bs))) w
  | .call f args => callable P f → ∃ args', RVs r args args'.toList ∧ ∀ w, s.run P w = .ok (.enter f args') w
  | .bad => True
theorem Sim.of {P : Program} {r : Rho} {s : Sem Value} {x : Option AV} (h : ∀ v, x = some v → Pur P r s v) : Sim P r (do pure (.value (← s))) (Ev.of x) := by
  cases x with
  | none => trivial
  | some v =>
    obtain ⟨v', hr, he⟩ := h v rfl
    exact ⟨v', hr, fun w => by simp [he]⟩

def loadEv (P : Program) (t : TypeId) : AV → Ev
  | .ptr n o => (match P.underlying t, P.info? t with | some _, some i => if isAggB P t then .load n o i.size true else .load n o 1 false | _, _ => .bad)
  | _ => .bad
theorem loadEv_ok {P : Program} {r : Rho} {t : TypeId} {a : AV} {a' : Value} (ha : RV r a a') : Sim P r (do pure (.value (← Instr.loadAt t a'))) (loadEv P t a) := by
  unfold loadEv
  split
  · rename_i n o
    simp only [RV] at ha; obtain ⟨p, hp, rfl⟩ := ha
    split
    · rename_i d i hd hi
      split
      · rename_i hb
        refine ⟨p, hp, by simp, fun w vs hl hc => ?_⟩
        have := run_loadCells_list (P := P) w ⟨p.b, p.d + o, none⟩ vs (fun j v e => by rw [addr_add]; exact hc j v e)
        rw [hl] at this
        simp [Instr.loadAt, Instr.sureAddr, loadVar, run_isAgg hd, hb, run_sizeOf hi, this]
      · rename_i hb
        refine ⟨p, hp, by simp, fun w vs hl hc => ?_⟩
        match vs, hl with
        | [v], _ =>
          have := hc 0 v rfl
          rw [Nat.add_zero] at this
          simp [Instr.loadAt, Instr.sureAddr, loadVar, run_isAgg hd, hb, this]
    · trivial
  · trivial
def storeEv (P : Program) (t : TypeId) (a x : AV) : Ev :=
  match a, P.info? t, x with
  | _, _, .tup _ => .bad
  | .ptr n o, some i, x => if Nat.beq x.cells.length i.size then .store n o x.cells else .bad
  | _, _, _ => .bad
theorem storeEv_ok {P : Program} {r : Rho} {t : TypeId} {a x : AV} {a' x' : Value} (ha : RV r a a') (hx : RV r x x') : Sim P r (do Instr.storeAt t a' x'; pure .skip) (storeEv P t a x) := by
  unfold storeEv
  split
  · trivial
  · rename_i n o i hi hnt
    simp only [RV] at ha; obtain ⟨p, hp, rfl⟩ := ha
    split
    · rename_i hsz
      have hsz := Nat.eq_of_beq_eq_true hsz
      have hcs := hx.cellsOf (fun l e => hnt l e)
      refine ⟨p, x'.cells.toList, hp, hcs, fun w h1 h2 h3 => ?_⟩
      have hl := hcs.length
      have hs : ¬ x'.cells.size ≠ i.size := by rw [← Array.length_toList, hl]; simp [hsz]
      have := run_sets (P := P) ⟨p.b, p.d + o, none⟩ x'.cells.toList 0 w rfl (fun j hj => by simpa using h1 j hj) (fun j hj => by simpa using h2 j hj) h3
      simp only [Nat.add_zero] at this
      simp only [Instr.storeAt, Instr.sureAddr, storeVar, Sem.run_bind, Sem.run_pure, Result.andThen_ok, run_sizeOf hi, hs, if_false, this]
    · trivial
  · trivial
def boxEv : AV → Ev
  | .tup _ => .bad
  | x => .newP x.cells
theorem boxEv_ok {P : Program} {r : Rho} {t : TypeId} {x : AV} {x' : Value} (hx : RV r x x') : Sim P r (do pure (.value (← Instr.box t x'))) (boxEv x) := by
  unfold boxEv
  split
  · trivial
  · rename_i hn
    refine ⟨x'.cells.toList, t, hx.cellsOf hn, fun w => ?_⟩
    simp [Instr.box, newVar, newRow]
def allocEv (P : Program) (t : TypeId) : Ev := match zeroAV P t with | some z => boxEv z | none => .bad
theorem allocEv_ok {P : Program} {r : Rho} {t : TypeId} : Sim P r (do pure (.value (← Instr.alloc t true (.tuple #[])))) (allocEv P t) := by
  unfold allocEv
  split
  · rename_i z hz
    obtain ⟨i, z', hi, hzz, hr, hrun⟩ := zeroAV_ok hz
    unfold boxEv
    split
    · trivial
    · rename_i hn
      refine ⟨z'.cells.toList, t, (hr r).cellsOf hn, fun w => ?_⟩
      simp [Instr.alloc, newVar, newRow, hrun]
  · trivial

def AV.isTup : AV → Bool
  | .tup _ => true
  | _ => false
theorem AV.not_tup {x : AV} (h : x.isTup = false) : ∀ l, x ≠ .tup l := fun l e => by subst e; cases h
def splice (cells : List AV) (off : Nat) (vs : List AV) : List AV := cells.take off ++ vs ++ cells.drop (off + vs.length)
theorem foldl_set (off : Nat) : ∀ (l : List Value) (j : Nat) (cs : Array Value), off + j + l.length ≤ cs.size →
    ((l.zipIdx j).foldl (fun cs (x : Value × Nat) => cs.setIfInBounds (off + x.2) x.1) cs).toList = cs.toList.take (off + j) ++ l ++ cs.toList.drop (off + j + l.length)
  | [], j, cs, h => by simp
  | v :: l, j, cs, h => by
    simp only [List.length_cons] at h
    rw [List.zipIdx_cons, List.foldl_cons, foldl_set off l (j + 1) _ (by simp; omega)]
    simp only [Array.toList_setIfInBounds]
    have h1 : (cs.toList.set (off + j) v).take (off + (j + 1)) = cs.toList.take (off + j) ++ [v] := by
      rw [show off + (j + 1) = off + j + 1 by omega, List.take_add_one]
      rw [List.getElem?_set_self (by simpa using (by omega : off + j < cs.size)), List.take_set_of_le (Nat.le_refl _)]; rfl
    have h2 : (cs.toList.set (off + j) v).drop (off + (j + 1) + l.length) = cs.toList.drop (off + j + (l.length + 1)) := by
      rw [List.drop_set_of_lt (by omega)]; congr 1; omega
    rw [h1, h2]; simp
def fillAV (place : Nat → Option (Nat × Nat)) (cells : List AV) : List (Nat × AV) → Option (List AV)
  | [] => some cells
  | (i, v) :: rest =>
    match place i with
    | none => none
    | some (off, size) => if Nat.beq v.cells.length size && (Nat.ble (off + v.cells.length) cells.length && !v.isTup) then fillAV place (splice cells off v.cells) rest else none
theorem fillAV_ok {r : Rho} {place : Nat → Option (Nat × Nat)} : ∀ {ps : List (Nat × AV)} {ps' : List (Nat × Value)} {cells : List AV} {cells' : Array Value} {out : List AV}, fillAV place cells ps = some out →
    ps'.length = ps.length → (∀ (j : Nat) x y, ps[j]? = some x → ps'[j]? = some y → x.1 = y.1 ∧ RV r x.2 y.2) → RVs r cells cells'.toList → ∃ out', Instr.fill place cells' ps' = some out' ∧ RVs r out out'.toList
  | [], [], cells, cells', out, h, _, _, hc => by simp only [fillAV, Option.some.injEq] at h; subst h; exact ⟨cells', rfl, hc⟩
  | (i, v) :: rest, [], _, _, _, _, hl, _, _ => by simp at hl
  | [], _ :: _, _, _, _, _, hl, _, _ => by simp at hl
  | (i, v) :: rest, (i', v') :: rest', cells, cells', out, h, hl, hr, hc => by
    obtain ⟨rfl, hv⟩ := hr 0 _ _ rfl rfl
    simp only [fillAV] at h
    cases hp : place i with
    | none => rw [hp] at h; cases h
    | some q =>
      obtain ⟨off, size⟩ := q
      rw [hp] at h
      simp only at h
      split at h
      · rename_i hb
        simp only [Bool.and_eq_true, Bool.not_eq_true'] at hb
        obtain ⟨b1, b2, b3⟩ := hb
        have b1 := Nat.eq_of_beq_eq_true b1
        have b2 := Nat.le_of_ble_eq_true b2
        have hvc := hv.cellsOf (AV.not_tup b3)
        have l1 : v'.cells.size = v.cells.length := by rw [← Array.length_toList]; exact hvc.length
        have l2 : cells'.size = cells.length := by rw [← Array.length_toList]; exact hc.length
        have hf := foldl_set off v'.cells.toList 0 cells' (by rw [Array.length_toList]; omega)
        rw [Nat.add_zero] at hf
        have hn : RVs r (splice cells off v.cells) ((v'.cells.zipIdx.foldl (fun cs (x : Value × Nat) => cs.setIfInBounds (off + x.2) x.1) cells')).toList := by
          rw [← Array.foldl_toList, Array.toList_zipIdx, hf, Array.length_toList, l1]
          exact ((hc.take off).append hvc).append (hc.drop _)
        obtain ⟨out', e1, e2⟩ := fillAV_ok h (by simpa using hl) (fun j x y h1 h2 => hr (j + 1) x y (by simpa using h1) (by simpa using h2)) hn
        refine ⟨out', ?_, e2⟩
        simp only [Instr.fill, hp]
        rw [if_neg (by simp; omega)]; exact e1
      · cases h

def placesAV (P : Program) : List Field → Option (List (Nat × Nat))
  | [] => some []
  | f :: fs => match P.info? f.type, placesAV P fs with
    | some i, some l => some ((f.offset, i.size) :: l)
    | _, _ => none
theorem placesAV_ok {P : Program} : ∀ {fs : List Field} {l : List (Nat × Nat)}, placesAV P fs = some l → ∀ w, (fs.mapM fun (f : Field) => (do pure (f.offset, ← sizeOf f.type) : Sem (Nat × Nat))).run P w = .ok l w
  | [], l, h, w => by simp only [placesAV, Option.some.injEq] at h; subst h; rfl
  | f :: fs, l, h, w => by
    simp only [placesAV] at h
    split at h
    · rename_i i l' hi hl
      cases h
      simp only [List.mapM_cons, Sem.run_bind, run_sizeOf hi, Result.andThen_ok, Sem.run_pure, placesAV_ok hl]
    · cases h
def structB (P : Program) (t : TypeId) : Option (List Field) := match P.underlying t with | some (.struct fs) => some fs.toList | _ => none
def buildAV (P : Program) (t : TypeId) (parts : List (Nat × AV)) : Option AV :=
  match zeroAV P t, structB P t with
  | some (.agg zs), some fs => (match placesAV P fs with | some pl => (match fillAV (fun i => pl[i]?) zs parts with | some out => some (.agg out) | none => none) | none => none)
  | _, _ => none
theorem buildAV_ok {P : Program} {r : Rho} {t : TypeId} {ps : List (Nat × AV)} {ps' : Array (Nat × Value)} {v : AV} (h : buildAV P t ps = some v) (hl : ps'.toList.length = ps.length)
    (hr : ∀ (j : Nat) x y, ps[j]? = some x → ps'.toList[j]? = some y → x.1 = y.1 ∧ RV r x.2 y.2) : Pur P r (Instr.build t ps') v := by
  unfold buildAV at h
  split at h
  · rename_i zs fs hz hfs
    obtain ⟨i, z', hi, hzz, hrz, hrun⟩ := zeroAV_ok hz
    split at h
    · rename_i pl hpl
      split at h
      · rename_i out hout
        cases h
        unfold structB at hfs
        split at hfs
        · rename_i fs0 hu
          cases hfs
          have hzr := hrz r
          simp only [RV] at hzr; obtain ⟨zc, rfl, hzc⟩ := hzr
          obtain ⟨out', e1, e2⟩ := fillAV_ok hout hl hr hzc
          refine ⟨.agg out', ⟨out', rfl, e2⟩, fun w => ?_⟩
          have hm := placesAV_ok hpl w
          have e1' : Instr.fill (fun i => pl.toArray[i]?) zc ps'.toList = some out' := by rw [← e1]; congr 1; funext j; simp
          simp only [Instr.build, Sem.run_bind, hrun, Result.andThen_ok, run_underlying hu, Value.cells, Array.mapM_eq_mapM_toList, Sem.run_map, hm, e1', Sem.run_pure]
        · cases hfs
      · cases h
    · cases h
  · cases h
def repAV (zs : List AV) : Nat → List AV
  | 0 => []
  | n + 1 => zs ++ repAV zs n
theorem rep_ok {r : Rho} {zs : List AV} {z : Array Value} (h : RVs r zs z.toList) (n : Nat) : RVs r (repAV zs n) ((Array.range (n * z.size)).map (z[· % z.size]!)).toList := by
  have key : ∀ n, ((Array.range (n * z.size)).map (z[· % z.size]!)).toList = (List.range (n * z.size)).map (z[· % z.size]!) := fun n => by simp
  rw [key]
  clear key
  induction n with
  | zero => simp [repAV, RVs]
  | succ n ih =>
    have hs : (List.range ((n + 1) * z.size)).map (z[· % z.size]!) = z.toList ++ (List.range (n * z.size)).map (z[· % z.size]!) := by
      rw [show (n + 1) * z.size = z.size + n * z.size by rw [Nat.succ_mul, Nat.add_comm], List.range_add, List.map_append]
      congr 1
      · apply List.ext_getElem?
        intro i
        by_cases hi : i < z.size
        · simp [hi, Nat.mod_eq_of_lt hi]
        · simp [hi, Nat.not_lt.mp hi]
      · rw [List.map_map]; apply List.map_congr_left; intro i _; simp
    rw [hs, repAV]; exact h.append ih
theorem rep_size {z : Array Value} (n : Nat) : ((Array.range (n * z.size)).map (z[· % z.size]!)).size = n * z.size := by simp

theorem arr0 (f : Nat → Value) : (Array.range 0).map f = #[] := by apply Array.ext'; simp
def natV : Option AV → Nat → Option Nat
  | none, d => some d
  | some (.int _ z), _ => natOf z
  | _, _ => none
theorem bytes_extract {s : List Nat} {l h : Nat} : (bytesOf s).extract l h = bytesOf ((s.drop l).take (h - l)) := by
  unfold bytesOf; rw [ByteArray.extract_mk, List.map_take, List.map_drop]
def sliceAV (P : Program) (t : TypeId) (a : AV) (lo hi : Option AV) : Option AV :=
  match P.underlying t, a with
  | some .string, .str s => (match natV lo 0, natV hi s.length with
    | some l, some h => if Nat.ble l h && Nat.ble h s.length then some (.str ((s.drop l).take (h - l))) else none
    | _, _ => none)
  | some (.slice e), .slice n o len ex c => (match natV lo 0, natV hi len, P.info? e with
    | some l, some h, some i => if Nat.ble l h && Nat.ble h len then
        (match ex with
         | true => some (.slice n (if Nat.beq c l then o else o + l * i.size) (h - l) true (c - l))
         | false => if Nat.blt l len && Nat.beq c i.size then some (.slice n (o + l * i.size) (h - l) false c) else none) else none
    | _, _, _ => none)
  | some (.slice e), .nilSlice => (match natV lo 0, natV hi 0, P.info? e with
    | some 0, some 0, some i => some .nilSlice
    | _, _, _ => none)
  | _, _ => none
def RVo (r : Rho) : Option AV → Option Value → Prop
  | none, none => True
  | some x, some v => RV r x v
  | _, _ => False
theorem run_bound {P : Program} {k : IntKind} {i : Int} {n y : Nat} {code : BoundsCode} (h : natOf i = some n) (hy : n ≤ y) (w : World) : (Instr.sliceBound (.int k i) y code).run P w = .ok n w := by
  have := natOf_ok h; subst this
  simp [Instr.sliceBound, asIntOf, hy]
theorem run_bounds {P : Program} {r : Rho} {isS : Bool} {len cap l h : Nat} {lo hi : Option AV} {lo' hi' : Option Value} (hl : RVo r lo lo') (hh : RVo r hi hi') (el : natV lo 0 = some l) (eh : natV hi len = some h) (h1 : l ≤ h) (h2 : h ≤ cap) (w : World) :
    (Instr.sliceBounds isS len cap lo' hi' none).run P w = .ok (l, h, cap) w := by
  unfold Instr.sliceBounds
  cases lo with
  | none =>
    cases lo' with
    | some _ => exact hl.elim
    | none =>
      simp only [natV, Option.some.injEq] at el; subst el
      cases hi with
      | none =>
        cases hi' with
        | some _ => exact hh.elim
        | none => simp only [natV, Option.some.injEq] at eh; subst eh; simp
      | some x =>
        cases hi' with
        | none => exact hh.elim
        | some v =>
          cases x <;> simp only [natV, reduceCtorEq] at eh
          simp only [RVo, RV] at hh; subst hh
          simp [run_bound eh h2]
  | some x =>
    cases lo' with
    | none => exact hl.elim
    | some v =>
      cases x <;> simp only [natV, reduceCtorEq] at el
      simp only [RVo, RV] at hl; subst hl
      cases hi with
      | none =>
        cases hi' with
        | some _ => exact hh.elim
        | none => simp only [natV, Option.some.injEq] at eh; subst eh; simp [run_bound el h1]
      | some x =>
        cases hi' with
        | none => exact hh.elim
        | some v =>
          cases x <;> simp only [natV, reduceCtorEq] at eh
          simp only [RVo, RV] at hh; subst hh
          simp [run_bound eh h2, run_bound el h1]
theorem sliceAV_ok {P : Program} {r : Rho} {t : TypeId} {a v : AV} {lo hi : Option AV} {a' : Value} {lo' hi' : Option Value} (h : sliceAV P t a lo hi = some v) (ha : RV r a a') (hl : RVo r lo lo') (hh : RVo r hi hi') :
    Pur P r (Instr.sliceAt t a' lo' hi' none) v := by
  unfold sliceAV at h
  split at h
  · rename_i s hu
    simp only [RV] at ha; obtain ⟨rfl, hs⟩ := ha
    split at h
    · rename_i l h0 el eh
      split at h
      · rename_i hb; cases h
        simp only [Bool.and_eq_true] at hb
        have b1 := Nat.le_of_ble_eq_true hb.1
        have b2 := Nat.le_of_ble_eq_true hb.2
        refine ⟨.string (bytesOf ((s.drop l).take (h0 - l))), ⟨rfl, fun z hz => hs z (List.mem_of_mem_drop (List.mem_of_mem_take hz))⟩, fun w => ?_⟩
        have := run_bounds (P := P) (isS := false) (cap := s.length) hl hh el eh b1 b2 w
        simp [Instr.sliceAt, Instr.slice, run_underlying hu, bytes_size, this, bytes_extract]
      · cases h
    · cases h
  · rename_i e n o len ex c hu
    simp only [RV] at ha; obtain ⟨p, c', hp, rfl, hlen, hcap⟩ := ha
    split at h
    · rename_i l h0 i el eh hi
      split at h
      · rename_i hb
        simp only [Bool.and_eq_true] at hb
        have b1 := Nat.le_of_ble_eq_true hb.1
        have b2 := Nat.le_of_ble_eq_true hb.2
        have hrun := fun w => run_bounds (P := P) (isS := true) (cap := c') hl hh el eh b1 (by omega) w
        cases ex with
        | true =>
          simp only [Option.some.injEq] at h; subst h
          simp only [capOk] at hcap; subst hcap
          by_cases hc : c' = l
          · subst hc
            refine ⟨.slice (some ⟨p.b, p.d + o, none⟩) (h0 - c') (c' - c'), ⟨p, c' - c', hp, by simp, by omega, by simp [capOk]⟩, fun w => ?_⟩
            simp [Instr.sliceAt, Instr.slice, run_underlying hu, hrun, run_sizeOf hi]
          · refine ⟨.slice (some ⟨p.b, p.d + o + l * i.size, none⟩) (h0 - l) (c' - l), ⟨p, c' - l, hp, by
              have : Nat.beq c' l = false := Bool.eq_false_iff.mpr fun e => hc (Nat.eq_of_beq_eq_true e)
              rw [this]; simp [Nat.add_assoc], by omega, by simp [capOk]⟩, fun w => ?_⟩
            simp [Instr.sliceAt, Instr.slice, run_underlying hu, hrun, run_sizeOf hi, hc, addr_add]
        | false =>
          simp only at h
          split at h
          · rename_i hb2; cases h
            simp only [Bool.and_eq_true] at hb2
            have b3 : l < len := Nat.le_of_ble_eq_true hb2.1
            have b4 := Nat.eq_of_beq_eq_true hb2.2
            subst b4
            obtain ⟨k1, k2⟩ := hcap
            have hne : c' ≠ l := by omega
            refine ⟨.slice (some ⟨p.b, p.d + o + l * i.size, none⟩) (h0 - l) (c' - l), ⟨p, c' - l, hp, by rw [Nat.add_assoc], by omega, k1, ?_⟩, fun w => ?_⟩
            · rw [← k2, Nat.sub_mul]; have : l * i.size ≤ c' * i.size := Nat.mul_le_mul_right _ (by omega); omega
            · simp [Instr.sliceAt, Instr.slice, run_underlying hu, hrun, run_sizeOf hi, hne, addr_add]
          · cases h
      · cases h
    · cases h
  · rename_i e hu
    simp only [RV] at ha; subst ha
    split at h
    · rename_i i el eh hi
      cases h
      refine ⟨_, rfl, fun w => ?_⟩
      have := run_bounds (P := P) (isS := true) (len := 0) (cap := 0) hl hh el eh (Nat.le_refl _) (Nat.le_refl _) w
      simp [Instr.sliceAt, Instr.slice, run_underlying hu, this, run_sizeOf hi]
    · cases h
  · cases h

def nilAV : AV → Option AV
  | .nilPtr | .nilIface | .nilFunc => none
  | .func (.func f) a b => some (.func (.func f) a b)
  | .func _ _ _ => none
  | v => some v
def lenAV (P : Program) (t : TypeId) (a : AV) : Option AV :=
  match P.underlying t, a with
  | some .string, .str s => some (.int .i64 s.length)
  | some (.slice _), .slice _ _ len _ _ => some (.int .i64 len)
  | some (.slice _), .nilSlice => some (.int .i64 0)
  | _, _ => none
theorem lenAV_ok {P : Program} {r : Rho} {t ty : TypeId} {a v : AV} {a' : Value} (h : lenAV P t a = some v) (ha : RV r a a') : Pur P r (Builtin.len_ #[t] ty #[a']) v := by
  unfold lenAV at h
  split at h
  · rename_i s hu; cases h; simp only [RV] at ha; obtain ⟨rfl, _⟩ := ha
    exact ⟨_, rfl, fun w => by simp [Builtin.len_, run_underlying hu, bytes_size, goInt]⟩
  · rename_i hu; cases h; simp only [RV] at ha; obtain ⟨p, c', hp, rfl, _⟩ := ha
    exact ⟨_, rfl, fun w => by simp [Builtin.len_, run_underlying hu, goInt]⟩
  · rename_i hu; cases h; simp only [RV] at ha; subst ha
    exact ⟨_, rfl, fun w => by simp [Builtin.len_, run_underlying hu, goInt]⟩
  · cases h
def mmAV (mx : Bool) : List AV → Option AV
  | [.int k a, .int k' b] => some (.int k (if mx then (if a < b then b else a) else (if b < a then b else a)))
  | [.int k a, .int k' b, .int k'' c] => let d := if mx then (if a < b then b else a) else (if b < a then b else a); some (.int k (if mx then (if d < c then c else d) else (if c < d then c else d)))
  | _ => none

def makeEv (P : Program) (t : TypeId) (l c : AV) : Ev :=
  match elemB P t, l, c with
  | some e, .int _ z, .int _ y => if z = y then (match natOf z, P.info? e, zeroAV P e with
    | some n, some i, some zv => if Nat.ble (n * i.bytes) 140737488355328 && (Nat.ble n 140737488355328 && (Nat.beq zv.cells.length i.size && !zv.isTup)) then .newS (repAV zv.cells n) n else .bad
    | _, _, _ => .bad) else .bad
  | _, _, _ => .bad
theorem wrap_nat {n : Nat} (h : n ≤ 140737488355328) : IntKind.i64.wrap (n : Int) = n := by
  rw [← fwrap_ok]; show (if Nat.ble n (IntKind.top .i64) then _ else _) = _
  rw [if_pos (Nat.ble_eq_true_of_le (by simp only [IntKind.top]; omega))]; rfl
theorem makeEv_ok {P : Program} {r : Rho} {t : TypeId} {l c : AV} {l' c' : Value} (hl : RV r l l') (hc : RV r c c') : Sim P r (do pure (.value (← Instr.makeSlice t l' c'))) (makeEv P t l c) := by
  unfold makeEv
  split
  · rename_i e k z k' y he
    have hu := elemB_ok he
    simp only [RV] at hl hc; subst hl; subst hc
    split
    · rename_i hzy; subst hzy
      split
      · rename_i n i zv hn hi hz
        have := natOf_ok hn; subst this
        split
        · rename_i hb
          simp only [Bool.and_eq_true, Bool.not_eq_true'] at hb
          obtain ⟨b1, b2, b3, b4⟩ := hb
          have b1 := Nat.le_of_ble_eq_true b1
          have b2 := Nat.le_of_ble_eq_true b2
          have b3 := Nat.eq_of_beq_eq_true b3
          obtain ⟨i', z', hi', hzz, hrz, hrun⟩ := zeroAV_ok hz
          rw [hi] at hi'; cases hi'
          have hcs := (hrz r).cellsOf (AV.not_tup b4)
          have hsz : z'.cells.size = i.size := by rw [← Array.length_toList, hcs.length, b3]
          refine ⟨((Array.range (n * z'.cells.size)).map (z'.cells[· % z'.cells.size]!)).toList, e, rep_ok hcs n, fun w => ?_⟩
          have hw := wrap_nat b2
          have h1 : ¬ ((n : Int) < 0) := by omega
          have h2 : ¬ ((i.bytes : Int) * (n : Int) > 281474976710656) := by
            have hm : (i.bytes : Int) * (n : Int) = ((n * i.bytes : Nat) : Int) := by rw [Int.natCast_mul, Int.mul_comm]
            rw [hm]; omega
          have hroom : (askRoom (n * i.bytes)).run P w = .ok () w := run_askRoom ..
          by_cases h0 : n * i.size = 0
          · have h0' : n * z'.cells.size = 0 := by rw [hsz]; exact h0
            simp [Instr.makeSlice, run_underlying hu, asInt, asIntOf, typeInfo, hi, hw, h1, h2, hroom, run_sizeOf hi, h0, newRow, h0']
            rw [arr0]
          · simp [Instr.makeSlice, run_underlying hu, asInt, asIntOf, typeInfo, hi, hw, h1, h2, hroom, run_sizeOf hi, h0, newRow, hrun, hsz]
            congr 2; apply Array.ext'; simp
        · trivial
      · trivial
    · trivial
  · trivial

def buildSliceEv (P : Program) (t : TypeId) (len : Nat) (ps : List (Nat × AV)) : Ev :=
  match elemB P t with
  | some e => (match P.info? e, zeroAV P e with
    | some i, some zv => if Nat.ble (len * i.size) 16777216 && (Nat.beq zv.cells.length i.size && !zv.isTup) then
        (match fillAV (fun j => some (j * i.size, i.size)) (repAV zv.cells len) ps with | some out => .newS out len | none => .bad) else .bad
    | _, _ => .bad)
  | none => .bad
theorem buildSliceEv_ok {P : Program} {r : Rho} {t : TypeId} {len : Nat} {ps : List (Nat × AV)} {ps' : Array (Nat × Value)} (hl : ps'.toList.length = ps.length)
    (hr : ∀ (j : Nat) x y, ps[j]? = some x → ps'.toList[j]? = some y → x.1 = y.1 ∧ RV r x.2 y.2) : Sim P r (do pure (.value (← Instr.buildSlice t len ps'))) (buildSliceEv P t len ps) := by
  unfold buildSliceEv
  split
  · rename_i e he
    have hu := elemB_ok he
    split
    · rename_i i zv hi hz
      split
      · rename_i hb
        simp only [Bool.and_eq_true, Bool.not_eq_true'] at hb
        obtain ⟨b1, b3, b4⟩ := hb
        have b1 := Nat.le_of_ble_eq_true b1
        have b3 := Nat.eq_of_beq_eq_true b3
        obtain ⟨i', z', hi', hzz, hrz, hrun⟩ := zeroAV_ok hz
        rw [hi] at hi'; cases hi'
        have hcs := (hrz r).cellsOf (AV.not_tup b4)
        have hsz : z'.cells.size = i.size := by rw [← Array.length_toList, hcs.length, b3]
        split
        · rename_i out hout
          obtain ⟨out', e1, e2⟩ := fillAV_ok hout hl hr (rep_ok hcs len)
          refine ⟨out'.toList, e, e2, fun w => ?_⟩
          have h24 : ¬ (16777216 < len * i.size) := by omega
          by_cases h0 : len * i.size = 0
          · have h0' : len * z'.cells.size = 0 := by rw [hsz]; exact h0
            rw [h0'] at e1
            rw [arr0] at e1
            simp only [Instr.buildSlice, Sem.run_bind, run_underlying hu, Result.andThen_ok, run_sizeOf hi, h0, if_true, Sem.run_pure]
            rw [if_neg (by decide)]
            try simp only [Sem.run_bind, Sem.run_pure, Result.andThen_ok]
            rw [arr0, e1]; simp [newRow]
          · rw [hsz] at e1
            simp only [Instr.buildSlice, Sem.run_bind, run_underlying hu, Result.andThen_ok, run_sizeOf hi, h0, if_false]
            rw [if_neg (show ¬ len * i.size > 2 ^ 24 from h24)]
            simp only [Sem.run_pure, Result.andThen_ok, Sem.run_bind, hrun]
            rw [hsz, e1]; simp [newRow]
        · trivial
      · trivial
    · trivial
  · trivial
end Go.Proofs.YtaoanbebgeeicaaGreatDoor.G
