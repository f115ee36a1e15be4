/- errors.Is and errors.As at a Fault over an Errno, and at an Errno: Go's own text walked, over the model's entries for internal/reflectlite; no conditions. -/
import Derived.Test.YtaoanbebgeeicaaGreatDoorProg
import GoSem.Extern.Table
import Derived.WalkKit
import Derived.KernelRfl
import Derived.LaidEql
import Derived.Stop.Asserts
import Derived.RowKitTokens
import Derived.Below
namespace Go.Proofs.YtaoanbebgeeicaaGreatDoor.H
open Go.RowKit Go.Extern.Stop Go.Stop Go.Extern
structure Aside0 (p : Prop) : Prop where
  out : p
def errn : Option Int → Value
  | none => .nilIface
  | some c => .iface 93 (.int .i64 c)
-- closed facts on the model's entries, at this program's types
theorem e_valueOfT (t : Addr) (w : World) : (ReflectliteValue.unpack (.iface 99 (.pointer (some t)))).run Tryz.prog w
    = .ok (.agg #[.pointer (some ⟨1, 99, none⟩), .pointer (some ⟨w.heap.size, 0, none⟩), .int .u64 150]) (w.alloc (.cells #[.pointer (some t)] 99)) := by kernel_rfl
theorem e_typeT (a : Addr) (w : World) : (ReflectliteValue.methodAny (ReflectliteValue.valueError "reflectlite.Value.Type" 0) (fun t _ _ _ => ReflectliteType.toType t) #[.agg #[.pointer (some ⟨1, 99, none⟩), .pointer (some a), .int .u64 150]]).run Tryz.prog w
    = .ok (.iface 168 (.agg #[.pointer (some ⟨1, 99, none⟩)])) w := by kernel_rfl
theorem e_valueOfE (t : Addr) (w : World) : (ReflectliteValue.unpack (.iface 104 (.pointer (some t)))).run Tryz.prog w
    = .ok (.agg #[.pointer (some ⟨1, 104, none⟩), .pointer (some ⟨w.heap.size, 0, none⟩), .int .u64 150]) (w.alloc (.cells #[.pointer (some t)] 104)) := by kernel_rfl
theorem e_typeE (a : Addr) (w : World) : (ReflectliteValue.methodAny (ReflectliteValue.valueError "reflectlite.Value.Type" 0) (fun t _ _ _ => ReflectliteType.toType t) #[.agg #[.pointer (some ⟨1, 104, none⟩), .pointer (some a), .int .u64 150]]).run Tryz.prog w
    = .ok (.iface 168 (.agg #[.pointer (some ⟨1, 104, none⟩)])) w := by kernel_rfl
theorem e_methodKind (h : Value) (w : World) : (Go.method 389 168 (.agg #[h]) "Kind").run Tryz.prog w = .ok (161, h) w := by kernel_rfl
theorem e_methodElem (h : Value) (w : World) : (Go.method 389 168 (.agg #[h]) "Elem").run Tryz.prog w = .ok (173, .agg #[h]) w := by kernel_rfl
theorem e_methodImplements (h : Value) (w : World) : (Go.method 389 168 (.agg #[h]) "Implements").run Tryz.prog w = .ok (174, .agg #[h]) w := by kernel_rfl
theorem e_methodAssignableTo (h : Value) (w : World) : (Go.method 389 168 (.agg #[h]) "AssignableTo").run Tryz.prog w = .ok (171, .agg #[h]) w := by kernel_rfl
theorem e_methodComparable (h : Value) (w : World) : (Go.method 389 168 (.agg #[h]) "Comparable").run Tryz.prog w = .ok (172, .agg #[h]) w := by kernel_rfl
theorem e_kindT (w : World) : ((ReflectliteType.abiMethod fun t => (fun a : Nat => Value.int IntKind.u8 (a : Int)) <$> Rtype.kind t) #[.pointer (some ⟨1, 99, none⟩)]).run Tryz.prog w = .ok (.int .u8 22) w := by kernel_rfl
theorem e_kindE (w : World) : ((ReflectliteType.abiMethod fun t => (fun a : Nat => Value.int IntKind.u8 (a : Int)) <$> Rtype.kind t) #[.pointer (some ⟨1, 104, none⟩)]).run Tryz.prog w = .ok (.int .u8 22) w := by kernel_rfl
theorem e_kindF (w : World) : ((ReflectliteType.abiMethod fun t => (fun a : Nat => Value.int IntKind.u8 (a : Int)) <$> Rtype.kind t) #[.pointer (some ⟨1, 97, none⟩)]).run Tryz.prog w = .ok (.int .u8 22) w := by kernel_rfl
theorem e_kindN (w : World) : ((ReflectliteType.abiMethod fun t => (fun a : Nat => Value.int IntKind.u8 (a : Int)) <$> Rtype.kind t) #[.pointer (some ⟨1, 93, none⟩)]).run Tryz.prog w = .ok (.int .u8 2) w := by kernel_rfl
theorem e_elemT (w : World) : (ReflectliteType.method ReflectliteType.elem #[.agg #[.pointer (some ⟨1, 99, none⟩)]]).run Tryz.prog w = .ok (.iface 168 (.agg #[.pointer (some ⟨1, 97, none⟩)])) w := by kernel_rfl
theorem e_elemE (w : World) : (ReflectliteType.method ReflectliteType.elem #[.agg #[.pointer (some ⟨1, 104, none⟩)]]).run Tryz.prog w = .ok (.iface 168 (.agg #[.pointer (some ⟨1, 93, none⟩)])) w := by kernel_rfl
theorem e_implementsF (w : World) : (ReflectliteType.relation "Implements" ReflectliteType.implements_ #[.agg #[.pointer (some ⟨1, 97, none⟩)], .iface 168 (.agg #[.pointer (some ⟨1, 34, none⟩)])]).run Tryz.prog w = .ok (.bool true) w := by kernel_rfl
theorem e_implementsN (w : World) : (ReflectliteType.relation "Implements" ReflectliteType.implements_ #[.agg #[.pointer (some ⟨1, 93, none⟩)], .iface 168 (.agg #[.pointer (some ⟨1, 34, none⟩)])]).run Tryz.prog w = .ok (.bool true) w := by kernel_rfl
theorem e_typeOfF (v : Value) (w : World) : (ReflectliteType.typeOf #[.iface 97 v]).run Tryz.prog w = .ok (.iface 168 (.agg #[.pointer (some ⟨1, 97, none⟩)])) w := by kernel_rfl
theorem e_typeOfN (v : Value) (w : World) : (ReflectliteType.typeOf #[.iface 93 v]).run Tryz.prog w = .ok (.iface 168 (.agg #[.pointer (some ⟨1, 93, none⟩)])) w := by kernel_rfl
theorem e_assignFF (w : World) : (ReflectliteType.relation "AssignableTo" ReflectliteType.assignableTo #[.agg #[.pointer (some ⟨1, 97, none⟩)], .iface 168 (.agg #[.pointer (some ⟨1, 97, none⟩)])]).run Tryz.prog w = .ok (.bool true) w := by kernel_rfl
theorem e_assignNF (w : World) : (ReflectliteType.relation "AssignableTo" ReflectliteType.assignableTo #[.agg #[.pointer (some ⟨1, 93, none⟩)], .iface 168 (.agg #[.pointer (some ⟨1, 97, none⟩)])]).run Tryz.prog w = .ok (.bool false) w := by kernel_rfl
theorem e_assignNN (w : World) : (ReflectliteType.relation "AssignableTo" ReflectliteType.assignableTo #[.agg #[.pointer (some ⟨1, 93, none⟩)], .iface 168 (.agg #[.pointer (some ⟨1, 93, none⟩)])]).run Tryz.prog w = .ok (.bool true) w := by kernel_rfl
theorem e_comparableN (w : World) : (ReflectliteType.method (fun t => do Rtype.noPackHeld "Comparable" t; (fun a => Value.bool a.comparable) <$> typeInfo t) #[.agg #[.pointer (some ⟨1, 93, none⟩)]]).run Tryz.prog w = .ok (.bool true) w := by kernel_rfl
theorem e_valueOfF (e : Addr) (w : World) : (ReflectliteValue.unpack (.iface 97 (.pointer (some e)))).run Tryz.prog w
    = .ok (.agg #[.pointer (some ⟨1, 97, none⟩), .pointer (some ⟨w.heap.size, 0, none⟩), .int .u64 150]) (w.alloc (.cells #[.pointer (some e)] 97)) := by kernel_rfl
theorem e_valueOfN (c : Int) (w : World) : (ReflectliteValue.unpack (.iface 93 (.int .i64 c))).run Tryz.prog w
    = .ok (.agg #[.pointer (some ⟨1, 93, none⟩), .pointer (some ⟨w.heap.size, 0, none⟩), .int .u64 130]) (w.alloc (.cells #[.int .i64 c] 93)) := by kernel_rfl
theorem t_isF (a : Value) (w : World) : (Instr.typeAssert (.iface 97 a) 34 170 true).run Tryz.prog w = .ok (.tuple #[.nilIface, .bool false]) w := run_typeAssert_lacksB Tryz.underlying170 (by kernel_rfl) (by kernel_rfl) a 34 w
theorem t_isN (a : Value) (w : World) : (Instr.typeAssert (.iface 93 a) 34 170 true).run Tryz.prog w = .ok (.tuple #[.nilIface, .bool false]) w := run_typeAssert_lacksB Tryz.underlying170 (by kernel_rfl) (by kernel_rfl) a 34 w
theorem t_asN (a : Value) (w : World) : (Instr.typeAssert (.iface 93 a) 34 180 true).run Tryz.prog w = .ok (.tuple #[.nilIface, .bool false]) w := run_typeAssert_lacksB Tryz.underlying180 (by kernel_rfl) (by kernel_rfl) a 34 w
theorem t_unF (a : Value) (w : World) : (Instr.typeAssert (.iface 97 a) 34 173 true).run Tryz.prog w = .ok (.tuple #[.iface 97 a, .bool true]) w := run_typeAssert_hasB Tryz.underlying173 (by kernel_rfl) a 34 w
theorem t_unN (a : Value) (w : World) : (Instr.typeAssert (.iface 93 a) 34 173 true).run Tryz.prog w = .ok (.tuple #[.nilIface, .bool false]) w := run_typeAssert_lacksB Tryz.underlying173 (by kernel_rfl) (by kernel_rfl) a 34 w
theorem t_usN (a : Value) (w : World) : (Instr.typeAssert (.iface 93 a) 34 175 true).run Tryz.prog w = .ok (.tuple #[.nilIface, .bool false]) w := run_typeAssert_lacksB Tryz.underlying175 (by kernel_rfl) (by kernel_rfl) a 34 w
theorem m_unwrap (a : Addr) (w : World) : (Go.method 389 97 (.pointer (some a)) "Unwrap").run Tryz.prog w = .ok (166, .pointer (some a)) w := by kernel_rfl
theorem q_FN (x y : Value) (w : World) : (binOp .eql 34 (.iface 97 x) (.iface 93 y)).run Tryz.prog w = .ok (.bool false) w := run_eql_iface_types 97 93 x y Tryz.underlying34 (by decide) w
theorem q_NN (c d : Int) (w : World) : (binOp .eql 34 (.iface 93 (.int .i64 c)) (.iface 93 (.int .i64 d))).run Tryz.prog w = .ok (.bool (c == d)) w := by
  have h : ∀ k, (Op.equalIn (k + 2) 34 (.iface 93 (.int .i64 c)) (.iface 93 (.int .i64 d))).run Tryz.prog w = .ok (c == d) w := fun k => by
    obtain ⟨i, hi⟩ : ∃ i, Tryz.prog.info? 93 = some i := by
      rcases h : Tryz.prog.info? 93 with _ | i
      · exact absurd (show (Tryz.prog.info? 93).isSome = true by kernel_rfl) (by rw [h]; decide)
      · exact ⟨i, rfl⟩
    have hc : i.comparable = true := by
      have h2 : (Tryz.prog.info? 93).map (·.comparable) = some true := by kernel_rfl
      rw [hi] at h2
      simpa using h2
    simp [Op.equalIn, run_underlying Tryz.underlying34, run_underlying Tryz.underlying93, typeInfo, hi, hc]
  simp only [binOp]
  simp [Op.equal, Op.maxDepth, h 9998]
-- the entries that read or write memory
theorem rlm (z : Sem Value) (f : TypeId → Addr → Nat → Nat → Sem Value) (v : Value) :
    ReflectliteValue.method z f #[v] = (do match ← ReflectliteValue.parts v with | none => z | some (t, a, fl) => f t a fl (fl % 32)) := rfl
theorem rls (v x : Value) : ReflectliteValue.set #[v, x] = (do
    let (some (dst, a, fl), some (src, b, _)) := (← ReflectliteValue.parts v, ← ReflectliteValue.parts x)
      | unsupported (.noEntry "extern/(internal/reflectlite.Value).Set.zeroValue")
    if fl / ReflectliteValue.flagAddr % 2 == 0 then unsupported (.noEntry "extern/(internal/reflectlite.Value).Set.unaddressable")
    let val ← loadVar src b
    if ← Rtype.directlyAssignable dst src then storeVar dst a val
    else if ← Rtype.implements dst src then
      if (← Rtype.kind src) == 20 then
        match val with
        | .nilIface => unsupported (.noEntry "extern/reflectlite: a nil value of one interface type handed on as a value of another")
        | _ => storeVar dst a val
      else storeVar dst a (.iface src val)
    else panicString ("reflectlite.Set: value of type " ++ (← Rtype.spelt src) ++ " is not assignable to type " ++ (← Rtype.spelt dst))
    pure (.tuple #[])) := rfl
theorem e_partsT (a : Addr) (w : World) : (ReflectliteValue.parts (.agg #[.pointer (some ⟨1, 99, none⟩), .pointer (some a), .int .u64 150])).run Tryz.prog w = .ok (some (99, a, 150)) w := by kernel_rfl
theorem e_partsE (a : Addr) (w : World) : (ReflectliteValue.parts (.agg #[.pointer (some ⟨1, 104, none⟩), .pointer (some a), .int .u64 150])).run Tryz.prog w = .ok (some (104, a, 150)) w := by kernel_rfl
theorem e_isNilT (a p : Addr) (W : World) (ha : W.cell? a = some (.pointer (some p))) :
    (ReflectliteValue.method (ReflectliteValue.valueError "reflectlite.Value.IsNil" 0) ReflectliteValue.isNil #[.agg #[.pointer (some ⟨1, 99, none⟩), .pointer (some a), .int .u64 150]]).run Tryz.prog W = .ok (.bool false) W := by
  rw [rlm]
  simp only [Sem.run_bind, e_partsT, Result.andThen]
  simp [ReflectliteValue.isNil, loadVar, isAgg, underlying, Tryz.underlying99, ha, Result.andThen]
theorem e_isNilE (a p : Addr) (W : World) (ha : W.cell? a = some (.pointer (some p))) :
    (ReflectliteValue.method (ReflectliteValue.valueError "reflectlite.Value.IsNil" 0) ReflectliteValue.isNil #[.agg #[.pointer (some ⟨1, 104, none⟩), .pointer (some a), .int .u64 150]]).run Tryz.prog W = .ok (.bool false) W := by
  rw [rlm]
  simp only [Sem.run_bind, e_partsE, Result.andThen]
  simp [ReflectliteValue.isNil, loadVar, isAgg, underlying, Tryz.underlying104, ha, Result.andThen]
theorem e_elemOfT (w : World) : (Rtype.elem? 99).run Tryz.prog w = .ok (some 97) w := by kernel_rfl
theorem e_elemOfE (w : World) : (Rtype.elem? 104).run Tryz.prog w = .ok (some 93) w := by kernel_rfl
theorem e_mkF (p : Addr) (w : World) : (ReflectliteValue.mk 97 p ReflectliteValue.flagAddr).run Tryz.prog w = .ok (.agg #[.pointer (some ⟨1, 97, none⟩), .pointer (some p), .int .u64 406]) w := by kernel_rfl
theorem e_mkN (p : Addr) (w : World) : (ReflectliteValue.mk 93 p ReflectliteValue.flagAddr).run Tryz.prog w = .ok (.agg #[.pointer (some ⟨1, 93, none⟩), .pointer (some p), .int .u64 386]) w := by kernel_rfl
theorem e_elemVT (a p : Addr) (W : World) (ha : W.cell? a = some (.pointer (some p))) :
    (ReflectliteValue.method (ReflectliteValue.valueError "reflectlite.Value.Elem" 0) ReflectliteValue.elem #[.agg #[.pointer (some ⟨1, 99, none⟩), .pointer (some a), .int .u64 150]]).run Tryz.prog W
      = .ok (.agg #[.pointer (some ⟨1, 97, none⟩), .pointer (some p), .int .u64 406]) W := by
  rw [rlm]
  simp only [Sem.run_bind, e_partsT, Result.andThen]
  simp [ReflectliteValue.elem, loadVar, isAgg, underlying, Tryz.underlying99, ha, Result.andThen, e_elemOfT, e_mkF]
theorem e_elemVE (a p : Addr) (W : World) (ha : W.cell? a = some (.pointer (some p))) :
    (ReflectliteValue.method (ReflectliteValue.valueError "reflectlite.Value.Elem" 0) ReflectliteValue.elem #[.agg #[.pointer (some ⟨1, 104, none⟩), .pointer (some a), .int .u64 150]]).run Tryz.prog W
      = .ok (.agg #[.pointer (some ⟨1, 93, none⟩), .pointer (some p), .int .u64 386]) W := by
  rw [rlm]
  simp only [Sem.run_bind, e_partsE, Result.andThen]
  simp [ReflectliteValue.elem, loadVar, isAgg, underlying, Tryz.underlying104, ha, Result.andThen, e_elemOfE, e_mkN]
theorem e_partsFa (a : Addr) (w : World) : (ReflectliteValue.parts (.agg #[.pointer (some ⟨1, 97, none⟩), .pointer (some a), .int .u64 406])).run Tryz.prog w = .ok (some (97, a, 406)) w := by kernel_rfl
theorem e_partsF (a : Addr) (w : World) : (ReflectliteValue.parts (.agg #[.pointer (some ⟨1, 97, none⟩), .pointer (some a), .int .u64 150])).run Tryz.prog w = .ok (some (97, a, 150)) w := by kernel_rfl
theorem e_partsNa (a : Addr) (w : World) : (ReflectliteValue.parts (.agg #[.pointer (some ⟨1, 93, none⟩), .pointer (some a), .int .u64 386])).run Tryz.prog w = .ok (some (93, a, 386)) w := by kernel_rfl
theorem e_partsN (a : Addr) (w : World) : (ReflectliteValue.parts (.agg #[.pointer (some ⟨1, 93, none⟩), .pointer (some a), .int .u64 130])).run Tryz.prog w = .ok (some (93, a, 130)) w := by kernel_rfl
theorem e_directF (w : World) : (Rtype.directlyAssignable 97 97).run Tryz.prog w = .ok true w := by kernel_rfl
theorem e_directN (w : World) : (Rtype.directlyAssignable 93 93).run Tryz.prog w = .ok true w := by kernel_rfl
theorem e_setF (ta b e : Addr) (old : Value) (W : World) (hb : W.cell? b = some (.pointer (some e))) (ht : W.cell? ta = some old) (hf : W.frozen? ta = false) :
    (ReflectliteValue.set #[.agg #[.pointer (some ⟨1, 97, none⟩), .pointer (some ta), .int .u64 406], .agg #[.pointer (some ⟨1, 97, none⟩), .pointer (some b), .int .u64 150]]).run Tryz.prog W
      = .ok (.tuple #[]) (W.setCell ta (.pointer (some e))) := by
  rw [rls]
  simp only [Sem.run_bind, e_partsFa, e_partsF, Result.andThen]
  simp [ReflectliteValue.flagAddr, loadVar, isAgg, underlying, Tryz.underlying97, hb, Result.andThen, e_directF, storeVar, Value.cells, storeCells, Addr.add]
  rw [run_store Tryz.prog W ta _ _ (by rfl)]
  simp [ht, hf]
theorem e_setN (ta b : Addr) (c : Int) (old : Value) (W : World) (hb : W.cell? b = some (.int .i64 c)) (ht : W.cell? ta = some old) (hf : W.frozen? ta = false) :
    (ReflectliteValue.set #[.agg #[.pointer (some ⟨1, 93, none⟩), .pointer (some ta), .int .u64 386], .agg #[.pointer (some ⟨1, 93, none⟩), .pointer (some b), .int .u64 130]]).run Tryz.prog W
      = .ok (.tuple #[]) (W.setCell ta (.int .i64 c)) := by
  rw [rls]
  simp only [Sem.run_bind, e_partsNa, e_partsN, Result.andThen]
  simp [ReflectliteValue.flagAddr, loadVar, isAgg, underlying, Tryz.underlying93, hb, Result.andThen, e_directN, storeVar, Value.cells, storeCells, Addr.add]
  rw [run_store Tryz.prog W ta _ _ (by rfl)]
  simp [ht, hf]
/-- What errors.As reads of its package-level variable. -/
def ErrTy (w : World) : Prop := w.cell? ⟨0, 0, none⟩ = some (.iface 168 (.agg #[.pointer (some ⟨1, 34, none⟩)]))
theorem ErrTy.lt {w : World} (h : ErrTy w) : 0 < w.heap.size := World.block_lt_of_cell? w _ h
theorem ErrTy.below {w W : World} (h : ErrTy w) (hb : Below w.heap.size w W) : ErrTy W := (hb.cell (p := ⟨0, 0, none⟩) h.lt).trans h
set_option maxHeartbeats 4000000 in
set_option maxRecDepth 100000 in
theorem as_fault (e t : Addr) (old : Value) (w : World) (hg : ErrTy w) (ht0 : w.cell? t = some old) (hf0 : w.frozen? t = false) :
    Calls Tryz.prog 30 #[.iface 97 (.pointer (some e)), .iface 99 (.pointer (some t))] w fun ev w' => ev = .returned (.bool true) ∧ w' = ((((w.alloc (.cells #[.pointer (some t)] 99)).alloc (.cells #[.pointer (some ⟨1, 99, none⟩), .pointer (some ⟨w.heap.size, 0, none⟩), .int .u64 150] 136)).alloc (.cells #[.pointer (some ⟨1, 99, none⟩), .pointer (some ⟨w.heap.size, 0, none⟩), .int .u64 150] 136)).alloc (.cells #[.pointer (some e)] 97)).setCell t (.pointer (some e)) := by
  have hlt := hg.lt
  unfold ErrTy at hg
  have h6 := @run_callFunc_extern Tryz.prog 44 _ (fun args => ReflectliteValue.unpack (args.getD 0 (.tuple #[]))) Tryz.func44 (by kernel_rfl) (by kernel_rfl) (by kernel_rfl) (by kernel_rfl)
  have h7 := @run_callFunc_extern Tryz.prog 45 _ (ReflectliteValue.methodAny (ReflectliteValue.valueError "reflectlite.Value.Type" 0) (fun t _ _ _ => ReflectliteType.toType t)) Tryz.func45 (by kernel_rfl) (by kernel_rfl) (by kernel_rfl) (by kernel_rfl)
  have h8 := @run_callFunc_extern Tryz.prog 46 _ (ReflectliteValue.method (ReflectliteValue.valueError "reflectlite.Value.IsNil" 0) ReflectliteValue.isNil) Tryz.func46 (by kernel_rfl) (by kernel_rfl) (by kernel_rfl) (by kernel_rfl)
  have h27 := @run_callFunc_extern Tryz.prog 161 _ (ReflectliteType.abiMethod fun t => do pure (.int .u8 (← Rtype.kind t))) Tryz.func161 (by kernel_rfl) (by kernel_rfl) (by kernel_rfl) (by kernel_rfl)
  have h37 := @run_callFunc_extern Tryz.prog 173 _ (ReflectliteType.method ReflectliteType.elem) Tryz.func173 (by kernel_rfl) (by kernel_rfl) (by kernel_rfl) (by kernel_rfl)
  have h38 := @run_callFunc_extern Tryz.prog 174 _ (ReflectliteType.relation "Implements" ReflectliteType.implements_) Tryz.func174 (by kernel_rfl) (by kernel_rfl) (by kernel_rfl) (by kernel_rfl)
  have h10 := @run_callFunc_extern Tryz.prog 42 _ ReflectliteType.typeOf Tryz.func42 (by kernel_rfl) (by kernel_rfl) (by kernel_rfl) (by kernel_rfl)
  have h35 := @run_callFunc_extern Tryz.prog 171 _ (ReflectliteType.relation "AssignableTo" ReflectliteType.assignableTo) Tryz.func171 (by kernel_rfl) (by kernel_rfl) (by kernel_rfl) (by kernel_rfl)
  have h11 := @run_callFunc_extern Tryz.prog 65 _ (ReflectliteValue.method (ReflectliteValue.valueError "reflectlite.Value.Elem" 0) ReflectliteValue.elem) Tryz.func65 (by kernel_rfl) (by kernel_rfl) (by kernel_rfl) (by kernel_rfl)
  have h12 := @run_callFunc_extern Tryz.prog 66 _ ReflectliteValue.set Tryz.func66 (by kernel_rfl) (by kernel_rfl) (by kernel_rfl) (by kernel_rfl)
  have tO := e_typeOfF
  have mA := e_methodAssignableTo
  have a25 := e_assignFF
  have v25 := e_valueOfF
  have f6 := e_valueOfT
  have f7 := e_typeT
  have mK := e_methodKind
  have mE := e_methodElem
  have mI := e_methodImplements
  have k27 := e_kindT
  have k25 := e_kindF
  have e27 := e_elemT
  have i25 := e_implementsF
  have n8 := e_isNilT ⟨w.heap.size, 0, none⟩ t ((w.alloc (.cells #[.pointer (some t)] 99)).alloc (.cells #[.pointer (some ⟨1, 99, none⟩), .pointer (some ⟨w.heap.size, 0, none⟩), .int .u64 150] 136)) (by simp)
  have hg2 : ((w.alloc (.cells #[.pointer (some t)] 99)).alloc (.cells #[.pointer (some ⟨1, 99, none⟩), .pointer (some ⟨w.heap.size, 0, none⟩), .int .u64 150] 136)).cell? ⟨0, 0, none⟩ = some (.iface 168 (.agg #[.pointer (some ⟨1, 34, none⟩)])) := by
    rw [World.cell?_alloc_lt _ _ ⟨0, 0, none⟩ (by first | (simp; done) | (simp; omega)), World.cell?_alloc_lt _ _ ⟨0, 0, none⟩ hlt]; exact hg
  have htl : t.block < w.heap.size := World.block_lt_of_cell? w _ ht0
  have el := e_elemVT ⟨w.heap.size, 0, none⟩ t (((w.alloc (.cells #[.pointer (some t)] 99)).alloc (.cells #[.pointer (some ⟨1, 99, none⟩), .pointer (some ⟨w.heap.size, 0, none⟩), .int .u64 150] 136)).alloc (.cells #[.pointer (some ⟨1, 99, none⟩), .pointer (some ⟨w.heap.size, 0, none⟩), .int .u64 150] 136)) (by rw [World.cell?_alloc_lt _ _ ⟨w.heap.size, 0, none⟩ (by simp; omega)]; simp)
  have st := e_setF t ⟨w.heap.size + 1 + 1 + 1, 0, none⟩ e old ((((w.alloc (.cells #[.pointer (some t)] 99)).alloc (.cells #[.pointer (some ⟨1, 99, none⟩), .pointer (some ⟨w.heap.size, 0, none⟩), .int .u64 150] 136)).alloc (.cells #[.pointer (some ⟨1, 99, none⟩), .pointer (some ⟨w.heap.size, 0, none⟩), .int .u64 150] 136)).alloc (.cells #[.pointer (some e)] 97))
    (by rw [World.cell?_alloc_at _ _ _ _ (by simp)]; rfl)
    (by rw [World.cell?_alloc_lt _ _ t (by simp; omega), World.cell?_alloc_lt _ _ t (by simp; omega), World.cell?_alloc_lt _ _ t (by simp; omega), World.cell?_alloc_lt _ _ t htl]; exact ht0)
    (by rw [World.frozen?_alloc_old _ _ t (by simp; omega), World.frozen?_alloc_old _ _ t (by simp; omega), World.frozen?_alloc_old _ _ t (by simp; omega), World.frozen?_alloc_old _ _ t (Nat.ne_of_lt htl)]; exact hf0)
  go_enter Tryz.func30, Tryz.ntmps30
  go_wp2
  refine wp_loop_rounds 1 ?_
  rw [rounds_succ]
  go_wp2
  go_ret
  exact ⟨rfl, rfl⟩
set_option maxHeartbeats 4000000 in
set_option maxRecDepth 100000 in
theorem as_miss (c : Int) (t : Addr) (w : World) (hg : ErrTy w) :
    Calls Tryz.prog 30 #[.iface 93 (.int .i64 c), .iface 99 (.pointer (some t))] w fun ev w' => ev = .returned (.bool false) ∧ w' = (((w.alloc (.cells #[.pointer (some t)] 99)).alloc (.cells #[.pointer (some ⟨1, 99, none⟩), .pointer (some ⟨w.heap.size, 0, none⟩), .int .u64 150] 136)).alloc (.cells #[.pointer (some ⟨1, 99, none⟩), .pointer (some ⟨w.heap.size, 0, none⟩), .int .u64 150] 136)) := by
  have hlt := hg.lt
  unfold ErrTy at hg
  have h6 := @run_callFunc_extern Tryz.prog 44 _ (fun args => ReflectliteValue.unpack (args.getD 0 (.tuple #[]))) Tryz.func44 (by kernel_rfl) (by kernel_rfl) (by kernel_rfl) (by kernel_rfl)
  have h7 := @run_callFunc_extern Tryz.prog 45 _ (ReflectliteValue.methodAny (ReflectliteValue.valueError "reflectlite.Value.Type" 0) (fun t _ _ _ => ReflectliteType.toType t)) Tryz.func45 (by kernel_rfl) (by kernel_rfl) (by kernel_rfl) (by kernel_rfl)
  have h8 := @run_callFunc_extern Tryz.prog 46 _ (ReflectliteValue.method (ReflectliteValue.valueError "reflectlite.Value.IsNil" 0) ReflectliteValue.isNil) Tryz.func46 (by kernel_rfl) (by kernel_rfl) (by kernel_rfl) (by kernel_rfl)
  have h27 := @run_callFunc_extern Tryz.prog 161 _ (ReflectliteType.abiMethod fun t => do pure (.int .u8 (← Rtype.kind t))) Tryz.func161 (by kernel_rfl) (by kernel_rfl) (by kernel_rfl) (by kernel_rfl)
  have h37 := @run_callFunc_extern Tryz.prog 173 _ (ReflectliteType.method ReflectliteType.elem) Tryz.func173 (by kernel_rfl) (by kernel_rfl) (by kernel_rfl) (by kernel_rfl)
  have h38 := @run_callFunc_extern Tryz.prog 174 _ (ReflectliteType.relation "Implements" ReflectliteType.implements_) Tryz.func174 (by kernel_rfl) (by kernel_rfl) (by kernel_rfl) (by kernel_rfl)
  have h10 := @run_callFunc_extern Tryz.prog 42 _ ReflectliteType.typeOf Tryz.func42 (by kernel_rfl) (by kernel_rfl) (by kernel_rfl) (by kernel_rfl)
  have h35 := @run_callFunc_extern Tryz.prog 171 _ (ReflectliteType.relation "AssignableTo" ReflectliteType.assignableTo) Tryz.func171 (by kernel_rfl) (by kernel_rfl) (by kernel_rfl) (by kernel_rfl)
  have h11 := @run_callFunc_extern Tryz.prog 65 _ (ReflectliteValue.method (ReflectliteValue.valueError "reflectlite.Value.Elem" 0) ReflectliteValue.elem) Tryz.func65 (by kernel_rfl) (by kernel_rfl) (by kernel_rfl) (by kernel_rfl)
  have h12 := @run_callFunc_extern Tryz.prog 66 _ ReflectliteValue.set Tryz.func66 (by kernel_rfl) (by kernel_rfl) (by kernel_rfl) (by kernel_rfl)
  have tO := e_typeOfN
  have mA := e_methodAssignableTo
  have a25 := e_assignNF
  have f6 := e_valueOfT
  have f7 := e_typeT
  have mK := e_methodKind
  have mE := e_methodElem
  have mI := e_methodImplements
  have k27 := e_kindT
  have k25 := e_kindF
  have e27 := e_elemT
  have i25 := e_implementsF
  have tA := t_asN
  have tU := t_unN
  have tS := t_usN
  have n8 := e_isNilT ⟨w.heap.size, 0, none⟩ t ((w.alloc (.cells #[.pointer (some t)] 99)).alloc (.cells #[.pointer (some ⟨1, 99, none⟩), .pointer (some ⟨w.heap.size, 0, none⟩), .int .u64 150] 136)) (by simp)
  have hg2 : ((w.alloc (.cells #[.pointer (some t)] 99)).alloc (.cells #[.pointer (some ⟨1, 99, none⟩), .pointer (some ⟨w.heap.size, 0, none⟩), .int .u64 150] 136)).cell? ⟨0, 0, none⟩ = some (.iface 168 (.agg #[.pointer (some ⟨1, 34, none⟩)])) := by
    rw [World.cell?_alloc_lt _ _ ⟨0, 0, none⟩ (by first | (simp; done) | (simp; omega)), World.cell?_alloc_lt _ _ ⟨0, 0, none⟩ hlt]; exact hg
  go_enter Tryz.func30, Tryz.ntmps30
  go_wp2
  refine wp_loop_rounds 1 ?_
  rw [rounds_succ]
  go_wp2
  go_ret
  exact ⟨rfl, rfl⟩
set_option maxHeartbeats 4000000 in
set_option maxRecDepth 100000 in
theorem as_errno (c : Int) (t : Addr) (old : Value) (w : World) (hg : ErrTy w) (ht0 : w.cell? t = some old) (hf0 : w.frozen? t = false) :
    Calls Tryz.prog 30 #[.iface 93 (.int .i64 c), .iface 104 (.pointer (some t))] w fun ev w' => ev = .returned (.bool true) ∧ w' = ((((w.alloc (.cells #[.pointer (some t)] 104)).alloc (.cells #[.pointer (some ⟨1, 104, none⟩), .pointer (some ⟨w.heap.size, 0, none⟩), .int .u64 150] 136)).alloc (.cells #[.pointer (some ⟨1, 104, none⟩), .pointer (some ⟨w.heap.size, 0, none⟩), .int .u64 150] 136)).alloc (.cells #[.int .i64 c] 93)).setCell t (.int .i64 c) := by
  have hlt := hg.lt
  unfold ErrTy at hg
  have h6 := @run_callFunc_extern Tryz.prog 44 _ (fun args => ReflectliteValue.unpack (args.getD 0 (.tuple #[]))) Tryz.func44 (by kernel_rfl) (by kernel_rfl) (by kernel_rfl) (by kernel_rfl)
  have h7 := @run_callFunc_extern Tryz.prog 45 _ (ReflectliteValue.methodAny (ReflectliteValue.valueError "reflectlite.Value.Type" 0) (fun t _ _ _ => ReflectliteType.toType t)) Tryz.func45 (by kernel_rfl) (by kernel_rfl) (by kernel_rfl) (by kernel_rfl)
  have h8 := @run_callFunc_extern Tryz.prog 46 _ (ReflectliteValue.method (ReflectliteValue.valueError "reflectlite.Value.IsNil" 0) ReflectliteValue.isNil) Tryz.func46 (by kernel_rfl) (by kernel_rfl) (by kernel_rfl) (by kernel_rfl)
  have h27 := @run_callFunc_extern Tryz.prog 161 _ (ReflectliteType.abiMethod fun t => do pure (.int .u8 (← Rtype.kind t))) Tryz.func161 (by kernel_rfl) (by kernel_rfl) (by kernel_rfl) (by kernel_rfl)
  have h37 := @run_callFunc_extern Tryz.prog 173 _ (ReflectliteType.method ReflectliteType.elem) Tryz.func173 (by kernel_rfl) (by kernel_rfl) (by kernel_rfl) (by kernel_rfl)
  have h38 := @run_callFunc_extern Tryz.prog 174 _ (ReflectliteType.relation "Implements" ReflectliteType.implements_) Tryz.func174 (by kernel_rfl) (by kernel_rfl) (by kernel_rfl) (by kernel_rfl)
  have h10 := @run_callFunc_extern Tryz.prog 42 _ ReflectliteType.typeOf Tryz.func42 (by kernel_rfl) (by kernel_rfl) (by kernel_rfl) (by kernel_rfl)
  have h35 := @run_callFunc_extern Tryz.prog 171 _ (ReflectliteType.relation "AssignableTo" ReflectliteType.assignableTo) Tryz.func171 (by kernel_rfl) (by kernel_rfl) (by kernel_rfl) (by kernel_rfl)
  have h11 := @run_callFunc_extern Tryz.prog 65 _ (ReflectliteValue.method (ReflectliteValue.valueError "reflectlite.Value.Elem" 0) ReflectliteValue.elem) Tryz.func65 (by kernel_rfl) (by kernel_rfl) (by kernel_rfl) (by kernel_rfl)
  have h12 := @run_callFunc_extern Tryz.prog 66 _ ReflectliteValue.set Tryz.func66 (by kernel_rfl) (by kernel_rfl) (by kernel_rfl) (by kernel_rfl)
  have tO := e_typeOfN
  have mA := e_methodAssignableTo
  have a25 := e_assignNN
  have v25 := e_valueOfN
  have f6 := e_valueOfE
  have f7 := e_typeE
  have mK := e_methodKind
  have mE := e_methodElem
  have mI := e_methodImplements
  have k27 := e_kindE
  have k25 := e_kindN
  have e27 := e_elemE
  have i25 := e_implementsN
  have n8 := e_isNilE ⟨w.heap.size, 0, none⟩ t ((w.alloc (.cells #[.pointer (some t)] 104)).alloc (.cells #[.pointer (some ⟨1, 104, none⟩), .pointer (some ⟨w.heap.size, 0, none⟩), .int .u64 150] 136)) (by simp)
  have hg2 : ((w.alloc (.cells #[.pointer (some t)] 104)).alloc (.cells #[.pointer (some ⟨1, 104, none⟩), .pointer (some ⟨w.heap.size, 0, none⟩), .int .u64 150] 136)).cell? ⟨0, 0, none⟩ = some (.iface 168 (.agg #[.pointer (some ⟨1, 34, none⟩)])) := by
    rw [World.cell?_alloc_lt _ _ ⟨0, 0, none⟩ (by first | (simp; done) | (simp; omega)), World.cell?_alloc_lt _ _ ⟨0, 0, none⟩ hlt]; exact hg
  have htl : t.block < w.heap.size := World.block_lt_of_cell? w _ ht0
  have el := e_elemVE ⟨w.heap.size, 0, none⟩ t (((w.alloc (.cells #[.pointer (some t)] 104)).alloc (.cells #[.pointer (some ⟨1, 104, none⟩), .pointer (some ⟨w.heap.size, 0, none⟩), .int .u64 150] 136)).alloc (.cells #[.pointer (some ⟨1, 104, none⟩), .pointer (some ⟨w.heap.size, 0, none⟩), .int .u64 150] 136)) (by rw [World.cell?_alloc_lt _ _ ⟨w.heap.size, 0, none⟩ (by simp; omega)]; simp)
  have st := e_setN t ⟨w.heap.size + 1 + 1 + 1, 0, none⟩ c old ((((w.alloc (.cells #[.pointer (some t)] 104)).alloc (.cells #[.pointer (some ⟨1, 104, none⟩), .pointer (some ⟨w.heap.size, 0, none⟩), .int .u64 150] 136)).alloc (.cells #[.pointer (some ⟨1, 104, none⟩), .pointer (some ⟨w.heap.size, 0, none⟩), .int .u64 150] 136)).alloc (.cells #[.int .i64 c] 93))
    (by rw [World.cell?_alloc_at _ _ _ _ (by simp)]; rfl)
    (by rw [World.cell?_alloc_lt _ _ t (by simp; omega), World.cell?_alloc_lt _ _ t (by simp; omega), World.cell?_alloc_lt _ _ t (by simp; omega), World.cell?_alloc_lt _ _ t htl]; exact ht0)
    (by rw [World.frozen?_alloc_old _ _ t (by simp; omega), World.frozen?_alloc_old _ _ t (by simp; omega), World.frozen?_alloc_old _ _ t (by simp; omega), World.frozen?_alloc_old _ _ t (Nat.ne_of_lt htl)]; exact hf0)
  go_enter Tryz.func30, Tryz.ntmps30
  go_wp2
  refine wp_loop_rounds 1 ?_
  rw [rounds_succ]
  go_wp2
  go_ret
  exact ⟨rfl, rfl⟩
theorem unwrap_calls (e : Addr) (v : Value) (w : World) (hn : w.cell? ⟨e.block, e.off + 2, none⟩ = some v) :
    Calls Tryz.prog 166 #[.pointer (some e)] w fun ev w' => ev = .returned v ∧ w = w' := by
  go_enter Tryz.func166, Tryz.ntmps166
  go_wp2
  go_ret
  exact ⟨rfl, rfl⟩
set_option maxHeartbeats 4000000 in
set_option maxRecDepth 100000 in
theorem is_fault (e : Addr) (no : Option Int) (d : Int) (w : World) (hn : w.cell? ⟨e.block, e.off + 2, none⟩ = some (errn no)) :
    Calls Tryz.prog 29 #[.iface 97 (.pointer (some e)), .iface 93 (.int .i64 d)] w fun ev w' => ev = .returned (.bool (no == some d)) ∧ w' = w := by
  have h10 := @run_callFunc_extern Tryz.prog 42 _ ReflectliteType.typeOf Tryz.func42 (by kernel_rfl) (by kernel_rfl) (by kernel_rfl) (by kernel_rfl)
  have h99 := @run_callFunc_extern Tryz.prog 172 _ (ReflectliteType.method (fun t => do Rtype.noPackHeld "Comparable" t; pure (.bool (← typeInfo t).comparable))) Tryz.func172 (by kernel_rfl) (by kernel_rfl) (by kernel_rfl) (by kernel_rfl)
  have tO := e_typeOfN
  have mC := e_methodComparable
  have cC := e_comparableN
  have qF := q_FN
  have tI := t_isF
  have tU := t_unF
  have mU := m_unwrap
  cases no with
  | none =>
    have hn' := Aside0.mk (show w.cell? ⟨e.block, e.off + 2, none⟩ = some .nilIface from hn)
    clear hn
    go_enter Tryz.func29, Tryz.ntmps29
    go_wp2
    refine wp_loop_rounds 1 ?_
    rw [rounds_succ]
    go_wp2_with (go_at_call 166; refine (unwrap_calls e _ _ hn'.out).mono ?_; rintro _ w' ⟨rfl, rfl⟩)
    go_ret
    exact ⟨rfl, rfl⟩
  | some c =>
    have hn' := Aside0.mk (show w.cell? ⟨e.block, e.off + 2, none⟩ = some (.iface 93 (.int .i64 c)) from hn)
    clear hn
    have qN := q_NN
    have tN := t_isN
    have uN := t_unN
    have sN := t_usN
    by_cases hcd : c = d
    · subst hcd
      go_enter Tryz.func29, Tryz.ntmps29
      go_wp2
      refine wp_loop_rounds 2 ?_
      rw [rounds_succ]
      go_wp2_with (go_at_call 166; refine (unwrap_calls e _ _ hn'.out).mono ?_; rintro _ w' ⟨rfl, rfl⟩)
      rw [rounds_succ]
      go_wp2
      go_ret
      exact ⟨by simp, rfl⟩
    · have hcb : (c == d) = false := by simpa using hcd
      go_enter Tryz.func29, Tryz.ntmps29
      go_wp2
      refine wp_loop_rounds 2 ?_
      rw [rounds_succ]
      go_wp2_with (go_at_call 166; refine (unwrap_calls e _ _ hn'.out).mono ?_; rintro _ w' ⟨rfl, rfl⟩)
      rw [rounds_succ]
      go_wp2
      go_ret
      exact ⟨by simp [hcd], rfl⟩
end Go.Proofs.YtaoanbebgeeicaaGreatDoor.H
