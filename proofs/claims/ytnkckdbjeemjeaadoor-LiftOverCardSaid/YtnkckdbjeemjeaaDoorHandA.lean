/- errors.Is and errors.As at a Fault over an Errno, and at an Errno: Go's own text walked, over the model's entries for internal/reflectlite; no conditions. -/
import Derived.Test.YtnkckdbjeemjeaaDoorFlt
import Derived.WalkKit
import Derived.KernelRfl
import Derived.LaidEql
import Derived.Stop.Asserts
import Derived.RowKitTokens
import Derived.Below
namespace Go.Proofs.YtnkckdbjeemjeaaDoor.H
open Go.Proofs.YtnkckdbjeemjeaaDoor.Flt Go.RowKit Go.Extern.Stop Go.Stop Go.Extern Go.Proofs.YtnkckdbjeemjeaaDoorW.PrintWords
-- closed facts on the model's entries, at this program's types
theorem e_valueOfT (t : Addr) (w : World) : (ReflectliteValue.unpack (.iface 60 (.pointer (some t)))).run Tryd.prog w
    = .ok (.agg #[.pointer (some ⟨5, 60, none⟩), .pointer (some ⟨w.heap.size, 0, none⟩), .int .u64 150]) (w.alloc (.cells #[.pointer (some t)] 60)) := by kernel_rfl
theorem e_typeT (a : Addr) (w : World) : (ReflectliteValue.methodAny (ReflectliteValue.valueError "reflectlite.Value.Type" 0) (fun t _ _ _ => ReflectliteType.toType t) #[.agg #[.pointer (some ⟨5, 60, none⟩), .pointer (some a), .int .u64 150]]).run Tryd.prog w
    = .ok (.iface 106 (.agg #[.pointer (some ⟨5, 60, none⟩)])) w := by kernel_rfl
theorem e_valueOfE (t : Addr) (w : World) : (ReflectliteValue.unpack (.iface 63 (.pointer (some t)))).run Tryd.prog w
    = .ok (.agg #[.pointer (some ⟨5, 63, none⟩), .pointer (some ⟨w.heap.size, 0, none⟩), .int .u64 150]) (w.alloc (.cells #[.pointer (some t)] 63)) := by kernel_rfl
theorem e_typeE (a : Addr) (w : World) : (ReflectliteValue.methodAny (ReflectliteValue.valueError "reflectlite.Value.Type" 0) (fun t _ _ _ => ReflectliteType.toType t) #[.agg #[.pointer (some ⟨5, 63, none⟩), .pointer (some a), .int .u64 150]]).run Tryd.prog w
    = .ok (.iface 106 (.agg #[.pointer (some ⟨5, 63, none⟩)])) w := by kernel_rfl
theorem e_methodKind (h : Value) (w : World) : (Go.method 272 106 (.agg #[h]) "Kind").run Tryd.prog w = .ok (89, h) w := by kernel_rfl
theorem e_methodElem (h : Value) (w : World) : (Go.method 272 106 (.agg #[h]) "Elem").run Tryd.prog w = .ok (102, .agg #[h]) w := by kernel_rfl
theorem e_methodImplements (h : Value) (w : World) : (Go.method 272 106 (.agg #[h]) "Implements").run Tryd.prog w = .ok (103, .agg #[h]) w := by kernel_rfl
theorem e_methodAssignableTo (h : Value) (w : World) : (Go.method 272 106 (.agg #[h]) "AssignableTo").run Tryd.prog w = .ok (100, .agg #[h]) w := by kernel_rfl
theorem e_methodComparable (h : Value) (w : World) : (Go.method 272 106 (.agg #[h]) "Comparable").run Tryd.prog w = .ok (101, .agg #[h]) w := by kernel_rfl
theorem e_kindT (w : World) : ((ReflectliteType.abiMethod fun t => (fun a : Nat => Value.int IntKind.u8 (a : Int)) <$> Rtype.kind t) #[.pointer (some ⟨5, 60, none⟩)]).run Tryd.prog w = .ok (.int .u8 22) w := by kernel_rfl
theorem e_kindE (w : World) : ((ReflectliteType.abiMethod fun t => (fun a : Nat => Value.int IntKind.u8 (a : Int)) <$> Rtype.kind t) #[.pointer (some ⟨5, 63, none⟩)]).run Tryd.prog w = .ok (.int .u8 22) w := by kernel_rfl
theorem e_kindF (w : World) : ((ReflectliteType.abiMethod fun t => (fun a : Nat => Value.int IntKind.u8 (a : Int)) <$> Rtype.kind t) #[.pointer (some ⟨5, 58, none⟩)]).run Tryd.prog w = .ok (.int .u8 22) w := by kernel_rfl
theorem e_kindN (w : World) : ((ReflectliteType.abiMethod fun t => (fun a : Nat => Value.int IntKind.u8 (a : Int)) <$> Rtype.kind t) #[.pointer (some ⟨5, 57, none⟩)]).run Tryd.prog w = .ok (.int .u8 2) w := by kernel_rfl
theorem e_elemT (w : World) : (ReflectliteType.method ReflectliteType.elem #[.agg #[.pointer (some ⟨5, 60, none⟩)]]).run Tryd.prog w = .ok (.iface 106 (.agg #[.pointer (some ⟨5, 58, none⟩)])) w := by kernel_rfl
theorem e_elemE (w : World) : (ReflectliteType.method ReflectliteType.elem #[.agg #[.pointer (some ⟨5, 63, none⟩)]]).run Tryd.prog w = .ok (.iface 106 (.agg #[.pointer (some ⟨5, 57, none⟩)])) w := by kernel_rfl
theorem e_implementsF (w : World) : (ReflectliteType.relation "Implements" ReflectliteType.implements_ #[.agg #[.pointer (some ⟨5, 58, none⟩)], .iface 106 (.agg #[.pointer (some ⟨5, 34, none⟩)])]).run Tryd.prog w = .ok (.bool true) w := by kernel_rfl
theorem e_implementsN (w : World) : (ReflectliteType.relation "Implements" ReflectliteType.implements_ #[.agg #[.pointer (some ⟨5, 57, none⟩)], .iface 106 (.agg #[.pointer (some ⟨5, 34, none⟩)])]).run Tryd.prog w = .ok (.bool true) w := by kernel_rfl
theorem e_typeOfF (v : Value) (w : World) : (ReflectliteType.typeOf #[.iface 58 v]).run Tryd.prog w = .ok (.iface 106 (.agg #[.pointer (some ⟨5, 58, none⟩)])) w := by kernel_rfl
theorem e_typeOfN (v : Value) (w : World) : (ReflectliteType.typeOf #[.iface 57 v]).run Tryd.prog w = .ok (.iface 106 (.agg #[.pointer (some ⟨5, 57, none⟩)])) w := by kernel_rfl
theorem e_assignFF (w : World) : (ReflectliteType.relation "AssignableTo" ReflectliteType.assignableTo #[.agg #[.pointer (some ⟨5, 58, none⟩)], .iface 106 (.agg #[.pointer (some ⟨5, 58, none⟩)])]).run Tryd.prog w = .ok (.bool true) w := by kernel_rfl
theorem e_assignNF (w : World) : (ReflectliteType.relation "AssignableTo" ReflectliteType.assignableTo #[.agg #[.pointer (some ⟨5, 57, none⟩)], .iface 106 (.agg #[.pointer (some ⟨5, 58, none⟩)])]).run Tryd.prog w = .ok (.bool false) w := by kernel_rfl
theorem e_assignNN (w : World) : (ReflectliteType.relation "AssignableTo" ReflectliteType.assignableTo #[.agg #[.pointer (some ⟨5, 57, none⟩)], .iface 106 (.agg #[.pointer (some ⟨5, 57, none⟩)])]).run Tryd.prog w = .ok (.bool true) w := by kernel_rfl
theorem e_comparableN (w : World) : (ReflectliteType.method (fun t => do Rtype.noPackHeld "Comparable" t; (fun a => Value.bool a.comparable) <$> typeInfo t) #[.agg #[.pointer (some ⟨5, 57, none⟩)]]).run Tryd.prog w = .ok (.bool true) w := by kernel_rfl
theorem e_valueOfF (e : Addr) (w : World) : (ReflectliteValue.unpack (.iface 58 (.pointer (some e)))).run Tryd.prog w
    = .ok (.agg #[.pointer (some ⟨5, 58, none⟩), .pointer (some ⟨w.heap.size, 0, none⟩), .int .u64 150]) (w.alloc (.cells #[.pointer (some e)] 58)) := by kernel_rfl
theorem e_valueOfN (c : Int) (w : World) : (ReflectliteValue.unpack (.iface 57 (.int .i64 c))).run Tryd.prog w
    = .ok (.agg #[.pointer (some ⟨5, 57, none⟩), .pointer (some ⟨w.heap.size, 0, none⟩), .int .u64 130]) (w.alloc (.cells #[.int .i64 c] 57)) := by kernel_rfl
theorem t_isF (a : Value) (w : World) : (Instr.typeAssert (.iface 58 a) 34 108 true).run Tryd.prog w = .ok (.tuple #[.nilIface, .bool false]) w := run_typeAssert_lacksB Tryd.underlying108 (by kernel_rfl) (by kernel_rfl) a 34 w
theorem t_isN (a : Value) (w : World) : (Instr.typeAssert (.iface 57 a) 34 108 true).run Tryd.prog w = .ok (.tuple #[.nilIface, .bool false]) w := run_typeAssert_lacksB Tryd.underlying108 (by kernel_rfl) (by kernel_rfl) a 34 w
theorem t_asN (a : Value) (w : World) : (Instr.typeAssert (.iface 57 a) 34 117 true).run Tryd.prog w = .ok (.tuple #[.nilIface, .bool false]) w := run_typeAssert_lacksB Tryd.underlying117 (by kernel_rfl) (by kernel_rfl) a 34 w
theorem t_unF (a : Value) (w : World) : (Instr.typeAssert (.iface 58 a) 34 111 true).run Tryd.prog w = .ok (.tuple #[.iface 58 a, .bool true]) w := run_typeAssert_hasB Tryd.underlying111 (by kernel_rfl) a 34 w
theorem t_unN (a : Value) (w : World) : (Instr.typeAssert (.iface 57 a) 34 111 true).run Tryd.prog w = .ok (.tuple #[.nilIface, .bool false]) w := run_typeAssert_lacksB Tryd.underlying111 (by kernel_rfl) (by kernel_rfl) a 34 w
theorem t_usN (a : Value) (w : World) : (Instr.typeAssert (.iface 57 a) 34 112 true).run Tryd.prog w = .ok (.tuple #[.nilIface, .bool false]) w := run_typeAssert_lacksB Tryd.underlying112 (by kernel_rfl) (by kernel_rfl) a 34 w
theorem m_unwrap (a : Addr) (w : World) : (Go.method 272 58 (.pointer (some a)) "Unwrap").run Tryd.prog w = .ok (94, .pointer (some a)) w := by kernel_rfl
theorem q_FN (x y : Value) (w : World) : (binOp .eql 34 (.iface 58 x) (.iface 57 y)).run Tryd.prog w = .ok (.bool false) w := run_eql_iface_types 58 57 x y Tryd.underlying34 (by decide) w
theorem q_NN (c d : Int) (w : World) : (binOp .eql 34 (.iface 57 (.int .i64 c)) (.iface 57 (.int .i64 d))).run Tryd.prog w = .ok (.bool (c == d)) w := by
  have h : ∀ k, (Op.equalIn (k + 2) 34 (.iface 57 (.int .i64 c)) (.iface 57 (.int .i64 d))).run Tryd.prog w = .ok (c == d) w := fun k => by
    obtain ⟨i, hi⟩ : ∃ i, Tryd.prog.info? 57 = some i := by
      rcases h : Tryd.prog.info? 57 with _ | i
      · exact absurd (show (Tryd.prog.info? 57).isSome = true by kernel_rfl) (by rw [h]; decide)
      · exact ⟨i, rfl⟩
    have hc : i.comparable = true := by
      have h2 : (Tryd.prog.info? 57).map (·.comparable) = some true := by kernel_rfl
      rw [hi] at h2
      simpa using h2
    simp [Op.equalIn, run_underlying Tryd.underlying34, run_underlying Tryd.underlying57, typeInfo, hi, hc]
  simp only [binOp]
  simp [Op.equal, Op.maxDepth, h 9998]
-- the entries that read or write memory
theorem rlm (z : Sem Value) (f : TypeId → Addr → Nat → Nat → Sem Value) (v : Value) :
    ReflectliteValue.method z f #[v] = (do match ← ReflectliteValue.parts v with | none => z | some (t, a, fl) => f t a fl (fl % 32)) := rfl
theorem rls (v x : Value) : ReflectliteValue.set #[v, x] = (do
    let (some (dst, a, fl), some (src, b, _)) := (← ReflectliteValue.parts v, ← ReflectliteValue.parts x)
      | unsupported (.noEntry "extern/(internal/reflectlite.Value).Set.zeroValue")
    if fl / ReflectliteValue.flagAddr % 2 == 0 then unsupported (.noEntry "extern/(internal/reflectlite.Value).Set.unaddressable")
    let val ← loadVar src b
    if ← Rtype.directlyAssignable dst src then storeVar dst a val
    else if ← Rtype.implements dst src then
      if (← Rtype.kind src) == 20 then
        match val with
        | .nilIface => unsupported (.noEntry "extern/reflectlite: a nil value of one interface type handed on as a value of another")
        | _ => storeVar dst a val
      else storeVar dst a (.iface src val)
    else panicString ("reflectlite.Set: value of type " ++ (← Rtype.spelt src) ++ " is not assignable to type " ++ (← Rtype.spelt dst))
    pure (.tuple #[])) := rfl
theorem e_partsT (a : Addr) (w : World) : (ReflectliteValue.parts (.agg #[.pointer (some ⟨5, 60, none⟩), .pointer (some a), .int .u64 150])).run Tryd.prog w = .ok (some (60, a, 150)) w := by kernel_rfl
theorem e_partsE (a : Addr) (w : World) : (ReflectliteValue.parts (.agg #[.pointer (some ⟨5, 63, none⟩), .pointer (some a), .int .u64 150])).run Tryd.prog w = .ok (some (63, a, 150)) w := by kernel_rfl
theorem e_isNilT (a p : Addr) (W : World) (ha : W.cell? a = some (.pointer (some p))) :
    (ReflectliteValue.method (ReflectliteValue.valueError "reflectlite.Value.IsNil" 0) ReflectliteValue.isNil #[.agg #[.pointer (some ⟨5, 60, none⟩), .pointer (some a), .int .u64 150]]).run Tryd.prog W = .ok (.bool false) W := by
  rw [rlm]
  simp only [Sem.run_bind, e_partsT, Result.andThen]
  simp [ReflectliteValue.isNil, loadVar, isAgg, underlying, Tryd.underlying60, ha, Result.andThen]
theorem e_isNilE (a p : Addr) (W : World) (ha : W.cell? a = some (.pointer (some p))) :
    (ReflectliteValue.method (ReflectliteValue.valueError "reflectlite.Value.IsNil" 0) ReflectliteValue.isNil #[.agg #[.pointer (some ⟨5, 63, none⟩), .pointer (some a), .int .u64 150]]).run Tryd.prog W = .ok (.bool false) W := by
  rw [rlm]
  simp only [Sem.run_bind, e_partsE, Result.andThen]
  simp [ReflectliteValue.isNil, loadVar, isAgg, underlying, Tryd.underlying63, ha, Result.andThen]
theorem e_elemOfT (w : World) : (Rtype.elem? 60).run Tryd.prog w = .ok (some 58) w := by kernel_rfl
theorem e_elemOfE (w : World) : (Rtype.elem? 63).run Tryd.prog w = .ok (some 57) w := by kernel_rfl
theorem e_mkF (p : Addr) (w : World) : (ReflectliteValue.mk 58 p ReflectliteValue.flagAddr).run Tryd.prog w = .ok (.agg #[.pointer (some ⟨5, 58, none⟩), .pointer (some p), .int .u64 406]) w := by kernel_rfl
theorem e_mkN (p : Addr) (w : World) : (ReflectliteValue.mk 57 p ReflectliteValue.flagAddr).run Tryd.prog w = .ok (.agg #[.pointer (some ⟨5, 57, none⟩), .pointer (some p), .int .u64 386]) w := by kernel_rfl
theorem e_elemVT (a p : Addr) (W : World) (ha : W.cell? a = some (.pointer (some p))) :
    (ReflectliteValue.method (ReflectliteValue.valueError "reflectlite.Value.Elem" 0) ReflectliteValue.elem #[.agg #[.pointer (some ⟨5, 60, none⟩), .pointer (some a), .int .u64 150]]).run Tryd.prog W
      = .ok (.agg #[.pointer (some ⟨5, 58, none⟩), .pointer (some p), .int .u64 406]) W := by
  rw [rlm]
  simp only [Sem.run_bind, e_partsT, Result.andThen]
  simp [ReflectliteValue.elem, loadVar, isAgg, underlying, Tryd.underlying60, ha, Result.andThen, e_elemOfT, e_mkF]
theorem e_elemVE (a p : Addr) (W : World) (ha : W.cell? a = some (.pointer (some p))) :
    (ReflectliteValue.method (ReflectliteValue.valueError "reflectlite.Value.Elem" 0) ReflectliteValue.elem #[.agg #[.pointer (some ⟨5, 63, none⟩), .pointer (some a), .int .u64 150]]).run Tryd.prog W
      = .ok (.agg #[.pointer (some ⟨5, 57, none⟩), .pointer (some p), .int .u64 386]) W := by
  rw [rlm]
  simp only [Sem.run_bind, e_partsE, Result.andThen]
  simp [ReflectliteValue.elem, loadVar, isAgg, underlying, Tryd.underlying63, ha, Result.andThen, e_elemOfE, e_mkN]
theorem e_partsFa (a : Addr) (w : World) : (ReflectliteValue.parts (.agg #[.pointer (some ⟨5, 58, none⟩), .pointer (some a), .int .u64 406])).run Tryd.prog w = .ok (some (58, a, 406)) w := by kernel_rfl
theorem e_partsF (a : Addr) (w : World) : (ReflectliteValue.parts (.agg #[.pointer (some ⟨5, 58, none⟩), .pointer (some a), .int .u64 150])).run Tryd.prog w = .ok (some (58, a, 150)) w := by kernel_rfl
theorem e_partsNa (a : Addr) (w : World) : (ReflectliteValue.parts (.agg #[.pointer (some ⟨5, 57, none⟩), .pointer (some a), .int .u64 386])).run Tryd.prog w = .ok (some (57, a, 386)) w := by kernel_rfl
theorem e_partsN (a : Addr) (w : World) : (ReflectliteValue.parts (.agg #[.pointer (some ⟨5, 57, none⟩), .pointer (some a), .int .u64 130])).run Tryd.prog w = .ok (some (57, a, 130)) w := by kernel_rfl
theorem e_directF (w : World) : (Rtype.directlyAssignable 58 58).run Tryd.prog w = .ok true w := by kernel_rfl
theorem e_directN (w : World) : (Rtype.directlyAssignable 57 57).run Tryd.prog w = .ok true w := by kernel_rfl
theorem e_setF (ta b e : Addr) (old : Value) (W : World) (hb : W.cell? b = some (.pointer (some e))) (ht : W.cell? ta = some old) (hf : W.frozen? ta = false) :
    (ReflectliteValue.set #[.agg #[.pointer (some ⟨5, 58, none⟩), .pointer (some ta), .int .u64 406], .agg #[.pointer (some ⟨5, 58, none⟩), .pointer (some b), .int .u64 150]]).run Tryd.prog W
      = .ok (.tuple #[]) (W.setCell ta (.pointer (some e))) := by
  rw [rls]
  simp only [Sem.run_bind, e_partsFa, e_partsF, Result.andThen]
  simp [ReflectliteValue.flagAddr, loadVar, isAgg, underlying, Tryd.underlying58, hb, Result.andThen, e_directF, storeVar, Value.cells, storeCells, Addr.add]
  rw [run_store Tryd.prog W ta _ _ (by rfl)]
  simp [ht, hf]
theorem e_setN (ta b : Addr) (c : Int) (old : Value) (W : World) (hb : W.cell? b = some (.int .i64 c)) (ht : W.cell? ta = some old) (hf : W.frozen? ta = false) :
    (ReflectliteValue.set #[.agg #[.pointer (some ⟨5, 57, none⟩), .pointer (some ta), .int .u64 386], .agg #[.pointer (some ⟨5, 57, none⟩), .pointer (some b), .int .u64 130]]).run Tryd.prog W
      = .ok (.tuple #[]) (W.setCell ta (.int .i64 c)) := by
  rw [rls]
  simp only [Sem.run_bind, e_partsNa, e_partsN, Result.andThen]
  simp [ReflectliteValue.flagAddr, loadVar, isAgg, underlying, Tryd.underlying57, hb, Result.andThen, e_directN, storeVar, Value.cells, storeCells, Addr.add]
  rw [run_store Tryd.prog W ta _ _ (by rfl)]
  simp [ht, hf]
/-- What errors.As reads of its package-level variable. -/
def ErrTy (w : World) : Prop := w.cell? ⟨0, 0, none⟩ = some (.iface 106 (.agg #[.pointer (some ⟨5, 34, none⟩)]))
theorem ErrTy.lt {w : World} (h : ErrTy w) : 0 < w.heap.size := World.block_lt_of_cell? w _ h
theorem ErrTy.below {w W : World} (h : ErrTy w) (hb : Below w.heap.size w W) : ErrTy W := (hb.cell (p := ⟨0, 0, none⟩) h.lt).trans h
set_option maxHeartbeats 4000000 in
set_option maxRecDepth 100000 in
theorem as_fault (e t : Addr) (old : Value) (w : World) (hg : ErrTy w) (ht0 : w.cell? t = some old) (hf0 : w.frozen? t = false) :
    Calls Tryd.prog 21 #[.iface 58 (.pointer (some e)), .iface 60 (.pointer (some t))] w fun ev w' => ev = .returned (.bool true) ∧ w' = ((((w.alloc (.cells #[.pointer (some t)] 60)).alloc (.cells #[.pointer (some ⟨5, 60, none⟩), .pointer (some ⟨w.heap.size, 0, none⟩), .int .u64 150] 83)).alloc (.cells #[.pointer (some ⟨5, 60, none⟩), .pointer (some ⟨w.heap.size, 0, none⟩), .int .u64 150] 83)).alloc (.cells #[.pointer (some e)] 58)).setCell t (.pointer (some e)) := by
  have hlt := hg.lt
  unfold ErrTy at hg
  have h6 := @run_callFunc_extern Tryd.prog 36 _ (fun args => ReflectliteValue.unpack (args.getD 0 (.tuple #[]))) Tryd.func36 (by kernel_rfl) (by kernel_rfl) (by kernel_rfl) (by kernel_rfl)
  have h7 := @run_callFunc_extern Tryd.prog 37 _ (ReflectliteValue.methodAny (ReflectliteValue.valueError "reflectlite.Value.Type" 0) (fun t _ _ _ => ReflectliteType.toType t)) Tryd.func37 (by kernel_rfl) (by kernel_rfl) (by kernel_rfl) (by kernel_rfl)
  have h8 := @run_callFunc_extern Tryd.prog 38 _ (ReflectliteValue.method (ReflectliteValue.valueError "reflectlite.Value.IsNil" 0) ReflectliteValue.isNil) Tryd.func38 (by kernel_rfl) (by kernel_rfl) (by kernel_rfl) (by kernel_rfl)
  have h27 := @run_callFunc_extern Tryd.prog 89 _ (ReflectliteType.abiMethod fun t => do pure (.int .u8 (← Rtype.kind t))) Tryd.func89 (by kernel_rfl) (by kernel_rfl) (by kernel_rfl) (by kernel_rfl)
  have h37 := @run_callFunc_extern Tryd.prog 102 _ (ReflectliteType.method ReflectliteType.elem) Tryd.func102 (by kernel_rfl) (by kernel_rfl) (by kernel_rfl) (by kernel_rfl)
  have h38 := @run_callFunc_extern Tryd.prog 103 _ (ReflectliteType.relation "Implements" ReflectliteType.implements_) Tryd.func103 (by kernel_rfl) (by kernel_rfl) (by kernel_rfl) (by kernel_rfl)
  have h10 := @run_callFunc_extern Tryd.prog 34 _ ReflectliteType.typeOf Tryd.func34 (by kernel_rfl) (by kernel_rfl) (by kernel_rfl) (by kernel_rfl)
  have h35 := @run_callFunc_extern Tryd.prog 100 _ (ReflectliteType.relation "AssignableTo" ReflectliteType.assignableTo) Tryd.func100 (by kernel_rfl) (by kernel_rfl) (by kernel_rfl) (by kernel_rfl)
  have h11 := @run_callFunc_extern Tryd.prog 54 _ (ReflectliteValue.method (ReflectliteValue.valueError "reflectlite.Value.Elem" 0) ReflectliteValue.elem) Tryd.func54 (by kernel_rfl) (by kernel_rfl) (by kernel_rfl) (by kernel_rfl)
  have h12 := @run_callFunc_extern Tryd.prog 55 _ ReflectliteValue.set Tryd.func55 (by kernel_rfl) (by kernel_rfl) (by kernel_rfl) (by kernel_rfl)
  have tO := e_typeOfF
  have mA := e_methodAssignableTo
  have a25 := e_assignFF
  have v25 := e_valueOfF
  have f6 := e_valueOfT
  have f7 := e_typeT
  have mK := e_methodKind
  have mE := e_methodElem
  have mI := e_methodImplements
  have k27 := e_kindT
  have k25 := e_kindF
  have e27 := e_elemT
  have i25 := e_implementsF
  have n8 := e_isNilT ⟨w.heap.size, 0, none⟩ t ((w.alloc (.cells #[.pointer (some t)] 60)).alloc (.cells #[.pointer (some ⟨5, 60, none⟩), .pointer (some ⟨w.heap.size, 0, none⟩), .int .u64 150] 83)) (by simp)
  have hg2 : ((w.alloc (.cells #[.pointer (some t)] 60)).alloc (.cells #[.pointer (some ⟨5, 60, none⟩), .pointer (some ⟨w.heap.size, 0, none⟩), .int .u64 150] 83)).cell? ⟨0, 0, none⟩ = some (.iface 106 (.agg #[.pointer (some ⟨5, 34, none⟩)])) := by
    rw [World.cell?_alloc_lt _ _ ⟨0, 0, none⟩ (by first | (simp; done) | (simp; omega)), World.cell?_alloc_lt _ _ ⟨0, 0, none⟩ hlt]; exact hg
  have htl : t.block < w.heap.size := World.block_lt_of_cell? w _ ht0
  have el := e_elemVT ⟨w.heap.size, 0, none⟩ t (((w.alloc (.cells #[.pointer (some t)] 60)).alloc (.cells #[.pointer (some ⟨5, 60, none⟩), .pointer (some ⟨w.heap.size, 0, none⟩), .int .u64 150] 83)).alloc (.cells #[.pointer (some ⟨5, 60, none⟩), .pointer (some ⟨w.heap.size, 0, none⟩), .int .u64 150] 83)) (by rw [World.cell?_alloc_lt _ _ ⟨w.heap.size, 0, none⟩ (by simp; omega)]; simp)
  have st := e_setF t ⟨w.heap.size + 1 + 1 + 1, 0, none⟩ e old ((((w.alloc (.cells #[.pointer (some t)] 60)).alloc (.cells #[.pointer (some ⟨5, 60, none⟩), .pointer (some ⟨w.heap.size, 0, none⟩), .int .u64 150] 83)).alloc (.cells #[.pointer (some ⟨5, 60, none⟩), .pointer (some ⟨w.heap.size, 0, none⟩), .int .u64 150] 83)).alloc (.cells #[.pointer (some e)] 58))
    (by rw [World.cell?_alloc_at _ _ _ _ (by simp)]; rfl)
    (by rw [World.cell?_alloc_lt _ _ t (by simp; omega), World.cell?_alloc_lt _ _ t (by simp; omega), World.cell?_alloc_lt _ _ t (by simp; omega), World.cell?_alloc_lt _ _ t htl]; exact ht0)
    (by rw [World.frozen?_alloc_old _ _ t (by simp; omega), World.frozen?_alloc_old _ _ t (by simp; omega), World.frozen?_alloc_old _ _ t (by simp; omega), World.frozen?_alloc_old _ _ t (Nat.ne_of_lt htl)]; exact hf0)
  go_enter Tryd.func21, Tryd.ntmps21
  go_wp2
  refine wp_loop_rounds 1 ?_
  rw [rounds_succ]
  go_wp2
  go_ret
  exact ⟨rfl, rfl⟩
set_option maxHeartbeats 4000000 in
set_option maxRecDepth 100000 in
theorem as_miss (c : Int) (t : Addr) (w : World) (hg : ErrTy w) :
    Calls Tryd.prog 21 #[.iface 57 (.int .i64 c), .iface 60 (.pointer (some t))] w fun ev w' => ev = .returned (.bool false) ∧ w' = (((w.alloc (.cells #[.pointer (some t)] 60)).alloc (.cells #[.pointer (some ⟨5, 60, none⟩), .pointer (some ⟨w.heap.size, 0, none⟩), .int .u64 150] 83)).alloc (.cells #[.pointer (some ⟨5, 60, none⟩), .pointer (some ⟨w.heap.size, 0, none⟩), .int .u64 150] 83)) := by
  have hlt := hg.lt
  unfold ErrTy at hg
  have h6 := @run_callFunc_extern Tryd.prog 36 _ (fun args => ReflectliteValue.unpack (args.getD 0 (.tuple #[]))) Tryd.func36 (by kernel_rfl) (by kernel_rfl) (by kernel_rfl) (by kernel_rfl)
  have h7 := @run_callFunc_extern Tryd.prog 37 _ (ReflectliteValue.methodAny (ReflectliteValue.valueError "reflectlite.Value.Type" 0) (fun t _ _ _ => ReflectliteType.toType t)) Tryd.func37 (by kernel_rfl) (by kernel_rfl) (by kernel_rfl) (by kernel_rfl)
  have h8 := @run_callFunc_extern Tryd.prog 38 _ (ReflectliteValue.method (ReflectliteValue.valueError "reflectlite.Value.IsNil" 0) ReflectliteValue.isNil) Tryd.func38 (by kernel_rfl) (by kernel_rfl) (by kernel_rfl) (by kernel_rfl)
  have h27 := @run_callFunc_extern Tryd.prog 89 _ (ReflectliteType.abiMethod fun t => do pure (.int .u8 (← Rtype.kind t))) Tryd.func89 (by kernel_rfl) (by kernel_rfl) (by kernel_rfl) (by kernel_rfl)
  have h37 := @run_callFunc_extern Tryd.prog 102 _ (ReflectliteType.method ReflectliteType.elem) Tryd.func102 (by kernel_rfl) (by kernel_rfl) (by kernel_rfl) (by kernel_rfl)
  have h38 := @run_callFunc_extern Tryd.prog 103 _ (ReflectliteType.relation "Implements" ReflectliteType.implements_) Tryd.func103 (by kernel_rfl) (by kernel_rfl) (by kernel_rfl) (by kernel_rfl)
  have h10 := @run_callFunc_extern Tryd.prog 34 _ ReflectliteType.typeOf Tryd.func34 (by kernel_rfl) (by kernel_rfl) (by kernel_rfl) (by kernel_rfl)
  have h35 := @run_callFunc_extern Tryd.prog 100 _ (ReflectliteType.relation "AssignableTo" ReflectliteType.assignableTo) Tryd.func100 (by kernel_rfl) (by kernel_rfl) (by kernel_rfl) (by kernel_rfl)
  have h11 := @run_callFunc_extern Tryd.prog 54 _ (ReflectliteValue.method (ReflectliteValue.valueError "reflectlite.Value.Elem" 0) ReflectliteValue.elem) Tryd.func54 (by kernel_rfl) (by kernel_rfl) (by kernel_rfl) (by kernel_rfl)
  have h12 := @run_callFunc_extern Tryd.prog 55 _ ReflectliteValue.set Tryd.func55 (by kernel_rfl) (by kernel_rfl) (by kernel_rfl) (by kernel_rfl)
  have tO := e_typeOfN
  have mA := e_methodAssignableTo
  have a25 := e_assignNF
  have f6 := e_valueOfT
  have f7 := e_typeT
  have mK := e_methodKind
  have mE := e_methodElem
  have mI := e_methodImplements
  have k27 := e_kindT
  have k25 := e_kindF
  have e27 := e_elemT
  have i25 := e_implementsF
  have tA := t_asN
  have tU := t_unN
  have tS := t_usN
  have n8 := e_isNilT ⟨w.heap.size, 0, none⟩ t ((w.alloc (.cells #[.pointer (some t)] 60)).alloc (.cells #[.pointer (some ⟨5, 60, none⟩), .pointer (some ⟨w.heap.size, 0, none⟩), .int .u64 150] 83)) (by simp)
  have hg2 : ((w.alloc (.cells #[.pointer (some t)] 60)).alloc (.cells #[.pointer (some ⟨5, 60, none⟩), .pointer (some ⟨w.heap.size, 0, none⟩), .int .u64 150] 83)).cell? ⟨0, 0, none⟩ = some (.iface 106 (.agg #[.pointer (some ⟨5, 34, none⟩)])) := by
    rw [World.cell?_alloc_lt _ _ ⟨0, 0, none⟩ (by first | (simp; done) | (simp; omega)), World.cell?_alloc_lt _ _ ⟨0, 0, none⟩ hlt]; exact hg
  go_enter Tryd.func21, Tryd.ntmps21
  go_wp2
  refine wp_loop_rounds 1 ?_
  rw [rounds_succ]
  go_wp2
  go_ret
  exact ⟨rfl, rfl⟩
set_option maxHeartbeats 4000000 in
set_option maxRecDepth 100000 in
theorem as_errno (c : Int) (t : Addr) (old : Value) (w : World) (hg : ErrTy w) (ht0 : w.cell? t = some old) (hf0 : w.frozen? t = false) :
    Calls Tryd.prog 21 #[.iface 57 (.int .i64 c), .iface 63 (.pointer (some t))] w fun ev w' => ev = .returned (.bool true) ∧ w' = ((((w.alloc (.cells #[.pointer (some t)] 63)).alloc (.cells #[.pointer (some ⟨5, 63, none⟩), .pointer (some ⟨w.heap.size, 0, none⟩), .int .u64 150] 83)).alloc (.cells #[.pointer (some ⟨5, 63, none⟩), .pointer (some ⟨w.heap.size, 0, none⟩), .int .u64 150] 83)).alloc (.cells #[.int .i64 c] 57)).setCell t (.int .i64 c) := by
  have hlt := hg.lt
  unfold ErrTy at hg
  have h6 := @run_callFunc_extern Tryd.prog 36 _ (fun args => ReflectliteValue.unpack (args.getD 0 (.tuple #[]))) Tryd.func36 (by kernel_rfl) (by kernel_rfl) (by kernel_rfl) (by kernel_rfl)
  have h7 := @run_callFunc_extern Tryd.prog 37 _ (ReflectliteValue.methodAny (ReflectliteValue.valueError "reflectlite.Value.Type" 0) (fun t _ _ _ => ReflectliteType.toType t)) Tryd.func37 (by kernel_rfl) (by kernel_rfl) (by kernel_rfl) (by kernel_rfl)
  have h8 := @run_callFunc_extern Tryd.prog 38 _ (ReflectliteValue.method (ReflectliteValue.valueError "reflectlite.Value.IsNil" 0) ReflectliteValue.isNil) Tryd.func38 (by kernel_rfl) (by kernel_rfl) (by kernel_rfl) (by kernel_rfl)
  have h27 := @run_callFunc_extern Tryd.prog 89 _ (ReflectliteType.abiMethod fun t => do pure (.int .u8 (← Rtype.kind t))) Tryd.func89 (by kernel_rfl) (by kernel_rfl) (by kernel_rfl) (by kernel_rfl)
  have h37 := @run_callFunc_extern Tryd.prog 102 _ (ReflectliteType.method ReflectliteType.elem) Tryd.func102 (by kernel_rfl) (by kernel_rfl) (by kernel_rfl) (by kernel_rfl)
  have h38 := @run_callFunc_extern Tryd.prog 103 _ (ReflectliteType.relation "Implements" ReflectliteType.implements_) Tryd.func103 (by kernel_rfl) (by kernel_rfl) (by kernel_rfl) (by kernel_rfl)
  have h10 := @run_callFunc_extern Tryd.prog 34 _ ReflectliteType.typeOf Tryd.func34 (by kernel_rfl) (by kernel_rfl) (by kernel_rfl) (by kernel_rfl)
  have h35 := @run_callFunc_extern Tryd.prog 100 _ (ReflectliteType.relation "AssignableTo" ReflectliteType.assignableTo) Tryd.func100 (by kernel_rfl) (by kernel_rfl) (by kernel_rfl) (by kernel_rfl)
  have h11 := @run_callFunc_extern Tryd.prog 54 _ (ReflectliteValue.method (ReflectliteValue.valueError "reflectlite.Value.Elem" 0) ReflectliteValue.elem) Tryd.func54 (by kernel_rfl) (by kernel_rfl) (by kernel_rfl) (by kernel_rfl)
  have h12 := @run_callFunc_extern Tryd.prog 55 _ ReflectliteValue.set Tryd.func55 (by kernel_rfl) (by kernel_rfl) (by kernel_rfl) (by kernel_rfl)
  have tO := e_typeOfN
  have mA := e_methodAssignableTo
  have a25 := e_assignNN
  have v25 := e_valueOfN
  have f6 := e_valueOfE
  have f7 := e_typeE
  have mK := e_methodKind
  have mE := e_methodElem
  have mI := e_methodImplements
  have k27 := e_kindE
  have k25 := e_kindN
  have e27 := e_elemE
  have i25 := e_implementsN
  have n8 := e_isNilE ⟨w.heap.size, 0, none⟩ t ((w.alloc (.cells #[.pointer (some t)] 63)).alloc (.cells #[.pointer (some ⟨5, 63, none⟩), .pointer (some ⟨w.heap.size, 0, none⟩), .int .u64 150] 83)) (by simp)
  have hg2 : ((w.alloc (.cells #[.pointer (some t)] 63)).alloc (.cells #[.pointer (some ⟨5, 63, none⟩), .pointer (some ⟨w.heap.size, 0, none⟩), .int .u64 150] 83)).cell? ⟨0, 0, none⟩ = some (.iface 106 (.agg #[.pointer (some ⟨5, 34, none⟩)])) := by
    rw [World.cell?_alloc_lt _ _ ⟨0, 0, none⟩ (by first | (simp; done) | (simp; omega)), World.cell?_alloc_lt _ _ ⟨0, 0, none⟩ hlt]; exact hg
  have htl : t.block < w.heap.size := World.block_lt_of_cell? w _ ht0
  have el := e_elemVE ⟨w.heap.size, 0, none⟩ t (((w.alloc (.cells #[.pointer (some t)] 63)).alloc (.cells #[.pointer (some ⟨5, 63, none⟩), .pointer (some ⟨w.heap.size, 0, none⟩), .int .u64 150] 83)).alloc (.cells #[.pointer (some ⟨5, 63, none⟩), .pointer (some ⟨w.heap.size, 0, none⟩), .int .u64 150] 83)) (by rw [World.cell?_alloc_lt _ _ ⟨w.heap.size, 0, none⟩ (by simp; omega)]; simp)
  have st := e_setN t ⟨w.heap.size + 1 + 1 + 1, 0, none⟩ c old ((((w.alloc (.cells #[.pointer (some t)] 63)).alloc (.cells #[.pointer (some ⟨5, 63, none⟩), .pointer (some ⟨w.heap.size, 0, none⟩), .int .u64 150] 83)).alloc (.cells #[.pointer (some ⟨5, 63, none⟩), .pointer (some ⟨w.heap.size, 0, none⟩), .int .u64 150] 83)).alloc (.cells #[.int .i64 c] 57))
    (by rw [World.cell?_alloc_at _ _ _ _ (by simp)]; rfl)
    (by rw [World.cell?_alloc_lt _ _ t (by simp; omega), World.cell?_alloc_lt _ _ t (by simp; omega), World.cell?_alloc_lt _ _ t (by simp; omega), World.cell?_alloc_lt _ _ t htl]; exact ht0)
    (by rw [World.frozen?_alloc_old _ _ t (by simp; omega), World.frozen?_alloc_old _ _ t (by simp; omega), World.frozen?_alloc_old _ _ t (by simp; omega), World.frozen?_alloc_old _ _ t (Nat.ne_of_lt htl)]; exact hf0)
  go_enter Tryd.func21, Tryd.ntmps21
  go_wp2
  refine wp_loop_rounds 1 ?_
  rw [rounds_succ]
  go_wp2
  go_ret
  exact ⟨rfl, rfl⟩
theorem unwrap_calls (e : Addr) (v : Value) (w : World) (hn : w.cell? ⟨e.block, e.off + 2, none⟩ = some v) :
    Calls Tryd.prog 94 #[.pointer (some e)] w fun ev w' => ev = .returned v ∧ w = w' := by
  go_enter Tryd.func94, Tryd.ntmps94
  go_wp2
  go_ret
  exact ⟨rfl, rfl⟩
set_option maxHeartbeats 4000000 in
set_option maxRecDepth 100000 in
theorem is_fault (e : Addr) (no : Option Int) (d : Int) (w : World) (hn : w.cell? ⟨e.block, e.off + 2, none⟩ = some (errn no)) :
    Calls Tryd.prog 20 #[.iface 58 (.pointer (some e)), .iface 57 (.int .i64 d)] w fun ev w' => ev = .returned (.bool (no == some d)) ∧ w' = w := by
  have h10 := @run_callFunc_extern Tryd.prog 34 _ ReflectliteType.typeOf Tryd.func34 (by kernel_rfl) (by kernel_rfl) (by kernel_rfl) (by kernel_rfl)
  have h99 := @run_callFunc_extern Tryd.prog 101 _ (ReflectliteType.method (fun t => do Rtype.noPackHeld "Comparable" t; pure (.bool (← typeInfo t).comparable))) Tryd.func101 (by kernel_rfl) (by kernel_rfl) (by kernel_rfl) (by kernel_rfl)
  have tO := e_typeOfN
  have mC := e_methodComparable
  have cC := e_comparableN
  have qF := q_FN
  have tI := t_isF
  have tU := t_unF
  have mU := m_unwrap
  cases no with
  | none =>
    have hn' := Aside0.mk (show w.cell? ⟨e.block, e.off + 2, none⟩ = some .nilIface from hn)
    clear hn
    go_enter Tryd.func20, Tryd.ntmps20
    go_wp2
    refine wp_loop_rounds 1 ?_
    rw [rounds_succ]
    go_wp2_with (go_at_call 94; refine (unwrap_calls e _ _ hn'.out).mono ?_; rintro _ w' ⟨rfl, rfl⟩)
    go_ret
    exact ⟨rfl, rfl⟩
  | some c =>
    have hn' := Aside0.mk (show w.cell? ⟨e.block, e.off + 2, none⟩ = some (.iface 57 (.int .i64 c)) from hn)
    clear hn
    have qN := q_NN
    have tN := t_isN
    have uN := t_unN
    have sN := t_usN
    by_cases hcd : c = d
    · subst hcd
      go_enter Tryd.func20, Tryd.ntmps20
      go_wp2
      refine wp_loop_rounds 2 ?_
      rw [rounds_succ]
      go_wp2_with (go_at_call 94; refine (unwrap_calls e _ _ hn'.out).mono ?_; rintro _ w' ⟨rfl, rfl⟩)
      rw [rounds_succ]
      go_wp2
      go_ret
      exact ⟨by simp, rfl⟩
    · have hcb : (c == d) = false := by simpa using hcd
      go_enter Tryd.func20, Tryd.ntmps20
      go_wp2
      refine wp_loop_rounds 2 ?_
      rw [rounds_succ]
      go_wp2_with (go_at_call 94; refine (unwrap_calls e _ _ hn'.out).mono ?_; rintro _ w' ⟨rfl, rfl⟩)
      rw [rounds_succ]
      go_wp2
      go_ret
      exact ⟨by simp [hcd], rfl⟩
end Go.Proofs.YtnkckdbjeemjeaaDoor.H
