/- furrowlaw2.Tells of a Fault in a Fault over an Errno: what is told is what it is; no conditions but what is known of the package-level variables. -/
import Derived.Test.YtnkckdbjeemjeaaDoorHandE
namespace Go.Proofs.YtnkckdbjeemjeaaDoor.H
open Go.Proofs.YtnkckdbjeemjeaaDoor.Flt Go.Proofs.YtnkckdbjeemjeaaDoor.X Go.RowKit Go.Extern.Stop Go.Stop Go.Extern Go.Proofs.YtnkckdbjeemjeaaDoorW.PrintWords
set_option maxHeartbeats 4000000 in
set_option maxRecDepth 100000 in
theorem is_fault2 (e e2 : Addr) (d : Int) (w : World) (hn : w.cell? ⟨e.block, e.off + 2, none⟩ = some (.iface 58 (.pointer (some e2)))) (hn2 : w.cell? ⟨e2.block, e2.off + 2, none⟩ = some (.iface 57 (.int .i64 d))) :
    Calls Tryd.prog 20 #[.iface 58 (.pointer (some e)), .iface 57 (.int .i64 d)] w fun ev w' => ev = .returned (.bool true) ∧ w' = w := by
  have h10 := @run_callFunc_extern Tryd.prog 34 _ ReflectliteType.typeOf Tryd.func34 (by kernel_rfl) (by kernel_rfl) (by kernel_rfl) (by kernel_rfl)
  have h99 := @run_callFunc_extern Tryd.prog 101 _ (ReflectliteType.method (fun t => do Rtype.noPackHeld "Comparable" t; pure (.bool (← typeInfo t).comparable))) Tryd.func101 (by kernel_rfl) (by kernel_rfl) (by kernel_rfl) (by kernel_rfl)
  have tO := e_typeOfN
  have mC := e_methodComparable
  have cC := e_comparableN
  have qF := q_FN
  have tI := t_isF
  have tU := t_unF
  have mU := m_unwrap
  have hn' := Aside0.mk hn
  have hn3 := Aside0.mk hn2
  clear hn hn2
  have qN := q_NN
  have tN := t_isN
  have uN := t_unN
  have sN := t_usN
  go_enter Tryd.func20, Tryd.ntmps20
  go_wp2
  refine wp_loop_rounds 3 ?_
  rw [rounds_succ]
  go_wp2_with (go_at_call 94; refine (unwrap_calls e _ _ hn'.out).mono ?_; rintro _ w' ⟨rfl, rfl⟩)
  rw [rounds_succ]
  go_wp2_with (go_at_call 94; refine (unwrap_calls e2 _ _ hn3.out).mono ?_; rintro _ w' ⟨rfl, rfl⟩)
  rw [rounds_succ]
  go_wp2
  go_ret
  exact ⟨by simp, rfl⟩
section
variable {w : World} {a1 : Int} {c1 : Nat}
set_option maxHeartbeats 8000000 in
set_option maxRecDepth 100000 in
theorem tells_two (ad e2 pa : Addr) (s0 s1 : ByteArray) (i0 i1 : Int) (h0 : a1 ≠ 0) (hG : Glob w)
    (hx0 : w.cell? ad = some (.string s0)) (hx1 : w.cell? ⟨ad.block, ad.off + 1, none⟩ = some (.int .i64 i0)) (hx2 : w.cell? ⟨ad.block, ad.off + 2, none⟩ = some (.iface 58 (.pointer (some e2))))
    (hy0 : w.cell? e2 = some (.string s1)) (hy1 : w.cell? ⟨e2.block, e2.off + 1, none⟩ = some (.int .i64 i1)) (hy2 : w.cell? ⟨e2.block, e2.off + 2, none⟩ = some (.iface 57 (.int .i64 a1)))
    (hp0 : w.cell? pa = some (.string s0)) (hp1 : w.cell? ⟨pa.block, pa.off + 1, none⟩ = some (.int .i64 i0)) (hq0 : w.cell? ⟨pa.block, pa.off + 2, none⟩ = some (.string s1)) (hq1 : w.cell? ⟨pa.block, pa.off + 2 + 1, none⟩ = some (.int .i64 i1)) :
    Calls Tryd.prog 14 #[.iface 58 (.pointer (some ad)), .agg #[.slice (some pa) 2 c1, .int .i64 a1]] w fun e w' => e = .returned (.bool true) ∧ Below w.heap.size w w' := by
  have hu := Tryd.underlying45
  have c0 : (a1 == 0) = false := by simpa using h0
  have HX2 := Aside0.mk hx2
  have HY2 := Aside0.mk hy2
  have HL := Aside0.mk (World.block_lt_of_cell? w _ hx2)
  have HL2 := Aside0.mk (World.block_lt_of_cell? w _ hy2)
  have HG := Aside0.mk (Glob.err hG)
  clear hx2 hy2 hG
  go_enter Tryd.func14, Tryd.ntmps14
  go_wp2_with (go_at_call 20; (refine (is_fault2 ad e2 a1 _ (by rw [World.cell?_alloc_lt _ _ _ HL.out]; exact HX2.out) (by rw [World.cell?_alloc_lt _ _ _ HL2.out]; exact HY2.out)).mono ?_); rintro e w1 ⟨rfl, rfl⟩)
  refine wp_loop_rounds 3 ?_
  rw [rounds_succ]
  go_wp2
  refine wp_region_held_drew (S := fun _ => True) (by kernel_rfl) trivial (fun hHeld => ?_)
  refine wpAnyH_take (i := 0) (oi := ({ dst := some 31, op := Go.Op.move (Go.Operand.tmp 0), type := 34, pos := "law.go:29", after := #[], guard := none } : Oper)) (v := ?_) rfl (by kernel_rfl) (by kernel_rfl) (by kernel_rfl) (fun _ _ _ h => h) (Or.inl ⟨by rfl, ?_⟩) (by assumption) ?_; rotate_left; focus (intro w hSw; (try dsimp only at hSw); go_simp; (try with_reducible rfl))
  (try simp only [Act.put, List.setIfInBounds_toArray, List.set_cons_zero, List.set_cons_succ])
  refine wpAnyH_take (i := 1) (oi := ({ dst := some 32, op := Go.Op.makeInterface 60 (Go.Operand.tmp 6), type := 20, pos := "law.go:29", after := #[], guard := none } : Oper)) (v := ?_) rfl (by kernel_rfl) (by kernel_rfl) (by kernel_rfl) (fun _ _ _ h => h) (Or.inl ⟨by rfl, ?_⟩) (by assumption) ?_; rotate_left; focus (intro w hSw; (try dsimp only at hSw); go_simp; (try with_reducible rfl))
  (try simp only [Act.put, List.setIfInBounds_toArray, List.set_cons_zero, List.set_cons_succ])
  refine wpAnyH_ready (rs := [2]) (by kernel_rfl) (by simp) ?_
  refine AllReadyH.cons (o := ({ dst := some 33, op := Go.Op.call { callee := Go.Callee.value (Go.Operand.func 21), args := #[Go.Operand.tmp 31, Go.Operand.tmp 32], argTypes := #[34, 20] }, type := 4, pos := "law.go:29", after := #[{ on := 0, ground := Go.Ground.data }, { on := 1, ground := Go.Ground.data }], guard := none } : Oper)) rfl (fun K hK => ?_) AllReadyH.nil
  rw [if_pos (by rfl)]
  go_simp
  have hb2 := (below2 w (.cells #[.slice (some pa) 2 c1, .int .i64 a1] 45) (.cells #[.pointer none] 58)).drew
  refine (asF ad _ (.pointer none) _ (ErrTy.below HG.out hb2) (new2 _ _ _ _) (new2f _ _ _ _)).mono ?_
  rintro e w1 ⟨rfl, ht1, hg1⟩
  refine hK.out _ _ trivial (fun _ => ?_)
  clear hK K
  have lx := World.block_lt_of_cell? w _ hx0
  have ly := World.block_lt_of_cell? w _ hy0
  have lp := World.block_lt_of_cell? w _ hp0
  have hbw : Below w.heap.size w w1 := hb2.grown hg1 hb2.size (fun k hk => by obtain rfl := Option.some.inj hk; exact Nat.le_add_right _ _)
  have r0 := pw_cell_below hbw hx0
  have r1 := pw_cell_below hbw hx1
  have r2 := pw_cell_below hbw HX2.out
  have r3 := pw_cell_below hbw hp0
  have r4 := pw_cell_below hbw hp1
  have r5 := grown_cell hg1 (box2 w (.slice (some pa) 2 c1) (.int .i64 a1) 45 (.cells #[.pointer none] 58)) (by show w.heap.size ≠ w.heap.size + 1; omega)
  have r6 := grown_cell hg1 (box2' w (.slice (some pa) 2 c1) (.int .i64 a1) 45 (.cells #[.pointer none] 58)) (by show w.heap.size ≠ w.heap.size + 1; omega)
  refine wpAnyH_mono (S1 := fun w_ => w_.cell? ⟨w.heap.size + 1, 0, none⟩ = some (.pointer (some ad)) ∧ w_.cell? ad = some (.string s0) ∧ w_.cell? ⟨ad.block, ad.off + 1, none⟩ = some (.int .i64 i0) ∧ w_.cell? ⟨w.heap.size, 0, none⟩ = some (.slice (some pa) 2 c1) ∧ w_.cell? pa = some (.string s0) ∧ w_.cell? ⟨pa.block, pa.off + 1, none⟩ = some (.int .i64 i0)) (fun _ _ => trivial) _ _ _ _ ?_
  have hHeld2 := And.intro ht1 (And.intro r0 (And.intro r1 (And.intro r5 (And.intro r3 r4))))
  refine wpAnyH_take (i := 3) (oi := ({ dst := some 34, op := Go.Op.unOp Go.UnOp.not 4 (Go.Operand.tmp 33), type := 4, pos := "law.go:29", after := #[{ on := 2, ground := Go.Ground.data }], guard := none } : Oper)) (v := ?_) rfl (by kernel_rfl) (by kernel_rfl) (by kernel_rfl) (fun _ _ _ h => h) (Or.inl ⟨by rfl, ?_⟩) (by assumption) ?_; rotate_left; focus (intro w hSw; (try dsimp only at hSw); go_simp; (try with_reducible rfl))
  (try simp only [Act.put, List.setIfInBounds_toArray, List.set_cons_zero, List.set_cons_succ])
  refine wpAnyH_take (i := 4) (oi := ({ dst := some 35, op := Go.Op.move (Go.Operand.tmp 34), type := 4, pos := "law.go:29", after := #[{ on := 3, ground := Go.Ground.data }, { on := 2, ground := Go.Ground.chain }], guard := none } : Oper)) (v := ?_) rfl (by kernel_rfl) (by kernel_rfl) (by kernel_rfl) (fun _ _ _ h => h) (Or.inl ⟨by rfl, ?_⟩) (by assumption) ?_; rotate_left; focus (intro w hSw; (try dsimp only at hSw); go_simp; (try with_reducible rfl))
  (try simp only [Act.put, List.setIfInBounds_toArray, List.set_cons_zero, List.set_cons_succ])
  refine wpAnyH_take (i := 5) (oi := ({ dst := some 36, op := Go.Op.load 58 (Go.Operand.tmp 6), type := 58, pos := "law.go:29", after := #[{ on := 4, ground := Go.Ground.guard }], guard := some (4, false) } : Oper)) (v := ?_) rfl (by kernel_rfl) (by kernel_rfl) (by kernel_rfl) (fun _ _ _ h => h) (Or.inl ⟨by rfl, ?_⟩) (by assumption) ?_; rotate_left; focus (intro w hSw; (try dsimp only at hSw); go_simp; (try with_reducible rfl))
  (try simp only [Act.put, List.setIfInBounds_toArray, List.set_cons_zero, List.set_cons_succ])
  refine wpAnyH_take (i := 6) (oi := ({ dst := some 37, op := Go.Op.binOp Go.BinOp.eql 58 (Go.Operand.tmp 36) (Go.Operand.const (Go.Value.pointer none)) 58, type := 4, pos := "law.go:29", after := #[{ on := 5, ground := Go.Ground.data }, { on := 4, ground := Go.Ground.guard }], guard := some (4, false) } : Oper)) (v := ?_) rfl (by kernel_rfl) (by kernel_rfl) (by kernel_rfl) (fun _ _ _ h => h) (Or.inl ⟨by rfl, ?_⟩) (by assumption) ?_; rotate_left; focus (intro w hSw; (try dsimp only at hSw); go_simp; (try with_reducible rfl))
  (try simp only [Act.put, List.setIfInBounds_toArray, List.set_cons_zero, List.set_cons_succ])
  refine wpAnyH_take (i := 7) (oi := ({ dst := some 38, op := Go.Op.pick (Go.Operand.tmp 35) (Go.Operand.const (Go.Value.bool true)) (Go.Operand.tmp 37), type := 4, pos := "law.go:29", after := #[{ on := 4, ground := Go.Ground.data }, { on := 6, ground := Go.Ground.data }], guard := none } : Oper)) (v := ?_) rfl (by kernel_rfl) (by kernel_rfl) (by kernel_rfl) (fun _ _ _ h => h) (Or.inl ⟨by rfl, ?_⟩) (by assumption) ?_; rotate_left; focus (intro w hSw; (try dsimp only at hSw); go_simp; (try with_reducible rfl))
  (try simp only [Act.put, List.setIfInBounds_toArray, List.set_cons_zero, List.set_cons_succ])
  refine wpAnyH_take (i := 8) (oi := ({ dst := some 39, op := Go.Op.move (Go.Operand.tmp 38), type := 4, pos := "law.go:29", after := #[{ on := 7, ground := Go.Ground.data }, { on := 4, ground := Go.Ground.chain }], guard := none } : Oper)) (v := ?_) rfl (by kernel_rfl) (by kernel_rfl) (by kernel_rfl) (fun _ _ _ h => h) (Or.inl ⟨by rfl, ?_⟩) (by assumption) ?_; rotate_left; focus (intro w hSw; (try dsimp only at hSw); go_simp; (try with_reducible rfl))
  (try simp only [Act.put, List.setIfInBounds_toArray, List.set_cons_zero, List.set_cons_succ])
  refine wpAnyH_take (i := 9) (oi := ({ dst := some 40, op := Go.Op.load 58 (Go.Operand.tmp 6), type := 58, pos := "law.go:29", after := #[{ on := 8, ground := Go.Ground.guard }], guard := some (8, false) } : Oper)) (v := ?_) rfl (by kernel_rfl) (by kernel_rfl) (by kernel_rfl) (fun _ _ _ h => h) (Or.inl ⟨by rfl, ?_⟩) (by assumption) ?_; rotate_left; focus (intro w hSw; (try dsimp only at hSw); go_simp; (try with_reducible rfl))
  (try simp only [Act.put, List.setIfInBounds_toArray, List.set_cons_zero, List.set_cons_succ])
  refine wpAnyH_take (i := 10) (oi := ({ dst := some 41, op := Go.Op.nilCheck (Go.Operand.tmp 40), type := 0, pos := "law.go:29", after := #[{ on := 9, ground := Go.Ground.data }, { on := 8, ground := Go.Ground.guard }], guard := some (8, false) } : Oper)) (v := ?_) rfl (by kernel_rfl) (by kernel_rfl) (by kernel_rfl) (fun _ _ _ h => h) (Or.inl ⟨by rfl, ?_⟩) (by assumption) ?_; rotate_left; focus (intro w hSw; (try dsimp only at hSw); go_simp; (try with_reducible rfl))
  (try simp only [Act.put, List.setIfInBounds_toArray, List.set_cons_zero, List.set_cons_succ])
  refine wpAnyH_take (i := 11) (oi := ({ dst := some 42, op := Go.Op.fieldAddr 62 (Go.Operand.tmp 41) 0, type := 0, pos := "law.go:29", after := #[{ on := 10, ground := Go.Ground.data }, { on := 8, ground := Go.Ground.guard }], guard := some (8, false) } : Oper)) (v := ?_) rfl (by kernel_rfl) (by kernel_rfl) (by kernel_rfl) (fun _ _ _ h => h) (Or.inl ⟨by rfl, ?_⟩) (by assumption) ?_; rotate_left; focus (intro w hSw; (try dsimp only at hSw); go_simp; (try with_reducible rfl))
  (try simp only [Act.put, List.setIfInBounds_toArray, List.set_cons_zero, List.set_cons_succ])
  refine wpAnyH_take (i := 12) (oi := ({ dst := some 43, op := Go.Op.load 9 (Go.Operand.tmp 42), type := 9, pos := "law.go:29", after := #[{ on := 11, ground := Go.Ground.data }, { on := 8, ground := Go.Ground.guard }], guard := some (8, false) } : Oper)) (v := ?_) rfl (by kernel_rfl) (by kernel_rfl) (by kernel_rfl) (fun _ _ _ h => h) (Or.inl ⟨by rfl, ?_⟩) (by assumption) ?_; rotate_left; focus (intro w hSw; (try dsimp only at hSw); go_simp; (try with_reducible rfl))
  (try simp only [Act.put, List.setIfInBounds_toArray, List.set_cons_zero, List.set_cons_succ])
  refine wpAnyH_take (i := 13) (oi := ({ dst := some 44, op := Go.Op.fieldAddr 45 (Go.Operand.tmp 3) 0, type := 0, pos := "law.go:29", after := #[{ on := 8, ground := Go.Ground.guard }], guard := some (8, false) } : Oper)) (v := ?_) rfl (by kernel_rfl) (by kernel_rfl) (by kernel_rfl) (fun _ _ _ h => h) (Or.inl ⟨by rfl, ?_⟩) (by assumption) ?_; rotate_left; focus (intro w hSw; (try dsimp only at hSw); go_simp; (try with_reducible rfl))
  (try simp only [Act.put, List.setIfInBounds_toArray, List.set_cons_zero, List.set_cons_succ])
  refine wpAnyH_take (i := 14) (oi := ({ dst := some 45, op := Go.Op.load 43 (Go.Operand.tmp 44), type := 43, pos := "law.go:29", after := #[{ on := 13, ground := Go.Ground.data }, { on := 8, ground := Go.Ground.guard }], guard := some (8, false) } : Oper)) (v := ?_) rfl (by kernel_rfl) (by kernel_rfl) (by kernel_rfl) (fun _ _ _ h => h) (Or.inl ⟨by rfl, ?_⟩) (by assumption) ?_; rotate_left; focus (intro w hSw; (try dsimp only at hSw); go_simp; (try with_reducible rfl))
  (try simp only [Act.put, List.setIfInBounds_toArray, List.set_cons_zero, List.set_cons_succ])
  refine wpAnyH_take (i := 15) (oi := ({ dst := some 46, op := Go.Op.move (Go.Operand.tmp 5), type := 3, pos := "law.go:29", after := #[{ on := 8, ground := Go.Ground.guard }], guard := some (8, false) } : Oper)) (v := ?_) rfl (by kernel_rfl) (by kernel_rfl) (by kernel_rfl) (fun _ _ _ h => h) (Or.inl ⟨by rfl, ?_⟩) (by assumption) ?_; rotate_left; focus (intro w hSw; (try dsimp only at hSw); go_simp; (try with_reducible rfl))
  (try simp only [Act.put, List.setIfInBounds_toArray, List.set_cons_zero, List.set_cons_succ])
  refine wpAnyH_take (i := 16) (oi := ({ dst := some 47, op := Go.Op.indexAddr 43 (Go.Operand.tmp 45) (Go.Operand.tmp 46), type := 0, pos := "law.go:29", after := #[{ on := 14, ground := Go.Ground.data }, { on := 15, ground := Go.Ground.data }, { on := 8, ground := Go.Ground.guard }], guard := some (8, false) } : Oper)) (v := ?_) rfl (by kernel_rfl) (by kernel_rfl) (by kernel_rfl) (fun _ _ _ h => h) (Or.inl ⟨by rfl, ?_⟩) (by assumption) ?_; rotate_left; focus (intro w hSw; (try dsimp only at hSw); go_simp; (try with_reducible rfl))
  (try simp only [Act.put, List.setIfInBounds_toArray, List.set_cons_zero, List.set_cons_succ])
  refine wpAnyH_take (i := 17) (oi := ({ dst := some 48, op := Go.Op.fieldAddr 55 (Go.Operand.tmp 47) 0, type := 0, pos := "law.go:29", after := #[{ on := 16, ground := Go.Ground.data }, { on := 8, ground := Go.Ground.guard }], guard := some (8, false) } : Oper)) (v := ?_) rfl (by kernel_rfl) (by kernel_rfl) (by kernel_rfl) (fun _ _ _ h => h) (Or.inl ⟨by rfl, ?_⟩) (by assumption) ?_; rotate_left; focus (intro w hSw; (try dsimp only at hSw); go_simp; (try with_reducible rfl))
  (try simp only [Act.put, List.setIfInBounds_toArray, List.set_cons_zero, List.set_cons_succ])
  refine wpAnyH_take (i := 18) (oi := ({ dst := some 49, op := Go.Op.load 9 (Go.Operand.tmp 48), type := 9, pos := "law.go:29", after := #[{ on := 17, ground := Go.Ground.data }, { on := 8, ground := Go.Ground.guard }], guard := some (8, false) } : Oper)) (v := ?_) rfl (by kernel_rfl) (by kernel_rfl) (by kernel_rfl) (fun _ _ _ h => h) (Or.inl ⟨by rfl, ?_⟩) (by assumption) ?_; rotate_left; focus (intro w hSw; (try dsimp only at hSw); go_simp; (try with_reducible rfl))
  (try simp only [Act.put, List.setIfInBounds_toArray, List.set_cons_zero, List.set_cons_succ])
  refine wpAnyH_take (i := 19) (oi := ({ dst := some 50, op := Go.Op.binOp Go.BinOp.neq 9 (Go.Operand.tmp 43) (Go.Operand.tmp 49) 9, type := 4, pos := "law.go:29", after := #[{ on := 12, ground := Go.Ground.data }, { on := 18, ground := Go.Ground.data }, { on := 8, ground := Go.Ground.guard }], guard := some (8, false) } : Oper)) (v := ?_) rfl (by kernel_rfl) (by kernel_rfl) (by kernel_rfl) (fun _ _ _ h => h) (Or.inl ⟨by rfl, ?_⟩) (by assumption) ?_; rotate_left; focus (intro w hSw; (try dsimp only at hSw); go_simp; (try with_reducible rfl))
  (try simp only [Act.put, List.setIfInBounds_toArray, List.set_cons_zero, List.set_cons_succ])
  refine wpAnyH_take (i := 20) (oi := ({ dst := some 51, op := Go.Op.pick (Go.Operand.tmp 39) (Go.Operand.const (Go.Value.bool true)) (Go.Operand.tmp 50), type := 4, pos := "law.go:29", after := #[{ on := 8, ground := Go.Ground.data }, { on := 19, ground := Go.Ground.data }], guard := none } : Oper)) (v := ?_) rfl (by kernel_rfl) (by kernel_rfl) (by kernel_rfl) (fun _ _ _ h => h) (Or.inl ⟨by rfl, ?_⟩) (by assumption) ?_; rotate_left; focus (intro w hSw; (try dsimp only at hSw); go_simp; (try with_reducible rfl))
  (try simp only [Act.put, List.setIfInBounds_toArray, List.set_cons_zero, List.set_cons_succ])
  refine wpAnyH_take (i := 21) (oi := ({ dst := some 52, op := Go.Op.move (Go.Operand.tmp 51), type := 4, pos := "law.go:29", after := #[{ on := 20, ground := Go.Ground.data }, { on := 8, ground := Go.Ground.chain }], guard := none } : Oper)) (v := ?_) rfl (by kernel_rfl) (by kernel_rfl) (by kernel_rfl) (fun _ _ _ h => h) (Or.inl ⟨by rfl, ?_⟩) (by assumption) ?_; rotate_left; focus (intro w hSw; (try dsimp only at hSw); go_simp; (try with_reducible rfl))
  (try simp only [Act.put, List.setIfInBounds_toArray, List.set_cons_zero, List.set_cons_succ])
  refine wpAnyH_take (i := 22) (oi := ({ dst := some 53, op := Go.Op.load 58 (Go.Operand.tmp 6), type := 58, pos := "law.go:29", after := #[{ on := 21, ground := Go.Ground.guard }], guard := some (21, false) } : Oper)) (v := ?_) rfl (by kernel_rfl) (by kernel_rfl) (by kernel_rfl) (fun _ _ _ h => h) (Or.inl ⟨by rfl, ?_⟩) (by assumption) ?_; rotate_left; focus (intro w hSw; (try dsimp only at hSw); go_simp; (try with_reducible rfl))
  (try simp only [Act.put, List.setIfInBounds_toArray, List.set_cons_zero, List.set_cons_succ])
  refine wpAnyH_take (i := 23) (oi := ({ dst := some 54, op := Go.Op.nilCheck (Go.Operand.tmp 53), type := 0, pos := "law.go:29", after := #[{ on := 22, ground := Go.Ground.data }, { on := 21, ground := Go.Ground.guard }], guard := some (21, false) } : Oper)) (v := ?_) rfl (by kernel_rfl) (by kernel_rfl) (by kernel_rfl) (fun _ _ _ h => h) (Or.inl ⟨by rfl, ?_⟩) (by assumption) ?_; rotate_left; focus (intro w hSw; (try dsimp only at hSw); go_simp; (try with_reducible rfl))
  (try simp only [Act.put, List.setIfInBounds_toArray, List.set_cons_zero, List.set_cons_succ])
  refine wpAnyH_take (i := 24) (oi := ({ dst := some 55, op := Go.Op.fieldAddr 62 (Go.Operand.tmp 54) 1, type := 0, pos := "law.go:29", after := #[{ on := 23, ground := Go.Ground.data }, { on := 21, ground := Go.Ground.guard }], guard := some (21, false) } : Oper)) (v := ?_) rfl (by kernel_rfl) (by kernel_rfl) (by kernel_rfl) (fun _ _ _ h => h) (Or.inl ⟨by rfl, ?_⟩) (by assumption) ?_; rotate_left; focus (intro w hSw; (try dsimp only at hSw); go_simp; (try with_reducible rfl))
  (try simp only [Act.put, List.setIfInBounds_toArray, List.set_cons_zero, List.set_cons_succ])
  refine wpAnyH_take (i := 25) (oi := ({ dst := some 56, op := Go.Op.load 3 (Go.Operand.tmp 55), type := 3, pos := "law.go:29", after := #[{ on := 24, ground := Go.Ground.data }, { on := 21, ground := Go.Ground.guard }], guard := some (21, false) } : Oper)) (v := ?_) rfl (by kernel_rfl) (by kernel_rfl) (by kernel_rfl) (fun _ _ _ h => h) (Or.inl ⟨by rfl, ?_⟩) (by assumption) ?_; rotate_left; focus (intro w hSw; (try dsimp only at hSw); go_simp; (try with_reducible rfl))
  (try simp only [Act.put, List.setIfInBounds_toArray, List.set_cons_zero, List.set_cons_succ])
  refine wpAnyH_take (i := 26) (oi := ({ dst := some 57, op := Go.Op.fieldAddr 45 (Go.Operand.tmp 3) 0, type := 0, pos := "law.go:29", after := #[{ on := 21, ground := Go.Ground.guard }], guard := some (21, false) } : Oper)) (v := ?_) rfl (by kernel_rfl) (by kernel_rfl) (by kernel_rfl) (fun _ _ _ h => h) (Or.inl ⟨by rfl, ?_⟩) (by assumption) ?_; rotate_left; focus (intro w hSw; (try dsimp only at hSw); go_simp; (try with_reducible rfl))
  (try simp only [Act.put, List.setIfInBounds_toArray, List.set_cons_zero, List.set_cons_succ])
  refine wpAnyH_take (i := 27) (oi := ({ dst := some 58, op := Go.Op.load 43 (Go.Operand.tmp 57), type := 43, pos := "law.go:29", after := #[{ on := 26, ground := Go.Ground.data }, { on := 21, ground := Go.Ground.guard }], guard := some (21, false) } : Oper)) (v := ?_) rfl (by kernel_rfl) (by kernel_rfl) (by kernel_rfl) (fun _ _ _ h => h) (Or.inl ⟨by rfl, ?_⟩) (by assumption) ?_; rotate_left; focus (intro w hSw; (try dsimp only at hSw); go_simp; (try with_reducible rfl))
  (try simp only [Act.put, List.setIfInBounds_toArray, List.set_cons_zero, List.set_cons_succ])
  refine wpAnyH_take (i := 28) (oi := ({ dst := some 59, op := Go.Op.move (Go.Operand.tmp 5), type := 3, pos := "law.go:29", after := #[{ on := 21, ground := Go.Ground.guard }], guard := some (21, false) } : Oper)) (v := ?_) rfl (by kernel_rfl) (by kernel_rfl) (by kernel_rfl) (fun _ _ _ h => h) (Or.inl ⟨by rfl, ?_⟩) (by assumption) ?_; rotate_left; focus (intro w hSw; (try dsimp only at hSw); go_simp; (try with_reducible rfl))
  (try simp only [Act.put, List.setIfInBounds_toArray, List.set_cons_zero, List.set_cons_succ])
  refine wpAnyH_take (i := 29) (oi := ({ dst := some 60, op := Go.Op.indexAddr 43 (Go.Operand.tmp 58) (Go.Operand.tmp 59), type := 0, pos := "law.go:29", after := #[{ on := 27, ground := Go.Ground.data }, { on := 28, ground := Go.Ground.data }, { on := 21, ground := Go.Ground.guard }], guard := some (21, false) } : Oper)) (v := ?_) rfl (by kernel_rfl) (by kernel_rfl) (by kernel_rfl) (fun _ _ _ h => h) (Or.inl ⟨by rfl, ?_⟩) (by assumption) ?_; rotate_left; focus (intro w hSw; (try dsimp only at hSw); go_simp; (try with_reducible rfl))
  (try simp only [Act.put, List.setIfInBounds_toArray, List.set_cons_zero, List.set_cons_succ])
  refine wpAnyH_take (i := 30) (oi := ({ dst := some 61, op := Go.Op.fieldAddr 55 (Go.Operand.tmp 60) 1, type := 0, pos := "law.go:29", after := #[{ on := 29, ground := Go.Ground.data }, { on := 21, ground := Go.Ground.guard }], guard := some (21, false) } : Oper)) (v := ?_) rfl (by kernel_rfl) (by kernel_rfl) (by kernel_rfl) (fun _ _ _ h => h) (Or.inl ⟨by rfl, ?_⟩) (by assumption) ?_; rotate_left; focus (intro w hSw; (try dsimp only at hSw); go_simp; (try with_reducible rfl))
  (try simp only [Act.put, List.setIfInBounds_toArray, List.set_cons_zero, List.set_cons_succ])
  refine wpAnyH_take (i := 31) (oi := ({ dst := some 62, op := Go.Op.load 3 (Go.Operand.tmp 61), type := 3, pos := "law.go:29", after := #[{ on := 30, ground := Go.Ground.data }, { on := 21, ground := Go.Ground.guard }], guard := some (21, false) } : Oper)) (v := ?_) rfl (by kernel_rfl) (by kernel_rfl) (by kernel_rfl) (fun _ _ _ h => h) (Or.inl ⟨by rfl, ?_⟩) (by assumption) ?_; rotate_left; focus (intro w hSw; (try dsimp only at hSw); go_simp; (try with_reducible rfl))
  (try simp only [Act.put, List.setIfInBounds_toArray, List.set_cons_zero, List.set_cons_succ])
  refine wpAnyH_take (i := 32) (oi := ({ dst := some 63, op := Go.Op.binOp Go.BinOp.neq 3 (Go.Operand.tmp 56) (Go.Operand.tmp 62) 3, type := 4, pos := "law.go:29", after := #[{ on := 25, ground := Go.Ground.data }, { on := 31, ground := Go.Ground.data }, { on := 21, ground := Go.Ground.guard }], guard := some (21, false) } : Oper)) (v := ?_) rfl (by kernel_rfl) (by kernel_rfl) (by kernel_rfl) (fun _ _ _ h => h) (Or.inl ⟨by rfl, ?_⟩) (by assumption) ?_; rotate_left; focus (intro w hSw; (try dsimp only at hSw); go_simp; (try with_reducible rfl))
  (try simp only [Act.put, List.setIfInBounds_toArray, List.set_cons_zero, List.set_cons_succ])
  refine wpAnyH_take (i := 33) (oi := ({ dst := some 64, op := Go.Op.pick (Go.Operand.tmp 52) (Go.Operand.const (Go.Value.bool true)) (Go.Operand.tmp 63), type := 4, pos := "law.go:29", after := #[{ on := 21, ground := Go.Ground.data }, { on := 32, ground := Go.Ground.data }], guard := none } : Oper)) (v := ?_) rfl (by kernel_rfl) (by kernel_rfl) (by kernel_rfl) (fun _ _ _ h => h) (Or.inl ⟨by rfl, ?_⟩) (by assumption) ?_; rotate_left; focus (intro w hSw; (try dsimp only at hSw); go_simp; (try with_reducible rfl))
  (try simp only [Act.put, List.setIfInBounds_toArray, List.set_cons_zero, List.set_cons_succ])
  refine wpAnyH_done (by kernel_rfl) ?_ _
  go_wp2
  have lt1 : w.heap.size + 1 < w1.heap.size := World.block_lt_of_cell? w1 _ ht1
  have HBW := Aside0.mk hbw
  have LT := Aside0.mk lt1
  have R5 := Aside0.mk r5
  have R6 := Aside0.mk r6
  clear hbw hb2 r0 r1 r3 r4 hHeld hHeld2 hg1 lt1
  rw [rounds_succ]
  go_wp2
  refine wp_region_held_drew (S := fun _ => True) (by kernel_rfl) trivial (fun hHeld => ?_)
  refine wpAnyH_take (i := 0) (oi := ({ dst := some 31, op := Go.Op.move (Go.Operand.tmp 0), type := 34, pos := "law.go:29", after := #[], guard := none } : Oper)) (v := ?_) rfl (by kernel_rfl) (by kernel_rfl) (by kernel_rfl) (fun _ _ _ h => h) (Or.inl ⟨by rfl, ?_⟩) (by assumption) ?_; rotate_left; focus (intro w hSw; (try dsimp only at hSw); go_simp; (try with_reducible rfl))
  (try simp only [Act.put, List.setIfInBounds_toArray, List.set_cons_zero, List.set_cons_succ])
  refine wpAnyH_take (i := 1) (oi := ({ dst := some 32, op := Go.Op.makeInterface 60 (Go.Operand.tmp 6), type := 20, pos := "law.go:29", after := #[], guard := none } : Oper)) (v := ?_) rfl (by kernel_rfl) (by kernel_rfl) (by kernel_rfl) (fun _ _ _ h => h) (Or.inl ⟨by rfl, ?_⟩) (by assumption) ?_; rotate_left; focus (intro w hSw; (try dsimp only at hSw); go_simp; (try with_reducible rfl))
  (try simp only [Act.put, List.setIfInBounds_toArray, List.set_cons_zero, List.set_cons_succ])
  refine wpAnyH_ready (rs := [2]) (by kernel_rfl) (by simp) ?_
  refine AllReadyH.cons (o := ({ dst := some 33, op := Go.Op.call { callee := Go.Callee.value (Go.Operand.func 21), args := #[Go.Operand.tmp 31, Go.Operand.tmp 32], argTypes := #[34, 20] }, type := 4, pos := "law.go:29", after := #[{ on := 0, ground := Go.Ground.data }, { on := 1, ground := Go.Ground.data }], guard := none } : Oper)) rfl (fun K hK => ?_) AllReadyH.nil
  rw [if_pos (by rfl)]
  go_simp
  have hb3 := (below_alloc HBW.out (.cells #[.pointer none] 58)).drew
  have hb1 := (below_alloc (Below.refl w1.heap.size w1) (.cells #[.pointer none] 58)).drew
  refine (asF e2 _ (.pointer none) _ (ErrTy.below HG.out hb3) (blk_cell (blk_new w1 (.cells #[.pointer none] 58 (0, 0))) 0) (blk_frozen (blk_new w1 (.cells #[.pointer none] 58 (0, 0))) 0)).mono ?_
  rintro e w2 ⟨rfl, ht2, hg2⟩
  refine hK.out _ _ trivial (fun _ => ?_)
  clear hK K
  have hbw : Below w.heap.size w w2 := hb3.grown hg2 hb3.size (fun k hk => by obtain rfl := Option.some.inj hk; have := LT.out; show w.heap.size ≤ w1.heap.size; omega)
  clear r2 r5 r6
  have r0 := pw_cell_below hbw hy0
  have r1 := pw_cell_below hbw hy1
  have r2 := pw_cell_below hbw HY2.out
  have r3 := pw_cell_below hbw hq0
  have r4 := pw_cell_below hbw hq1
  have r5 := grown_cell hg2 (pw_cell_below hb1 R5.out) (by have := LT.out; show w.heap.size ≠ w1.heap.size; omega)
  have r6 := grown_cell hg2 (pw_cell_below hb1 R6.out) (by have := LT.out; show w.heap.size ≠ w1.heap.size; omega)
  refine wpAnyH_mono (S1 := fun w_ => w_.cell? ⟨w1.heap.size, 0, none⟩ = some (.pointer (some e2)) ∧ w_.cell? e2 = some (.string s1) ∧ w_.cell? ⟨e2.block, e2.off + 1, none⟩ = some (.int .i64 i1) ∧ w_.cell? ⟨w.heap.size, 0, none⟩ = some (.slice (some pa) 2 c1) ∧ w_.cell? ⟨pa.block, pa.off + 2, none⟩ = some (.string s1) ∧ w_.cell? ⟨pa.block, pa.off + 2 + 1, none⟩ = some (.int .i64 i1)) (fun _ _ => trivial) _ _ _ _ ?_
  have hHeld2 := And.intro ht2 (And.intro r0 (And.intro r1 (And.intro r5 (And.intro r3 r4))))
  refine wpAnyH_take (i := 3) (oi := ({ dst := some 34, op := Go.Op.unOp Go.UnOp.not 4 (Go.Operand.tmp 33), type := 4, pos := "law.go:29", after := #[{ on := 2, ground := Go.Ground.data }], guard := none } : Oper)) (v := ?_) rfl (by kernel_rfl) (by kernel_rfl) (by kernel_rfl) (fun _ _ _ h => h) (Or.inl ⟨by rfl, ?_⟩) (by assumption) ?_; rotate_left; focus (intro w hSw; (try dsimp only at hSw); go_simp; (try with_reducible rfl))
  (try simp only [Act.put, List.setIfInBounds_toArray, List.set_cons_zero, List.set_cons_succ])
  refine wpAnyH_take (i := 4) (oi := ({ dst := some 35, op := Go.Op.move (Go.Operand.tmp 34), type := 4, pos := "law.go:29", after := #[{ on := 3, ground := Go.Ground.data }, { on := 2, ground := Go.Ground.chain }], guard := none } : Oper)) (v := ?_) rfl (by kernel_rfl) (by kernel_rfl) (by kernel_rfl) (fun _ _ _ h => h) (Or.inl ⟨by rfl, ?_⟩) (by assumption) ?_; rotate_left; focus (intro w hSw; (try dsimp only at hSw); go_simp; (try with_reducible rfl))
  (try simp only [Act.put, List.setIfInBounds_toArray, List.set_cons_zero, List.set_cons_succ])
  refine wpAnyH_take (i := 5) (oi := ({ dst := some 36, op := Go.Op.load 58 (Go.Operand.tmp 6), type := 58, pos := "law.go:29", after := #[{ on := 4, ground := Go.Ground.guard }], guard := some (4, false) } : Oper)) (v := ?_) rfl (by kernel_rfl) (by kernel_rfl) (by kernel_rfl) (fun _ _ _ h => h) (Or.inl ⟨by rfl, ?_⟩) (by assumption) ?_; rotate_left; focus (intro w hSw; (try dsimp only at hSw); go_simp; (try with_reducible rfl))
  (try simp only [Act.put, List.setIfInBounds_toArray, List.set_cons_zero, List.set_cons_succ])
  refine wpAnyH_take (i := 6) (oi := ({ dst := some 37, op := Go.Op.binOp Go.BinOp.eql 58 (Go.Operand.tmp 36) (Go.Operand.const (Go.Value.pointer none)) 58, type := 4, pos := "law.go:29", after := #[{ on := 5, ground := Go.Ground.data }, { on := 4, ground := Go.Ground.guard }], guard := some (4, false) } : Oper)) (v := ?_) rfl (by kernel_rfl) (by kernel_rfl) (by kernel_rfl) (fun _ _ _ h => h) (Or.inl ⟨by rfl, ?_⟩) (by assumption) ?_; rotate_left; focus (intro w hSw; (try dsimp only at hSw); go_simp; (try with_reducible rfl))
  (try simp only [Act.put, List.setIfInBounds_toArray, List.set_cons_zero, List.set_cons_succ])
  refine wpAnyH_take (i := 7) (oi := ({ dst := some 38, op := Go.Op.pick (Go.Operand.tmp 35) (Go.Operand.const (Go.Value.bool true)) (Go.Operand.tmp 37), type := 4, pos := "law.go:29", after := #[{ on := 4, ground := Go.Ground.data }, { on := 6, ground := Go.Ground.data }], guard := none } : Oper)) (v := ?_) rfl (by kernel_rfl) (by kernel_rfl) (by kernel_rfl) (fun _ _ _ h => h) (Or.inl ⟨by rfl, ?_⟩) (by assumption) ?_; rotate_left; focus (intro w hSw; (try dsimp only at hSw); go_simp; (try with_reducible rfl))
  (try simp only [Act.put, List.setIfInBounds_toArray, List.set_cons_zero, List.set_cons_succ])
  refine wpAnyH_take (i := 8) (oi := ({ dst := some 39, op := Go.Op.move (Go.Operand.tmp 38), type := 4, pos := "law.go:29", after := #[{ on := 7, ground := Go.Ground.data }, { on := 4, ground := Go.Ground.chain }], guard := none } : Oper)) (v := ?_) rfl (by kernel_rfl) (by kernel_rfl) (by kernel_rfl) (fun _ _ _ h => h) (Or.inl ⟨by rfl, ?_⟩) (by assumption) ?_; rotate_left; focus (intro w hSw; (try dsimp only at hSw); go_simp; (try with_reducible rfl))
  (try simp only [Act.put, List.setIfInBounds_toArray, List.set_cons_zero, List.set_cons_succ])
  refine wpAnyH_take (i := 9) (oi := ({ dst := some 40, op := Go.Op.load 58 (Go.Operand.tmp 6), type := 58, pos := "law.go:29", after := #[{ on := 8, ground := Go.Ground.guard }], guard := some (8, false) } : Oper)) (v := ?_) rfl (by kernel_rfl) (by kernel_rfl) (by kernel_rfl) (fun _ _ _ h => h) (Or.inl ⟨by rfl, ?_⟩) (by assumption) ?_; rotate_left; focus (intro w hSw; (try dsimp only at hSw); go_simp; (try with_reducible rfl))
  (try simp only [Act.put, List.setIfInBounds_toArray, List.set_cons_zero, List.set_cons_succ])
  refine wpAnyH_take (i := 10) (oi := ({ dst := some 41, op := Go.Op.nilCheck (Go.Operand.tmp 40), type := 0, pos := "law.go:29", after := #[{ on := 9, ground := Go.Ground.data }, { on := 8, ground := Go.Ground.guard }], guard := some (8, false) } : Oper)) (v := ?_) rfl (by kernel_rfl) (by kernel_rfl) (by kernel_rfl) (fun _ _ _ h => h) (Or.inl ⟨by rfl, ?_⟩) (by assumption) ?_; rotate_left; focus (intro w hSw; (try dsimp only at hSw); go_simp; (try with_reducible rfl))
  (try simp only [Act.put, List.setIfInBounds_toArray, List.set_cons_zero, List.set_cons_succ])
  refine wpAnyH_take (i := 11) (oi := ({ dst := some 42, op := Go.Op.fieldAddr 62 (Go.Operand.tmp 41) 0, type := 0, pos := "law.go:29", after := #[{ on := 10, ground := Go.Ground.data }, { on := 8, ground := Go.Ground.guard }], guard := some (8, false) } : Oper)) (v := ?_) rfl (by kernel_rfl) (by kernel_rfl) (by kernel_rfl) (fun _ _ _ h => h) (Or.inl ⟨by rfl, ?_⟩) (by assumption) ?_; rotate_left; focus (intro w hSw; (try dsimp only at hSw); go_simp; (try with_reducible rfl))
  (try simp only [Act.put, List.setIfInBounds_toArray, List.set_cons_zero, List.set_cons_succ])
  refine wpAnyH_take (i := 12) (oi := ({ dst := some 43, op := Go.Op.load 9 (Go.Operand.tmp 42), type := 9, pos := "law.go:29", after := #[{ on := 11, ground := Go.Ground.data }, { on := 8, ground := Go.Ground.guard }], guard := some (8, false) } : Oper)) (v := ?_) rfl (by kernel_rfl) (by kernel_rfl) (by kernel_rfl) (fun _ _ _ h => h) (Or.inl ⟨by rfl, ?_⟩) (by assumption) ?_; rotate_left; focus (intro w hSw; (try dsimp only at hSw); go_simp; (try with_reducible rfl))
  (try simp only [Act.put, List.setIfInBounds_toArray, List.set_cons_zero, List.set_cons_succ])
  refine wpAnyH_take (i := 13) (oi := ({ dst := some 44, op := Go.Op.fieldAddr 45 (Go.Operand.tmp 3) 0, type := 0, pos := "law.go:29", after := #[{ on := 8, ground := Go.Ground.guard }], guard := some (8, false) } : Oper)) (v := ?_) rfl (by kernel_rfl) (by kernel_rfl) (by kernel_rfl) (fun _ _ _ h => h) (Or.inl ⟨by rfl, ?_⟩) (by assumption) ?_; rotate_left; focus (intro w hSw; (try dsimp only at hSw); go_simp; (try with_reducible rfl))
  (try simp only [Act.put, List.setIfInBounds_toArray, List.set_cons_zero, List.set_cons_succ])
  refine wpAnyH_take (i := 14) (oi := ({ dst := some 45, op := Go.Op.load 43 (Go.Operand.tmp 44), type := 43, pos := "law.go:29", after := #[{ on := 13, ground := Go.Ground.data }, { on := 8, ground := Go.Ground.guard }], guard := some (8, false) } : Oper)) (v := ?_) rfl (by kernel_rfl) (by kernel_rfl) (by kernel_rfl) (fun _ _ _ h => h) (Or.inl ⟨by rfl, ?_⟩) (by assumption) ?_; rotate_left; focus (intro w hSw; (try dsimp only at hSw); go_simp; (try with_reducible rfl))
  (try simp only [Act.put, List.setIfInBounds_toArray, List.set_cons_zero, List.set_cons_succ])
  refine wpAnyH_take (i := 15) (oi := ({ dst := some 46, op := Go.Op.move (Go.Operand.tmp 5), type := 3, pos := "law.go:29", after := #[{ on := 8, ground := Go.Ground.guard }], guard := some (8, false) } : Oper)) (v := ?_) rfl (by kernel_rfl) (by kernel_rfl) (by kernel_rfl) (fun _ _ _ h => h) (Or.inl ⟨by rfl, ?_⟩) (by assumption) ?_; rotate_left; focus (intro w hSw; (try dsimp only at hSw); go_simp; (try with_reducible rfl))
  (try simp only [Act.put, List.setIfInBounds_toArray, List.set_cons_zero, List.set_cons_succ])
  refine wpAnyH_take (i := 16) (oi := ({ dst := some 47, op := Go.Op.indexAddr 43 (Go.Operand.tmp 45) (Go.Operand.tmp 46), type := 0, pos := "law.go:29", after := #[{ on := 14, ground := Go.Ground.data }, { on := 15, ground := Go.Ground.data }, { on := 8, ground := Go.Ground.guard }], guard := some (8, false) } : Oper)) (v := ?_) rfl (by kernel_rfl) (by kernel_rfl) (by kernel_rfl) (fun _ _ _ h => h) (Or.inl ⟨by rfl, ?_⟩) (by assumption) ?_; rotate_left; focus (intro w hSw; (try dsimp only at hSw); go_simp; (try with_reducible rfl))
  (try simp only [Act.put, List.setIfInBounds_toArray, List.set_cons_zero, List.set_cons_succ])
  refine wpAnyH_take (i := 17) (oi := ({ dst := some 48, op := Go.Op.fieldAddr 55 (Go.Operand.tmp 47) 0, type := 0, pos := "law.go:29", after := #[{ on := 16, ground := Go.Ground.data }, { on := 8, ground := Go.Ground.guard }], guard := some (8, false) } : Oper)) (v := ?_) rfl (by kernel_rfl) (by kernel_rfl) (by kernel_rfl) (fun _ _ _ h => h) (Or.inl ⟨by rfl, ?_⟩) (by assumption) ?_; rotate_left; focus (intro w hSw; (try dsimp only at hSw); go_simp; (try with_reducible rfl))
  (try simp only [Act.put, List.setIfInBounds_toArray, List.set_cons_zero, List.set_cons_succ])
  refine wpAnyH_take (i := 18) (oi := ({ dst := some 49, op := Go.Op.load 9 (Go.Operand.tmp 48), type := 9, pos := "law.go:29", after := #[{ on := 17, ground := Go.Ground.data }, { on := 8, ground := Go.Ground.guard }], guard := some (8, false) } : Oper)) (v := ?_) rfl (by kernel_rfl) (by kernel_rfl) (by kernel_rfl) (fun _ _ _ h => h) (Or.inl ⟨by rfl, ?_⟩) (by assumption) ?_; rotate_left; focus (intro w hSw; (try dsimp only at hSw); go_simp; (try with_reducible rfl))
  (try simp only [Act.put, List.setIfInBounds_toArray, List.set_cons_zero, List.set_cons_succ])
  refine wpAnyH_take (i := 19) (oi := ({ dst := some 50, op := Go.Op.binOp Go.BinOp.neq 9 (Go.Operand.tmp 43) (Go.Operand.tmp 49) 9, type := 4, pos := "law.go:29", after := #[{ on := 12, ground := Go.Ground.data }, { on := 18, ground := Go.Ground.data }, { on := 8, ground := Go.Ground.guard }], guard := some (8, false) } : Oper)) (v := ?_) rfl (by kernel_rfl) (by kernel_rfl) (by kernel_rfl) (fun _ _ _ h => h) (Or.inl ⟨by rfl, ?_⟩) (by assumption) ?_; rotate_left; focus (intro w hSw; (try dsimp only at hSw); go_simp; (try with_reducible rfl))
  (try simp only [Act.put, List.setIfInBounds_toArray, List.set_cons_zero, List.set_cons_succ])
  refine wpAnyH_take (i := 20) (oi := ({ dst := some 51, op := Go.Op.pick (Go.Operand.tmp 39) (Go.Operand.const (Go.Value.bool true)) (Go.Operand.tmp 50), type := 4, pos := "law.go:29", after := #[{ on := 8, ground := Go.Ground.data }, { on := 19, ground := Go.Ground.data }], guard := none } : Oper)) (v := ?_) rfl (by kernel_rfl) (by kernel_rfl) (by kernel_rfl) (fun _ _ _ h => h) (Or.inl ⟨by rfl, ?_⟩) (by assumption) ?_; rotate_left; focus (intro w hSw; (try dsimp only at hSw); go_simp; (try with_reducible rfl))
  (try simp only [Act.put, List.setIfInBounds_toArray, List.set_cons_zero, List.set_cons_succ])
  refine wpAnyH_take (i := 21) (oi := ({ dst := some 52, op := Go.Op.move (Go.Operand.tmp 51), type := 4, pos := "law.go:29", after := #[{ on := 20, ground := Go.Ground.data }, { on := 8, ground := Go.Ground.chain }], guard := none } : Oper)) (v := ?_) rfl (by kernel_rfl) (by kernel_rfl) (by kernel_rfl) (fun _ _ _ h => h) (Or.inl ⟨by rfl, ?_⟩) (by assumption) ?_; rotate_left; focus (intro w hSw; (try dsimp only at hSw); go_simp; (try with_reducible rfl))
  (try simp only [Act.put, List.setIfInBounds_toArray, List.set_cons_zero, List.set_cons_succ])
  refine wpAnyH_take (i := 22) (oi := ({ dst := some 53, op := Go.Op.load 58 (Go.Operand.tmp 6), type := 58, pos := "law.go:29", after := #[{ on := 21, ground := Go.Ground.guard }], guard := some (21, false) } : Oper)) (v := ?_) rfl (by kernel_rfl) (by kernel_rfl) (by kernel_rfl) (fun _ _ _ h => h) (Or.inl ⟨by rfl, ?_⟩) (by assumption) ?_; rotate_left; focus (intro w hSw; (try dsimp only at hSw); go_simp; (try with_reducible rfl))
  (try simp only [Act.put, List.setIfInBounds_toArray, List.set_cons_zero, List.set_cons_succ])
  refine wpAnyH_take (i := 23) (oi := ({ dst := some 54, op := Go.Op.nilCheck (Go.Operand.tmp 53), type := 0, pos := "law.go:29", after := #[{ on := 22, ground := Go.Ground.data }, { on := 21, ground := Go.Ground.guard }], guard := some (21, false) } : Oper)) (v := ?_) rfl (by kernel_rfl) (by kernel_rfl) (by kernel_rfl) (fun _ _ _ h => h) (Or.inl ⟨by rfl, ?_⟩) (by assumption) ?_; rotate_left; focus (intro w hSw; (try dsimp only at hSw); go_simp; (try with_reducible rfl))
  (try simp only [Act.put, List.setIfInBounds_toArray, List.set_cons_zero, List.set_cons_succ])
  refine wpAnyH_take (i := 24) (oi := ({ dst := some 55, op := Go.Op.fieldAddr 62 (Go.Operand.tmp 54) 1, type := 0, pos := "law.go:29", after := #[{ on := 23, ground := Go.Ground.data }, { on := 21, ground := Go.Ground.guard }], guard := some (21, false) } : Oper)) (v := ?_) rfl (by kernel_rfl) (by kernel_rfl) (by kernel_rfl) (fun _ _ _ h => h) (Or.inl ⟨by rfl, ?_⟩) (by assumption) ?_; rotate_left; focus (intro w hSw; (try dsimp only at hSw); go_simp; (try with_reducible rfl))
  (try simp only [Act.put, List.setIfInBounds_toArray, List.set_cons_zero, List.set_cons_succ])
  refine wpAnyH_take (i := 25) (oi := ({ dst := some 56, op := Go.Op.load 3 (Go.Operand.tmp 55), type := 3, pos := "law.go:29", after := #[{ on := 24, ground := Go.Ground.data }, { on := 21, ground := Go.Ground.guard }], guard := some (21, false) } : Oper)) (v := ?_) rfl (by kernel_rfl) (by kernel_rfl) (by kernel_rfl) (fun _ _ _ h => h) (Or.inl ⟨by rfl, ?_⟩) (by assumption) ?_; rotate_left; focus (intro w hSw; (try dsimp only at hSw); go_simp; (try with_reducible rfl))
  (try simp only [Act.put, List.setIfInBounds_toArray, List.set_cons_zero, List.set_cons_succ])
  refine wpAnyH_take (i := 26) (oi := ({ dst := some 57, op := Go.Op.fieldAddr 45 (Go.Operand.tmp 3) 0, type := 0, pos := "law.go:29", after := #[{ on := 21, ground := Go.Ground.guard }], guard := some (21, false) } : Oper)) (v := ?_) rfl (by kernel_rfl) (by kernel_rfl) (by kernel_rfl) (fun _ _ _ h => h) (Or.inl ⟨by rfl, ?_⟩) (by assumption) ?_; rotate_left; focus (intro w hSw; (try dsimp only at hSw); go_simp; (try with_reducible rfl))
  (try simp only [Act.put, List.setIfInBounds_toArray, List.set_cons_zero, List.set_cons_succ])
  refine wpAnyH_take (i := 27) (oi := ({ dst := some 58, op := Go.Op.load 43 (Go.Operand.tmp 57), type := 43, pos := "law.go:29", after := #[{ on := 26, ground := Go.Ground.data }, { on := 21, ground := Go.Ground.guard }], guard := some (21, false) } : Oper)) (v := ?_) rfl (by kernel_rfl) (by kernel_rfl) (by kernel_rfl) (fun _ _ _ h => h) (Or.inl ⟨by rfl, ?_⟩) (by assumption) ?_; rotate_left; focus (intro w hSw; (try dsimp only at hSw); go_simp; (try with_reducible rfl))
  (try simp only [Act.put, List.setIfInBounds_toArray, List.set_cons_zero, List.set_cons_succ])
  refine wpAnyH_take (i := 28) (oi := ({ dst := some 59, op := Go.Op.move (Go.Operand.tmp 5), type := 3, pos := "law.go:29", after := #[{ on := 21, ground := Go.Ground.guard }], guard := some (21, false) } : Oper)) (v := ?_) rfl (by kernel_rfl) (by kernel_rfl) (by kernel_rfl) (fun _ _ _ h => h) (Or.inl ⟨by rfl, ?_⟩) (by assumption) ?_; rotate_left; focus (intro w hSw; (try dsimp only at hSw); go_simp; (try with_reducible rfl))
  (try simp only [Act.put, List.setIfInBounds_toArray, List.set_cons_zero, List.set_cons_succ])
  refine wpAnyH_take (i := 29) (oi := ({ dst := some 60, op := Go.Op.indexAddr 43 (Go.Operand.tmp 58) (Go.Operand.tmp 59), type := 0, pos := "law.go:29", after := #[{ on := 27, ground := Go.Ground.data }, { on := 28, ground := Go.Ground.data }, { on := 21, ground := Go.Ground.guard }], guard := some (21, false) } : Oper)) (v := ?_) rfl (by kernel_rfl) (by kernel_rfl) (by kernel_rfl) (fun _ _ _ h => h) (Or.inl ⟨by rfl, ?_⟩) (by assumption) ?_; rotate_left; focus (intro w hSw; (try dsimp only at hSw); go_simp; (try with_reducible rfl))
  (try simp only [Act.put, List.setIfInBounds_toArray, List.set_cons_zero, List.set_cons_succ])
  refine wpAnyH_take (i := 30) (oi := ({ dst := some 61, op := Go.Op.fieldAddr 55 (Go.Operand.tmp 60) 1, type := 0, pos := "law.go:29", after := #[{ on := 29, ground := Go.Ground.data }, { on := 21, ground := Go.Ground.guard }], guard := some (21, false) } : Oper)) (v := ?_) rfl (by kernel_rfl) (by kernel_rfl) (by kernel_rfl) (fun _ _ _ h => h) (Or.inl ⟨by rfl, ?_⟩) (by assumption) ?_; rotate_left; focus (intro w hSw; (try dsimp only at hSw); go_simp; (try with_reducible rfl))
  (try simp only [Act.put, List.setIfInBounds_toArray, List.set_cons_zero, List.set_cons_succ])
  refine wpAnyH_take (i := 31) (oi := ({ dst := some 62, op := Go.Op.load 3 (Go.Operand.tmp 61), type := 3, pos := "law.go:29", after := #[{ on := 30, ground := Go.Ground.data }, { on := 21, ground := Go.Ground.guard }], guard := some (21, false) } : Oper)) (v := ?_) rfl (by kernel_rfl) (by kernel_rfl) (by kernel_rfl) (fun _ _ _ h => h) (Or.inl ⟨by rfl, ?_⟩) (by assumption) ?_; rotate_left; focus (intro w hSw; (try dsimp only at hSw); go_simp; (try with_reducible rfl))
  (try simp only [Act.put, List.setIfInBounds_toArray, List.set_cons_zero, List.set_cons_succ])
  refine wpAnyH_take (i := 32) (oi := ({ dst := some 63, op := Go.Op.binOp Go.BinOp.neq 3 (Go.Operand.tmp 56) (Go.Operand.tmp 62) 3, type := 4, pos := "law.go:29", after := #[{ on := 25, ground := Go.Ground.data }, { on := 31, ground := Go.Ground.data }, { on := 21, ground := Go.Ground.guard }], guard := some (21, false) } : Oper)) (v := ?_) rfl (by kernel_rfl) (by kernel_rfl) (by kernel_rfl) (fun _ _ _ h => h) (Or.inl ⟨by rfl, ?_⟩) (by assumption) ?_; rotate_left; focus (intro w hSw; (try dsimp only at hSw); go_simp; (try with_reducible rfl))
  (try simp only [Act.put, List.setIfInBounds_toArray, List.set_cons_zero, List.set_cons_succ])
  refine wpAnyH_take (i := 33) (oi := ({ dst := some 64, op := Go.Op.pick (Go.Operand.tmp 52) (Go.Operand.const (Go.Value.bool true)) (Go.Operand.tmp 63), type := 4, pos := "law.go:29", after := #[{ on := 21, ground := Go.Ground.data }, { on := 32, ground := Go.Ground.data }], guard := none } : Oper)) (v := ?_) rfl (by kernel_rfl) (by kernel_rfl) (by kernel_rfl) (fun _ _ _ h => h) (Or.inl ⟨by rfl, ?_⟩) (by assumption) ?_; rotate_left; focus (intro w hSw; (try dsimp only at hSw); go_simp; (try with_reducible rfl))
  (try simp only [Act.put, List.setIfInBounds_toArray, List.set_cons_zero, List.set_cons_succ])
  refine wpAnyH_done (by kernel_rfl) ?_ _
  go_wp2
  have lt2 : w1.heap.size < w2.heap.size := World.block_lt_of_cell? w2 _ ht2
  have HB2 := Aside0.mk hbw
  have hb4 := Aside0.mk (below_alloc (below_alloc HB2.out (.cells #[.pointer none] 58)) (.cells #[.int .i64 0] 57))
  have n8 := Aside0.mk (new2 w2 (.cells #[.pointer none] 58) (.int .i64 0) 57)
  have n8f := Aside0.mk (new2f w2 (.cells #[.pointer none] 58) (.int .i64 0) 57)
  have n6 := Aside0.mk (pw_cell_below (below2 w2 (.cells #[.pointer none] 58) (.cells #[.int .i64 0] 57)) r6)
  have LT2 := Aside0.mk (show w.heap.size < w2.heap.size by have := LT.out; omega)
  clear r0 r1 r3 r4 lx ly lp hHeld hHeld2 hx0 hx1 hy0 hy1 hp0 hp1 hq0 hq1 lt2 hbw hb1 hb3 ht2 hg2
  rw [rounds_succ]
  go_wp2_with (first
    | (go_at_call 21; ((with_reducible refine (asM a1 _ _ (ErrTy.below HG.out hb4.out)).mono ?_); rintro e w3 ⟨rfl, hgm⟩; have s8 := Aside0.mk (grown_cell hgm n8.out (by show w2.heap.size + 1 ≠ w2.heap.size; omega)); have f8 := Aside0.mk ((World.frozen?_of_block (a := ⟨w2.heap.size + 1, 0, none⟩) (hgm.block (w2.heap.size + 1) (by simp) (by simp))).trans n8f.out); have s6 := Aside0.mk (grown_cell hgm n6.out (by show w.heap.size ≠ w2.heap.size; have := LT2.out; omega)); have hb5 := Aside0.mk (hb4.out.grown hgm hb4.out.size (fun k hk => by obtain rfl := Option.some.inj hk; show w.heap.size ≤ w2.heap.size; have := LT2.out; omega)); clear hgm))
    | (go_at_call 21; ((with_reducible refine (asE a1 _ (.int .i64 0) _ (ErrTy.below HG.out hb5.out) s8.out f8.out).mono ?_); rintro e w4 ⟨rfl, ht8, hge⟩; have s7 := grown_cell hge s6.out (by show w.heap.size ≠ w2.heap.size + 1; have := LT2.out; omega); have hb6 := Aside0.mk (hb5.out.grown hge hb5.out.size (fun k hk => by obtain rfl := Option.some.inj hk; show w.heap.size ≤ w2.heap.size + 1; have := LT2.out; omega)); clear hge)))
  go_ret
  exact ⟨by simp, hb6.out⟩
end
end Go.Proofs.YtnkckdbjeemjeaaDoor.H
