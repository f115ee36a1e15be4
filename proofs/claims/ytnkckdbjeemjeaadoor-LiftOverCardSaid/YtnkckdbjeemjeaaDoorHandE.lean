/- furrowlaw2.Tells: is an error the one that was told; walked, with what it reads of errors' package-level variable; no conditions. -/
import Derived.Deep.RegionHeld3
import Derived.Lib.AppendIntMem
import Derived.Shelf.Strconv.Itoa4
import Derived.Test.YtnkckdbjeemjeaaDoorHandA
import Derived.Test.YtnkckdbjeemjeaaDoorXx0
namespace Go.Proofs.YtnkckdbjeemjeaaDoor.H
open Go.Proofs.YtnkckdbjeemjeaaDoor.Flt Go.RowKit Go.Proofs.YtnkckdbjeemjeaaDoorW.PrintWords Go.Proofs.YtnkckdbjeemjeaaDoorW.PrintLast Go.Proofs.YtnkckdbjeemjeaaDoorW.PrintMore
open Go.Proofs.YtnkckdbjeemjeaaDoor.X (S55 k55 rd_T55 at_T55)
/-- What is known of the package-level variables: what errors.As reads, and the table that strconv reads. -/
structure Glob (w : World) : Prop where
  err : ErrTy w
  tab : Lib.TabIs Tryd.prog w "internal/strconv.uint64pow10" .u64 Lib.pow10Tab
theorem Glob.below {w W : World} (h : Glob w) (hb : Below w.heap.size w W) : Glob W := ⟨ErrTy.below h.err hb, Lib.tabBelow_of_tabIs h.tab W hb⟩
def furrowlaw2_Tells.f (l0 : List Flt) (l1 : List S55) (a1 : Int) : Option Bool :=
  if l0.any (fun x => x.place == deepC) then none else some (if a1 = 0 then l0.isEmpty else match l0, l1 with
    | x :: _, [p] => x.no == some a1 && x.part.toList == p.f0.toList && x.place == p.f1
    | _, _ => false)
/-- A weaker condition asks less. -/
theorem wpAnyH_mono {P : Program} {md : Region.Mode} {ops : Array Oper} {Q : Exit → Act → World → Prop} {S0 S1 : World → Prop} (hS : ∀ w, S1 w → S0 w) :
    ∀ (fuel : Nat) (listed : Array Bool) (a : Act) (w : World), wpAnyH P md ops Q S1 fuel listed a w → wpAnyH P md ops Q S0 fuel listed a w
  | 0, _, _, _, h => h
  | fuel + 1, _, _, _, h => ⟨h.1, fun i hi => wpOp_mono (fun a' w' h' => ⟨hS _ h'.1, wpAnyH_mono hS fuel _ a' w' h'.2⟩) (h.2 i hi)⟩
theorem at_Flt {w : World} {A : Option Addr} {n : Nat} {x : Flt} {xs : List Flt} (h : Kd.C fltK w A n (x :: xs)) (h1 : 0 < n) (h2 : x.place ≠ deepC) : ∃ ad, A = some ad ∧ w.cell? ad = some (.string x.part) ∧ w.cell? ⟨ad.block, ad.off + 1, none⟩ = some (.int .i64 x.place) ∧ w.cell? ⟨ad.block, ad.off + 2, none⟩ = some (errn x.no) := by
  obtain ⟨ad, c, e, _, hK, hc0⟩ := Kd.C_get h Flt.zero 0 (by omega) (by omega)
  have hc : ∀ j u, c[j]? = some u → w.cell? (ad.add (0 + j)) = some u := fun j u hu => by have := hc0 j u hu; simpa using this
  obtain rfl : c = fltC x := (hK.resolve_right (fun h => h2 h.1)).2
  exact ⟨ad, e, hc 0 _ rfl, by rw [← hc 1 _ rfl, add_field _ 0 1 (by omega)]; rfl, by rw [← hc 2 _ rfl, add_field _ 0 2 (by omega)]; rfl⟩
theorem grown_cell {w w' : World} {t : Nat} {a : Addr} {v : Value} (hg : w.grownBy w' (some t)) (ha : w.cell? a = some v) (hne : a.block ≠ t) : w'.cell? a = some v :=
  (World.cell?_of_block (hg.block a.block (World.block_lt_of_cell? w a ha) (by simpa using hne))).trans ha
theorem grown4 (w : World) (o1 o2 o3 o4 : Obj) (t : Addr) (u : Value) : w.grownBy (((((w.alloc o1).alloc o2).alloc o3).alloc o4).setCell t u) (some t.block) := by
  have hb := ((((Below.refl w.heap.size w).alloc (Nat.le_refl _) o1).alloc (by simp) o2).alloc (by simp; omega) o3).alloc (by simp; omega) o4
  refine ⟨hb.os, hb.tape, hb.output, by simpa [World.setCell] using hb.size, fun k hk hne => ?_⟩
  rw [Below.heap_setCell _ _ _ _ (by simpa using hne)]; exact hb.block k hk
theorem grown3 (w : World) (o1 o2 o3 : Obj) (t : Nat) : w.grownBy (((w.alloc o1).alloc o2).alloc o3) (some t) := by
  have hb := (((Below.refl w.heap.size w).alloc (Nat.le_refl _) o1).alloc (by simp) o2).alloc (by simp; omega) o3
  exact ⟨hb.os, hb.tape, hb.output, hb.size, fun k hk _ => hb.block k hk⟩
theorem set_self (w : World) (o1 o2 o3 o4 : Obj) (t : Addr) (old u : Value) (ht : w.cell? t = some old) : (((((w.alloc o1).alloc o2).alloc o3).alloc o4).setCell t u).cell? t = some u := by
  have hb := ((((Below.refl w.heap.size w).alloc (Nat.le_refl _) o1).alloc (by simp) o2).alloc (by simp; omega) o3).alloc (by simp; omega) o4
  exact World.cell?_setCell_same' _ _ _ (by rw [(hb.cell (World.block_lt_of_cell? w t ht)).trans ht]; rfl)
theorem asF (e t : Addr) (old : Value) (w : World) (hg : ErrTy w) (ht0 : w.cell? t = some old) (hf0 : w.frozen? t = false) :
    Calls Tryd.prog 21 #[.iface 58 (.pointer (some e)), .iface 60 (.pointer (some t))] w fun ev w' => ev = .returned (.bool true) ∧ w'.cell? t = some (.pointer (some e)) ∧ w.grownBy w' (some t.block) := by
  refine (as_fault e t old w hg ht0 hf0).mono ?_
  rintro ev w' ⟨rfl, rfl⟩
  exact ⟨rfl, set_self _ _ _ _ _ _ _ _ ht0, grown4 _ _ _ _ _ _ _⟩
theorem asE (c : Int) (t : Addr) (old : Value) (w : World) (hg : ErrTy w) (ht0 : w.cell? t = some old) (hf0 : w.frozen? t = false) :
    Calls Tryd.prog 21 #[.iface 57 (.int .i64 c), .iface 63 (.pointer (some t))] w fun ev w' => ev = .returned (.bool true) ∧ w'.cell? t = some (.int .i64 c) ∧ w.grownBy w' (some t.block) := by
  refine (as_errno c t old w hg ht0 hf0).mono ?_
  rintro ev w' ⟨rfl, rfl⟩
  exact ⟨rfl, set_self _ _ _ _ _ _ _ _ ht0, grown4 _ _ _ _ _ _ _⟩
theorem asM (c : Int) (t : Addr) (w : World) (hg : ErrTy w) :
    Calls Tryd.prog 21 #[.iface 57 (.int .i64 c), .iface 60 (.pointer (some t))] w fun ev w' => ev = .returned (.bool false) ∧ w.grownBy w' (some t.block) := by
  refine (as_miss c t w hg).mono ?_
  rintro ev w' ⟨rfl, rfl⟩
  exact ⟨rfl, grown3 _ _ _ _ _⟩
theorem below1 (w : World) (o1 : Obj) : Below w.heap.size w (w.alloc o1) := (Below.refl _ _).alloc (Nat.le_refl _) _
theorem below2 (w : World) (o1 o2 : Obj) : Below w.heap.size w ((w.alloc o1).alloc o2) := (below1 w o1).alloc (by simp) _
theorem below3 (w : World) (o1 o2 o3 : Obj) : Below w.heap.size w (((w.alloc o1).alloc o2).alloc o3) := (below2 w o1 o2).alloc (by simp; omega) _
theorem new2 (w : World) (o1 : Obj) (v : Value) (t : TypeId) : ((w.alloc o1).alloc (.cells #[v] t)).cell? ⟨w.heap.size + 1, 0, none⟩ = some v := by
  rw [World.cell?_alloc_at _ _ _ _ (by simp)]; rfl
theorem new2f (w : World) (o1 : Obj) (v : Value) (t : TypeId) : ((w.alloc o1).alloc (.cells #[v] t)).frozen? ⟨w.heap.size + 1, 0, none⟩ = false := by simp
theorem box2 (w : World) (v0 v1 : Value) (t : TypeId) (o2 : Obj) : ((w.alloc (.cells #[v0, v1] t)).alloc o2).cell? ⟨w.heap.size, 0, none⟩ = some v0 := by
  rw [World.cell?_alloc_lt _ _ _ (by simp), World.cell?_alloc_at _ _ _ _ (by simp)]; rfl
theorem box2' (w : World) (v0 v1 : Value) (t : TypeId) (o2 : Obj) : ((w.alloc (.cells #[v0, v1] t)).alloc o2).cell? ⟨w.heap.size, 1, none⟩ = some v1 := by
  rw [World.cell?_alloc_lt _ _ _ (by simp), World.cell?_alloc_at _ _ _ _ (by simp)]; rfl
section
variable (A0 : Option Addr) (c0 : Nat) (A1 : Option Addr) (c1 : Nat) (l1 : List S55) (a1 : Int) (w : World)
theorem tells_ok (l0 : List Flt) (hr0 : Kd.C fltK w A0 l0.length l0) :
    Calls Tryd.prog 14 #[errV (.slice A0 l0.length c0), .agg #[.slice A1 l1.length c1, .int .i64 0]] w fun e w' => e = .returned (.bool l0.isEmpty) ∧ Below w.heap.size w w' := by
  have hu := Tryd.underlying45
  cases l0 with
  | nil =>
    rw [show errV (.slice A0 ([] : List Flt).length c0) = .nilIface by cases A0 <;> rfl]
    go_enter Tryd.func14, Tryd.ntmps14
    go_wp2
    go_ret
    exact ⟨rfl, (Below.refl _ _).alloc (Nat.le_refl _) _⟩
  | cons x xs =>
    obtain ⟨ad, _, rfl, _⟩ := Kd.C_get hr0 Flt.zero 0 (by simp) (by simp)
    rw [show errV (.slice (some ad) (x :: xs).length c0) = .iface 58 (.pointer (some ad)) from rfl]
    go_enter Tryd.func14, Tryd.ntmps14
    go_wp2
    go_ret
    exact ⟨rfl, (Below.refl _ _).alloc (Nat.le_refl _) _⟩
theorem tells_nil (h0 : a1 ≠ 0) :
    Calls Tryd.prog 14 #[.nilIface, .agg #[.slice A1 l1.length c1, .int .i64 a1]] w fun e w' => e = .returned (.bool false) ∧ Below w.heap.size w w' := by
  have hu := Tryd.underlying45
  have c0 : (a1 == 0) = false := by simpa using h0
  go_enter Tryd.func14, Tryd.ntmps14
  go_wp2
  go_ret
  exact ⟨rfl, (Below.refl _ _).alloc (Nat.le_refl _) _⟩
theorem tells_other (ad : Addr) (no : Option Int) (h0 : a1 ≠ 0) (hn : w.cell? ⟨ad.block, ad.off + 2, none⟩ = some (errn no)) (hno : (no == some a1) = false) :
    Calls Tryd.prog 14 #[.iface 58 (.pointer (some ad)), .agg #[.slice A1 l1.length c1, .int .i64 a1]] w fun e w' => e = .returned (.bool false) ∧ Below w.heap.size w w' := by
  have hu := Tryd.underlying45
  have c0 : (a1 == 0) = false := by simpa using h0
  have HN := Aside0.mk hn
  have HL := Aside0.mk (World.block_lt_of_cell? w _ hn)
  clear hn
  go_enter Tryd.func14, Tryd.ntmps14
  go_wp2_with (go_at_call 20; (refine (is_fault ad no a1 _ (by rw [World.cell?_alloc_lt _ _ _ HL.out]; exact HN.out)).mono ?_); rintro e w1 ⟨rfl, rfl⟩; rw [hno])
  go_ret
  exact ⟨rfl, (Below.refl _ _).alloc (Nat.le_refl _) _⟩
set_option maxHeartbeats 4000000 in
set_option maxRecDepth 100000 in
theorem tells_none (ad : Addr) (c : Option Int) (h0 : a1 ≠ 0) (hG : Glob w) (hn : w.cell? ⟨ad.block, ad.off + 2, none⟩ = some (errn c)) (hno : (c == some a1) = true) :
    Calls Tryd.prog 14 #[.iface 58 (.pointer (some ad)), .agg #[.slice A1 0 c1, .int .i64 a1]] w fun e w' => e = .returned (.bool false) ∧ Below w.heap.size w w' := by
  have hu := Tryd.underlying45
  have c0 : (a1 == 0) = false := by simpa using h0
  have HN := Aside0.mk hn
  have HL := Aside0.mk (World.block_lt_of_cell? w _ hn)
  have HG := Aside0.mk (Glob.err hG)
  clear hn hG
  go_enter Tryd.func14, Tryd.ntmps14
  go_wp2_with (go_at_call 20; (refine (is_fault ad c a1 _ (by rw [World.cell?_alloc_lt _ _ _ HL.out]; exact HN.out)).mono ?_); rintro e w1 ⟨rfl, rfl⟩; rw [hno])
  refine wp_loop_rounds 1 ?_
  rw [rounds_succ]
  go_wp2_with (go_at_call 21; (refine (asF ad _ (.pointer none) _ (ErrTy.below HG.out (by first | exact ((Below.refl _ _).alloc (Nat.le_refl _) _) | exact (((Below.refl _ _).alloc (Nat.le_refl _) _).alloc (by simp) _) | exact ((((Below.refl _ _).alloc (Nat.le_refl _) _).alloc (by simp) _).alloc (by simp; omega) _))) (by rw [World.cell?_alloc_lt _ _ _ (by simp), World.cell?_alloc_at _ _ _ _ (by simp)]; rfl) (by rw [World.frozen?_alloc_old _ _ _ (by simp)]; simp)).mono ?_); (rintro e w1 ⟨rfl, ht1, hg1⟩; have HGR := Aside0.mk hg1; clear hg1))
  go_ret
  exact ⟨rfl, (below3 _ _ _ _).grown HGR.out (by simp; omega) (fun k hk => by obtain rfl := Option.some.inj hk; exact Nat.le_add_right _ _)⟩
set_option maxHeartbeats 40000000 in
set_option maxRecDepth 100000 in
theorem tells_main (ad pa : Addr) (x : Flt) (p : S55) (n : Nat) (b1 b2 : Bool) (h0 : a1 ≠ 0) (hG : Glob w) (hx0 : w.cell? ad = some (.string x.part)) (hx1 : w.cell? ⟨ad.block, ad.off + 1, none⟩ = some (.int .i64 x.place))
    (hn : w.cell? ⟨ad.block, ad.off + 2, none⟩ = some (errn x.no)) (hno : (x.no == some a1) = true)
    (hp0 : w.cell? pa = some (.string p.f0)) (hp1 : w.cell? ⟨pa.block, pa.off + 1, none⟩ = some (.int .i64 p.f1))
    (e1 : (x.part.toList == p.f0.toList) = b1) (e2 : (x.place == p.f1) = b2) :
    Calls Tryd.prog 14 #[.iface 58 (.pointer (some ad)), .agg #[.slice (some pa) (n + 1) c1, .int .i64 a1]] w fun e w' => e = .returned (.bool (b1 && b2 && n == 0)) ∧ Below w.heap.size w w' := by
  have hu := Tryd.underlying45
  have c0 : (a1 == 0) = false := by simpa using h0
  have HN := Aside0.mk hn
  have HN2 := Aside0.mk (show w.cell? ⟨ad.block, ad.off + 2, none⟩ = some (.iface 57 (.int .i64 a1)) by rw [hn, (by simpa using hno : x.no = some a1)]; rfl)
  have HL := Aside0.mk (World.block_lt_of_cell? w _ hn)
  have HG := Aside0.mk (Glob.err hG)
  clear hn hG
  have e2b : (x.place != p.f1) = !b2 := by rw [← e2]; rfl
  cases b1 <;> cases b2
  all_goals
    go_enter Tryd.func14, Tryd.ntmps14
    go_wp2_with (go_at_call 20; (refine (is_fault ad x.no a1 _ (by rw [World.cell?_alloc_lt _ _ _ HL.out]; exact HN.out)).mono ?_); rintro e w1 ⟨rfl, rfl⟩; rw [hno])
    refine wp_loop_rounds 2 ?_
    rw [rounds_succ]
    go_wp2
    refine wp_region_held_drew (S := fun _ => True) (by kernel_rfl) trivial (fun hHeld => ?_)
    refine wpAnyH_take (i := 0) (oi := ({ dst := some 31, op := Go.Op.move (Go.Operand.tmp 0), type := 34, pos := "law.go:29", after := #[], guard := none } : Oper)) (v := ?_) rfl (by kernel_rfl) (by kernel_rfl) (by kernel_rfl) (fun _ _ _ h => h) (Or.inl ⟨by rfl, ?_⟩) (by assumption) ?_; rotate_left; focus (intro w hSw; (try dsimp only at hSw); go_simp; (try with_reducible rfl))
    (try simp only [Act.put, List.setIfInBounds_toArray, List.set_cons_zero, List.set_cons_succ])
    refine wpAnyH_take (i := 1) (oi := ({ dst := some 32, op := Go.Op.makeInterface 60 (Go.Operand.tmp 6), type := 20, pos := "law.go:29", after := #[], guard := none } : Oper)) (v := ?_) rfl (by kernel_rfl) (by kernel_rfl) (by kernel_rfl) (fun _ _ _ h => h) (Or.inl ⟨by rfl, ?_⟩) (by assumption) ?_; rotate_left; focus (intro w hSw; (try dsimp only at hSw); go_simp; (try with_reducible rfl))
    (try simp only [Act.put, List.setIfInBounds_toArray, List.set_cons_zero, List.set_cons_succ])
    refine wpAnyH_ready (rs := [2]) (by kernel_rfl) (by simp) ?_
    refine AllReadyH.cons (o := ({ dst := some 33, op := Go.Op.call { callee := Go.Callee.value (Go.Operand.func 21), args := #[Go.Operand.tmp 31, Go.Operand.tmp 32], argTypes := #[34, 20] }, type := 4, pos := "law.go:29", after := #[{ on := 0, ground := Go.Ground.data }, { on := 1, ground := Go.Ground.data }], guard := none } : Oper)) rfl (fun K hK => ?_) AllReadyH.nil
    rw [if_pos (by rfl)]
    go_simp
    have hb2 := (below2 w (.cells #[.slice (some pa) (n + 1) c1, .int .i64 a1] 45) (.cells #[.pointer none] 58)).drew
    refine (asF ad _ (.pointer none) _ (ErrTy.below HG.out hb2) (new2 _ _ _ _) (new2f _ _ _ _)).mono ?_
    rintro e w1 ⟨rfl, ht1, hg1⟩
    refine hK.out _ _ trivial (fun _ => ?_)
    clear hK K
    have lx := World.block_lt_of_cell? w _ hx0
    have lp := World.block_lt_of_cell? w _ hp0
    have r0 := grown_cell hg1 (pw_cell_below hb2 hx0) (by show _ ≠ w.heap.size + 1; omega)
    have r1 := grown_cell hg1 (pw_cell_below hb2 hx1) (by show ad.block ≠ w.heap.size + 1; omega)
    have r2 := grown_cell hg1 (pw_cell_below hb2 HN2.out) (by show ad.block ≠ w.heap.size + 1; omega)
    have r3 := grown_cell hg1 (pw_cell_below hb2 hp0) (by show _ ≠ w.heap.size + 1; omega)
    have r4 := grown_cell hg1 (pw_cell_below hb2 hp1) (by show pa.block ≠ w.heap.size + 1; omega)
    have r5 := grown_cell hg1 (box2 w (.slice (some pa) (n + 1) c1) (.int .i64 a1) 45 (.cells #[.pointer none] 58)) (by show w.heap.size ≠ w.heap.size + 1; omega)
    have r6 := grown_cell hg1 (box2' w (.slice (some pa) (n + 1) c1) (.int .i64 a1) 45 (.cells #[.pointer none] 58)) (by show w.heap.size ≠ w.heap.size + 1; omega)
    have hbw : Below w.heap.size w w1 := hb2.grown hg1 hb2.size (fun k hk => by obtain rfl := Option.some.inj hk; exact Nat.le_add_right _ _)
    refine wpAnyH_mono (S1 := fun w_ => w_.cell? ⟨w.heap.size + 1, 0, none⟩ = some (.pointer (some ad)) ∧ w_.cell? ad = some (.string x.part) ∧ w_.cell? ⟨ad.block, ad.off + 1, none⟩ = some (.int .i64 x.place) ∧ w_.cell? ⟨w.heap.size, 0, none⟩ = some (.slice (some pa) (n + 1) c1) ∧ w_.cell? pa = some (.string p.f0) ∧ w_.cell? ⟨pa.block, pa.off + 1, none⟩ = some (.int .i64 p.f1)) (fun _ _ => trivial) _ _ _ _ ?_
    have hHeld2 := And.intro ht1 (And.intro r0 (And.intro r1 (And.intro r5 (And.intro r3 r4))))
    refine wpAnyH_take (i := 3) (oi := ({ dst := some 34, op := Go.Op.unOp Go.UnOp.not 4 (Go.Operand.tmp 33), type := 4, pos := "law.go:29", after := #[{ on := 2, ground := Go.Ground.data }], guard := none } : Oper)) (v := ?_) rfl (by kernel_rfl) (by kernel_rfl) (by kernel_rfl) (fun _ _ _ h => h) (Or.inl ⟨by rfl, ?_⟩) (by assumption) ?_; rotate_left; focus (intro w hSw; (try dsimp only at hSw); go_simp; (try with_reducible rfl))
    (try simp only [Act.put, List.setIfInBounds_toArray, List.set_cons_zero, List.set_cons_succ])
    refine wpAnyH_take (i := 4) (oi := ({ dst := some 35, op := Go.Op.move (Go.Operand.tmp 34), type := 4, pos := "law.go:29", after := #[{ on := 3, ground := Go.Ground.data }, { on := 2, ground := Go.Ground.chain }], guard := none } : Oper)) (v := ?_) rfl (by kernel_rfl) (by kernel_rfl) (by kernel_rfl) (fun _ _ _ h => h) (Or.inl ⟨by rfl, ?_⟩) (by assumption) ?_; rotate_left; focus (intro w hSw; (try dsimp only at hSw); go_simp; (try with_reducible rfl))
    (try simp only [Act.put, List.setIfInBounds_toArray, List.set_cons_zero, List.set_cons_succ])
    refine wpAnyH_take (i := 5) (oi := ({ dst := some 36, op := Go.Op.load 58 (Go.Operand.tmp 6), type := 58, pos := "law.go:29", after := #[{ on := 4, ground := Go.Ground.guard }], guard := some (4, false) } : Oper)) (v := ?_) rfl (by kernel_rfl) (by kernel_rfl) (by kernel_rfl) (fun _ _ _ h => h) (Or.inl ⟨by rfl, ?_⟩) (by assumption) ?_; rotate_left; focus (intro w hSw; (try dsimp only at hSw); go_simp; (try with_reducible rfl))
    (try simp only [Act.put, List.setIfInBounds_toArray, List.set_cons_zero, List.set_cons_succ])
    refine wpAnyH_take (i := 6) (oi := ({ dst := some 37, op := Go.Op.binOp Go.BinOp.eql 58 (Go.Operand.tmp 36) (Go.Operand.const (Go.Value.pointer none)) 58, type := 4, pos := "law.go:29", after := #[{ on := 5, ground := Go.Ground.data }, { on := 4, ground := Go.Ground.guard }], guard := some (4, false) } : Oper)) (v := ?_) rfl (by kernel_rfl) (by kernel_rfl) (by kernel_rfl) (fun _ _ _ h => h) (Or.inl ⟨by rfl, ?_⟩) (by assumption) ?_; rotate_left; focus (intro w hSw; (try dsimp only at hSw); go_simp; (try with_reducible rfl))
    (try simp only [Act.put, List.setIfInBounds_toArray, List.set_cons_zero, List.set_cons_succ])
    refine wpAnyH_take (i := 7) (oi := ({ dst := some 38, op := Go.Op.pick (Go.Operand.tmp 35) (Go.Operand.const (Go.Value.bool true)) (Go.Operand.tmp 37), type := 4, pos := "law.go:29", after := #[{ on := 4, ground := Go.Ground.data }, { on := 6, ground := Go.Ground.data }], guard := none } : Oper)) (v := ?_) rfl (by kernel_rfl) (by kernel_rfl) (by kernel_rfl) (fun _ _ _ h => h) (Or.inl ⟨by rfl, ?_⟩) (by assumption) ?_; rotate_left; focus (intro w hSw; (try dsimp only at hSw); go_simp; (try with_reducible rfl))
    (try simp only [Act.put, List.setIfInBounds_toArray, List.set_cons_zero, List.set_cons_succ])
    refine wpAnyH_take (i := 8) (oi := ({ dst := some 39, op := Go.Op.move (Go.Operand.tmp 38), type := 4, pos := "law.go:29", after := #[{ on := 7, ground := Go.Ground.data }, { on := 4, ground := Go.Ground.chain }], guard := none } : Oper)) (v := ?_) rfl (by kernel_rfl) (by kernel_rfl) (by kernel_rfl) (fun _ _ _ h => h) (Or.inl ⟨by rfl, ?_⟩) (by assumption) ?_; rotate_left; focus (intro w hSw; (try dsimp only at hSw); go_simp; (try with_reducible rfl))
    (try simp only [Act.put, List.setIfInBounds_toArray, List.set_cons_zero, List.set_cons_succ])
    refine wpAnyH_take (i := 9) (oi := ({ dst := some 40, op := Go.Op.load 58 (Go.Operand.tmp 6), type := 58, pos := "law.go:29", after := #[{ on := 8, ground := Go.Ground.guard }], guard := some (8, false) } : Oper)) (v := ?_) rfl (by kernel_rfl) (by kernel_rfl) (by kernel_rfl) (fun _ _ _ h => h) (Or.inl ⟨by rfl, ?_⟩) (by assumption) ?_; rotate_left; focus (intro w hSw; (try dsimp only at hSw); go_simp; (try with_reducible rfl))
    (try simp only [Act.put, List.setIfInBounds_toArray, List.set_cons_zero, List.set_cons_succ])
    refine wpAnyH_take (i := 10) (oi := ({ dst := some 41, op := Go.Op.nilCheck (Go.Operand.tmp 40), type := 0, pos := "law.go:29", after := #[{ on := 9, ground := Go.Ground.data }, { on := 8, ground := Go.Ground.guard }], guard := some (8, false) } : Oper)) (v := ?_) rfl (by kernel_rfl) (by kernel_rfl) (by kernel_rfl) (fun _ _ _ h => h) (Or.inl ⟨by rfl, ?_⟩) (by assumption) ?_; rotate_left; focus (intro w hSw; (try dsimp only at hSw); go_simp; (try with_reducible rfl))
    (try simp only [Act.put, List.setIfInBounds_toArray, List.set_cons_zero, List.set_cons_succ])
    refine wpAnyH_take (i := 11) (oi := ({ dst := some 42, op := Go.Op.fieldAddr 62 (Go.Operand.tmp 41) 0, type := 0, pos := "law.go:29", after := #[{ on := 10, ground := Go.Ground.data }, { on := 8, ground := Go.Ground.guard }], guard := some (8, false) } : Oper)) (v := ?_) rfl (by kernel_rfl) (by kernel_rfl) (by kernel_rfl) (fun _ _ _ h => h) (Or.inl ⟨by rfl, ?_⟩) (by assumption) ?_; rotate_left; focus (intro w hSw; (try dsimp only at hSw); go_simp; (try with_reducible rfl))
    (try simp only [Act.put, List.setIfInBounds_toArray, List.set_cons_zero, List.set_cons_succ])
    refine wpAnyH_take (i := 12) (oi := ({ dst := some 43, op := Go.Op.load 9 (Go.Operand.tmp 42), type := 9, pos := "law.go:29", after := #[{ on := 11, ground := Go.Ground.data }, { on := 8, ground := Go.Ground.guard }], guard := some (8, false) } : Oper)) (v := ?_) rfl (by kernel_rfl) (by kernel_rfl) (by kernel_rfl) (fun _ _ _ h => h) (Or.inl ⟨by rfl, ?_⟩) (by assumption) ?_; rotate_left; focus (intro w hSw; (try dsimp only at hSw); go_simp; (try with_reducible rfl))
    (try simp only [Act.put, List.setIfInBounds_toArray, List.set_cons_zero, List.set_cons_succ])
    refine wpAnyH_take (i := 13) (oi := ({ dst := some 44, op := Go.Op.fieldAddr 45 (Go.Operand.tmp 3) 0, type := 0, pos := "law.go:29", after := #[{ on := 8, ground := Go.Ground.guard }], guard := some (8, false) } : Oper)) (v := ?_) rfl (by kernel_rfl) (by kernel_rfl) (by kernel_rfl) (fun _ _ _ h => h) (Or.inl ⟨by rfl, ?_⟩) (by assumption) ?_; rotate_left; focus (intro w hSw; (try dsimp only at hSw); go_simp; (try with_reducible rfl))
    (try simp only [Act.put, List.setIfInBounds_toArray, List.set_cons_zero, List.set_cons_succ])
    refine wpAnyH_take (i := 14) (oi := ({ dst := some 45, op := Go.Op.load 43 (Go.Operand.tmp 44), type := 43, pos := "law.go:29", after := #[{ on := 13, ground := Go.Ground.data }, { on := 8, ground := Go.Ground.guard }], guard := some (8, false) } : Oper)) (v := ?_) rfl (by kernel_rfl) (by kernel_rfl) (by kernel_rfl) (fun _ _ _ h => h) (Or.inl ⟨by rfl, ?_⟩) (by assumption) ?_; rotate_left; focus (intro w hSw; (try dsimp only at hSw); go_simp; (try with_reducible rfl))
    (try simp only [Act.put, List.setIfInBounds_toArray, List.set_cons_zero, List.set_cons_succ])
    refine wpAnyH_take (i := 15) (oi := ({ dst := some 46, op := Go.Op.move (Go.Operand.tmp 5), type := 3, pos := "law.go:29", after := #[{ on := 8, ground := Go.Ground.guard }], guard := some (8, false) } : Oper)) (v := ?_) rfl (by kernel_rfl) (by kernel_rfl) (by kernel_rfl) (fun _ _ _ h => h) (Or.inl ⟨by rfl, ?_⟩) (by assumption) ?_; rotate_left; focus (intro w hSw; (try dsimp only at hSw); go_simp; (try with_reducible rfl))
    (try simp only [Act.put, List.setIfInBounds_toArray, List.set_cons_zero, List.set_cons_succ])
    refine wpAnyH_take (i := 16) (oi := ({ dst := some 47, op := Go.Op.indexAddr 43 (Go.Operand.tmp 45) (Go.Operand.tmp 46), type := 0, pos := "law.go:29", after := #[{ on := 14, ground := Go.Ground.data }, { on := 15, ground := Go.Ground.data }, { on := 8, ground := Go.Ground.guard }], guard := some (8, false) } : Oper)) (v := ?_) rfl (by kernel_rfl) (by kernel_rfl) (by kernel_rfl) (fun _ _ _ h => h) (Or.inl ⟨by rfl, ?_⟩) (by assumption) ?_; rotate_left; focus (intro w hSw; (try dsimp only at hSw); go_simp; (try with_reducible rfl))
    (try simp only [Act.put, List.setIfInBounds_toArray, List.set_cons_zero, List.set_cons_succ])
    refine wpAnyH_take (i := 17) (oi := ({ dst := some 48, op := Go.Op.fieldAddr 55 (Go.Operand.tmp 47) 0, type := 0, pos := "law.go:29", after := #[{ on := 16, ground := Go.Ground.data }, { on := 8, ground := Go.Ground.guard }], guard := some (8, false) } : Oper)) (v := ?_) rfl (by kernel_rfl) (by kernel_rfl) (by kernel_rfl) (fun _ _ _ h => h) (Or.inl ⟨by rfl, ?_⟩) (by assumption) ?_; rotate_left; focus (intro w hSw; (try dsimp only at hSw); go_simp; (try with_reducible rfl))
    (try simp only [Act.put, List.setIfInBounds_toArray, List.set_cons_zero, List.set_cons_succ])
    refine wpAnyH_take (i := 18) (oi := ({ dst := some 49, op := Go.Op.load 9 (Go.Operand.tmp 48), type := 9, pos := "law.go:29", after := #[{ on := 17, ground := Go.Ground.data }, { on := 8, ground := Go.Ground.guard }], guard := some (8, false) } : Oper)) (v := ?_) rfl (by kernel_rfl) (by kernel_rfl) (by kernel_rfl) (fun _ _ _ h => h) (Or.inl ⟨by rfl, ?_⟩) (by assumption) ?_; rotate_left; focus (intro w hSw; (try dsimp only at hSw); go_simp; (try with_reducible rfl))
    (try simp only [Act.put, List.setIfInBounds_toArray, List.set_cons_zero, List.set_cons_succ])
    refine wpAnyH_take (i := 19) (oi := ({ dst := some 50, op := Go.Op.binOp Go.BinOp.neq 9 (Go.Operand.tmp 43) (Go.Operand.tmp 49) 9, type := 4, pos := "law.go:29", after := #[{ on := 12, ground := Go.Ground.data }, { on := 18, ground := Go.Ground.data }, { on := 8, ground := Go.Ground.guard }], guard := some (8, false) } : Oper)) (v := ?_) rfl (by kernel_rfl) (by kernel_rfl) (by kernel_rfl) (fun _ _ _ h => h) (Or.inl ⟨by rfl, ?_⟩) (by assumption) ?_; rotate_left; focus (intro w hSw; (try dsimp only at hSw); go_simp; (try with_reducible rfl))
    (try simp only [Act.put, List.setIfInBounds_toArray, List.set_cons_zero, List.set_cons_succ])
    refine wpAnyH_take (i := 20) (oi := ({ dst := some 51, op := Go.Op.pick (Go.Operand.tmp 39) (Go.Operand.const (Go.Value.bool true)) (Go.Operand.tmp 50), type := 4, pos := "law.go:29", after := #[{ on := 8, ground := Go.Ground.data }, { on := 19, ground := Go.Ground.data }], guard := none } : Oper)) (v := ?_) rfl (by kernel_rfl) (by kernel_rfl) (by kernel_rfl) (fun _ _ _ h => h) (Or.inl ⟨by rfl, ?_⟩) (by assumption) ?_; rotate_left; focus (intro w hSw; (try dsimp only at hSw); go_simp; (try with_reducible rfl))
    (try simp only [Act.put, List.setIfInBounds_toArray, List.set_cons_zero, List.set_cons_succ])
    refine wpAnyH_take (i := 21) (oi := ({ dst := some 52, op := Go.Op.move (Go.Operand.tmp 51), type := 4, pos := "law.go:29", after := #[{ on := 20, ground := Go.Ground.data }, { on := 8, ground := Go.Ground.chain }], guard := none } : Oper)) (v := ?_) rfl (by kernel_rfl) (by kernel_rfl) (by kernel_rfl) (fun _ _ _ h => h) (Or.inl ⟨by rfl, ?_⟩) (by assumption) ?_; rotate_left; focus (intro w hSw; (try dsimp only at hSw); go_simp; (try with_reducible rfl))
    (try simp only [Act.put, List.setIfInBounds_toArray, List.set_cons_zero, List.set_cons_succ])
    first
      | (refine wpAnyH_take (i := 22) (oi := ({ dst := some 53, op := Go.Op.load 58 (Go.Operand.tmp 6), type := 58, pos := "law.go:29", after := #[{ on := 21, ground := Go.Ground.guard }], guard := some (21, false) } : Oper)) (v := ?_) rfl (by kernel_rfl) (by kernel_rfl) (by kernel_rfl) (fun _ _ _ h => h) (Or.inl ⟨by rfl, ?_⟩) (by assumption) ?_; rotate_left; focus (intro w hSw; (try dsimp only at hSw); go_simp; (try with_reducible rfl)))
      | (refine wpAnyH_take (i := 22) (oi := ({ dst := some 53, op := Go.Op.load 58 (Go.Operand.tmp 6), type := 58, pos := "law.go:29", after := #[{ on := 21, ground := Go.Ground.guard }], guard := some (21, false) } : Oper)) (v := undef) rfl (by kernel_rfl) (by kernel_rfl) (by kernel_rfl) (fun _ _ _ h => h) (Or.inr ⟨by rfl, rfl⟩) (by assumption) ?_)
    (try simp only [Act.put, List.setIfInBounds_toArray, List.set_cons_zero, List.set_cons_succ])
    first
      | (refine wpAnyH_take (i := 23) (oi := ({ dst := some 54, op := Go.Op.nilCheck (Go.Operand.tmp 53), type := 0, pos := "law.go:29", after := #[{ on := 22, ground := Go.Ground.data }, { on := 21, ground := Go.Ground.guard }], guard := some (21, false) } : Oper)) (v := ?_) rfl (by kernel_rfl) (by kernel_rfl) (by kernel_rfl) (fun _ _ _ h => h) (Or.inl ⟨by rfl, ?_⟩) (by assumption) ?_; rotate_left; focus (intro w hSw; (try dsimp only at hSw); go_simp; (try with_reducible rfl)))
      | (refine wpAnyH_take (i := 23) (oi := ({ dst := some 54, op := Go.Op.nilCheck (Go.Operand.tmp 53), type := 0, pos := "law.go:29", after := #[{ on := 22, ground := Go.Ground.data }, { on := 21, ground := Go.Ground.guard }], guard := some (21, false) } : Oper)) (v := undef) rfl (by kernel_rfl) (by kernel_rfl) (by kernel_rfl) (fun _ _ _ h => h) (Or.inr ⟨by rfl, rfl⟩) (by assumption) ?_)
    (try simp only [Act.put, List.setIfInBounds_toArray, List.set_cons_zero, List.set_cons_succ])
    first
      | (refine wpAnyH_take (i := 24) (oi := ({ dst := some 55, op := Go.Op.fieldAddr 62 (Go.Operand.tmp 54) 1, type := 0, pos := "law.go:29", after := #[{ on := 23, ground := Go.Ground.data }, { on := 21, ground := Go.Ground.guard }], guard := some (21, false) } : Oper)) (v := ?_) rfl (by kernel_rfl) (by kernel_rfl) (by kernel_rfl) (fun _ _ _ h => h) (Or.inl ⟨by rfl, ?_⟩) (by assumption) ?_; rotate_left; focus (intro w hSw; (try dsimp only at hSw); go_simp; (try with_reducible rfl)))
      | (refine wpAnyH_take (i := 24) (oi := ({ dst := some 55, op := Go.Op.fieldAddr 62 (Go.Operand.tmp 54) 1, type := 0, pos := "law.go:29", after := #[{ on := 23, ground := Go.Ground.data }, { on := 21, ground := Go.Ground.guard }], guard := some (21, false) } : Oper)) (v := undef) rfl (by kernel_rfl) (by kernel_rfl) (by kernel_rfl) (fun _ _ _ h => h) (Or.inr ⟨by rfl, rfl⟩) (by assumption) ?_)
    (try simp only [Act.put, List.setIfInBounds_toArray, List.set_cons_zero, List.set_cons_succ])
    first
      | (refine wpAnyH_take (i := 25) (oi := ({ dst := some 56, op := Go.Op.load 3 (Go.Operand.tmp 55), type := 3, pos := "law.go:29", after := #[{ on := 24, ground := Go.Ground.data }, { on := 21, ground := Go.Ground.guard }], guard := some (21, false) } : Oper)) (v := ?_) rfl (by kernel_rfl) (by kernel_rfl) (by kernel_rfl) (fun _ _ _ h => h) (Or.inl ⟨by rfl, ?_⟩) (by assumption) ?_; rotate_left; focus (intro w hSw; (try dsimp only at hSw); go_simp; (try with_reducible rfl)))
      | (refine wpAnyH_take (i := 25) (oi := ({ dst := some 56, op := Go.Op.load 3 (Go.Operand.tmp 55), type := 3, pos := "law.go:29", after := #[{ on := 24, ground := Go.Ground.data }, { on := 21, ground := Go.Ground.guard }], guard := some (21, false) } : Oper)) (v := undef) rfl (by kernel_rfl) (by kernel_rfl) (by kernel_rfl) (fun _ _ _ h => h) (Or.inr ⟨by rfl, rfl⟩) (by assumption) ?_)
    (try simp only [Act.put, List.setIfInBounds_toArray, List.set_cons_zero, List.set_cons_succ])
    first
      | (refine wpAnyH_take (i := 26) (oi := ({ dst := some 57, op := Go.Op.fieldAddr 45 (Go.Operand.tmp 3) 0, type := 0, pos := "law.go:29", after := #[{ on := 21, ground := Go.Ground.guard }], guard := some (21, false) } : Oper)) (v := ?_) rfl (by kernel_rfl) (by kernel_rfl) (by kernel_rfl) (fun _ _ _ h => h) (Or.inl ⟨by rfl, ?_⟩) (by assumption) ?_; rotate_left; focus (intro w hSw; (try dsimp only at hSw); go_simp; (try with_reducible rfl)))
      | (refine wpAnyH_take (i := 26) (oi := ({ dst := some 57, op := Go.Op.fieldAddr 45 (Go.Operand.tmp 3) 0, type := 0, pos := "law.go:29", after := #[{ on := 21, ground := Go.Ground.guard }], guard := some (21, false) } : Oper)) (v := undef) rfl (by kernel_rfl) (by kernel_rfl) (by kernel_rfl) (fun _ _ _ h => h) (Or.inr ⟨by rfl, rfl⟩) (by assumption) ?_)
    (try simp only [Act.put, List.setIfInBounds_toArray, List.set_cons_zero, List.set_cons_succ])
    first
      | (refine wpAnyH_take (i := 27) (oi := ({ dst := some 58, op := Go.Op.load 43 (Go.Operand.tmp 57), type := 43, pos := "law.go:29", after := #[{ on := 26, ground := Go.Ground.data }, { on := 21, ground := Go.Ground.guard }], guard := some (21, false) } : Oper)) (v := ?_) rfl (by kernel_rfl) (by kernel_rfl) (by kernel_rfl) (fun _ _ _ h => h) (Or.inl ⟨by rfl, ?_⟩) (by assumption) ?_; rotate_left; focus (intro w hSw; (try dsimp only at hSw); go_simp; (try with_reducible rfl)))
      | (refine wpAnyH_take (i := 27) (oi := ({ dst := some 58, op := Go.Op.load 43 (Go.Operand.tmp 57), type := 43, pos := "law.go:29", after := #[{ on := 26, ground := Go.Ground.data }, { on := 21, ground := Go.Ground.guard }], guard := some (21, false) } : Oper)) (v := undef) rfl (by kernel_rfl) (by kernel_rfl) (by kernel_rfl) (fun _ _ _ h => h) (Or.inr ⟨by rfl, rfl⟩) (by assumption) ?_)
    (try simp only [Act.put, List.setIfInBounds_toArray, List.set_cons_zero, List.set_cons_succ])
    first
      | (refine wpAnyH_take (i := 28) (oi := ({ dst := some 59, op := Go.Op.move (Go.Operand.tmp 5), type := 3, pos := "law.go:29", after := #[{ on := 21, ground := Go.Ground.guard }], guard := some (21, false) } : Oper)) (v := ?_) rfl (by kernel_rfl) (by kernel_rfl) (by kernel_rfl) (fun _ _ _ h => h) (Or.inl ⟨by rfl, ?_⟩) (by assumption) ?_; rotate_left; focus (intro w hSw; (try dsimp only at hSw); go_simp; (try with_reducible rfl)))
      | (refine wpAnyH_take (i := 28) (oi := ({ dst := some 59, op := Go.Op.move (Go.Operand.tmp 5), type := 3, pos := "law.go:29", after := #[{ on := 21, ground := Go.Ground.guard }], guard := some (21, false) } : Oper)) (v := undef) rfl (by kernel_rfl) (by kernel_rfl) (by kernel_rfl) (fun _ _ _ h => h) (Or.inr ⟨by rfl, rfl⟩) (by assumption) ?_)
    (try simp only [Act.put, List.setIfInBounds_toArray, List.set_cons_zero, List.set_cons_succ])
    first
      | (refine wpAnyH_take (i := 29) (oi := ({ dst := some 60, op := Go.Op.indexAddr 43 (Go.Operand.tmp 58) (Go.Operand.tmp 59), type := 0, pos := "law.go:29", after := #[{ on := 27, ground := Go.Ground.data }, { on := 28, ground := Go.Ground.data }, { on := 21, ground := Go.Ground.guard }], guard := some (21, false) } : Oper)) (v := ?_) rfl (by kernel_rfl) (by kernel_rfl) (by kernel_rfl) (fun _ _ _ h => h) (Or.inl ⟨by rfl, ?_⟩) (by assumption) ?_; rotate_left; focus (intro w hSw; (try dsimp only at hSw); go_simp; (try with_reducible rfl)))
      | (refine wpAnyH_take (i := 29) (oi := ({ dst := some 60, op := Go.Op.indexAddr 43 (Go.Operand.tmp 58) (Go.Operand.tmp 59), type := 0, pos := "law.go:29", after := #[{ on := 27, ground := Go.Ground.data }, { on := 28, ground := Go.Ground.data }, { on := 21, ground := Go.Ground.guard }], guard := some (21, false) } : Oper)) (v := undef) rfl (by kernel_rfl) (by kernel_rfl) (by kernel_rfl) (fun _ _ _ h => h) (Or.inr ⟨by rfl, rfl⟩) (by assumption) ?_)
    (try simp only [Act.put, List.setIfInBounds_toArray, List.set_cons_zero, List.set_cons_succ])
    first
      | (refine wpAnyH_take (i := 30) (oi := ({ dst := some 61, op := Go.Op.fieldAddr 55 (Go.Operand.tmp 60) 1, type := 0, pos := "law.go:29", after := #[{ on := 29, ground := Go.Ground.data }, { on := 21, ground := Go.Ground.guard }], guard := some (21, false) } : Oper)) (v := ?_) rfl (by kernel_rfl) (by kernel_rfl) (by kernel_rfl) (fun _ _ _ h => h) (Or.inl ⟨by rfl, ?_⟩) (by assumption) ?_; rotate_left; focus (intro w hSw; (try dsimp only at hSw); go_simp; (try with_reducible rfl)))
      | (refine wpAnyH_take (i := 30) (oi := ({ dst := some 61, op := Go.Op.fieldAddr 55 (Go.Operand.tmp 60) 1, type := 0, pos := "law.go:29", after := #[{ on := 29, ground := Go.Ground.data }, { on := 21, ground := Go.Ground.guard }], guard := some (21, false) } : Oper)) (v := undef) rfl (by kernel_rfl) (by kernel_rfl) (by kernel_rfl) (fun _ _ _ h => h) (Or.inr ⟨by rfl, rfl⟩) (by assumption) ?_)
    (try simp only [Act.put, List.setIfInBounds_toArray, List.set_cons_zero, List.set_cons_succ])
    first
      | (refine wpAnyH_take (i := 31) (oi := ({ dst := some 62, op := Go.Op.load 3 (Go.Operand.tmp 61), type := 3, pos := "law.go:29", after := #[{ on := 30, ground := Go.Ground.data }, { on := 21, ground := Go.Ground.guard }], guard := some (21, false) } : Oper)) (v := ?_) rfl (by kernel_rfl) (by kernel_rfl) (by kernel_rfl) (fun _ _ _ h => h) (Or.inl ⟨by rfl, ?_⟩) (by assumption) ?_; rotate_left; focus (intro w hSw; (try dsimp only at hSw); go_simp; (try with_reducible rfl)))
      | (refine wpAnyH_take (i := 31) (oi := ({ dst := some 62, op := Go.Op.load 3 (Go.Operand.tmp 61), type := 3, pos := "law.go:29", after := #[{ on := 30, ground := Go.Ground.data }, { on := 21, ground := Go.Ground.guard }], guard := some (21, false) } : Oper)) (v := undef) rfl (by kernel_rfl) (by kernel_rfl) (by kernel_rfl) (fun _ _ _ h => h) (Or.inr ⟨by rfl, rfl⟩) (by assumption) ?_)
    (try simp only [Act.put, List.setIfInBounds_toArray, List.set_cons_zero, List.set_cons_succ])
    first
      | (refine wpAnyH_take (i := 32) (oi := ({ dst := some 63, op := Go.Op.binOp Go.BinOp.neq 3 (Go.Operand.tmp 56) (Go.Operand.tmp 62) 3, type := 4, pos := "law.go:29", after := #[{ on := 25, ground := Go.Ground.data }, { on := 31, ground := Go.Ground.data }, { on := 21, ground := Go.Ground.guard }], guard := some (21, false) } : Oper)) (v := ?_) rfl (by kernel_rfl) (by kernel_rfl) (by kernel_rfl) (fun _ _ _ h => h) (Or.inl ⟨by rfl, ?_⟩) (by assumption) ?_; rotate_left; focus (intro w hSw; (try dsimp only at hSw); go_simp; (try with_reducible rfl)))
      | (refine wpAnyH_take (i := 32) (oi := ({ dst := some 63, op := Go.Op.binOp Go.BinOp.neq 3 (Go.Operand.tmp 56) (Go.Operand.tmp 62) 3, type := 4, pos := "law.go:29", after := #[{ on := 25, ground := Go.Ground.data }, { on := 31, ground := Go.Ground.data }, { on := 21, ground := Go.Ground.guard }], guard := some (21, false) } : Oper)) (v := undef) rfl (by kernel_rfl) (by kernel_rfl) (by kernel_rfl) (fun _ _ _ h => h) (Or.inr ⟨by rfl, rfl⟩) (by assumption) ?_)
    (try simp only [Act.put, List.setIfInBounds_toArray, List.set_cons_zero, List.set_cons_succ])
    refine wpAnyH_take (i := 33) (oi := ({ dst := some 64, op := Go.Op.pick (Go.Operand.tmp 52) (Go.Operand.const (Go.Value.bool true)) (Go.Operand.tmp 63), type := 4, pos := "law.go:29", after := #[{ on := 21, ground := Go.Ground.data }, { on := 32, ground := Go.Ground.data }], guard := none } : Oper)) (v := ?_) rfl (by kernel_rfl) (by kernel_rfl) (by kernel_rfl) (fun _ _ _ h => h) (Or.inl ⟨by rfl, ?_⟩) (by assumption) ?_; rotate_left; focus (intro w hSw; (try dsimp only at hSw); go_simp; (try with_reducible rfl))
    (try simp only [Act.put, List.setIfInBounds_toArray, List.set_cons_zero, List.set_cons_succ])
    refine wpAnyH_done (by kernel_rfl) ?_ _
    go_wp2
  · go_ret; exact ⟨rfl, hbw⟩
  · go_ret; exact ⟨rfl, hbw⟩
  · go_ret; exact ⟨rfl, hbw⟩
  have lt1 : w.heap.size + 1 < w1.heap.size := World.block_lt_of_cell? w1 _ ht1
  have HBW := Aside0.mk hbw
  clear hbw hb2
  rcases n with _ | n
  · have hb3 := Aside0.mk (below_alloc (below_alloc HBW.out (.cells #[.pointer none] 58)) (.cells #[.int .i64 0] 57))
    have n8 := Aside0.mk (new2 w1 (.cells #[.pointer none] 58) (.int .i64 0) 57)
    have n8f := Aside0.mk (new2f w1 (.cells #[.pointer none] 58) (.int .i64 0) 57)
    have n6 := Aside0.mk (pw_cell_below (below2 w1 (.cells #[.pointer none] 58) (.cells #[.int .i64 0] 57)) r6)
    have LT := Aside0.mk lt1
    clear r0 r1 r3 r4 lx lp hHeld hHeld2 hx0 hx1 hp0 hp1 lt1
    rw [rounds_succ]
    go_wp2_with (first
      | (go_at_call 21; ((with_reducible refine (asM a1 _ _ (ErrTy.below HG.out hb3.out)).mono ?_); rintro e w2 ⟨rfl, hgm⟩; have s8 := Aside0.mk (grown_cell hgm n8.out (by show w1.heap.size + 1 ≠ w1.heap.size; omega)); have f8 := Aside0.mk ((World.frozen?_of_block (a := ⟨w1.heap.size + 1, 0, none⟩) (hgm.block (w1.heap.size + 1) (by simp) (by simp))).trans n8f.out); have s6 := Aside0.mk (grown_cell hgm n6.out (by show w.heap.size ≠ w1.heap.size; have := LT.out; omega)); have hb4 := Aside0.mk (hb3.out.grown hgm hb3.out.size (fun k hk => by obtain rfl := Option.some.inj hk; show w.heap.size ≤ w1.heap.size; have := LT.out; omega)); clear hgm))
      | (go_at_call 21; ((with_reducible refine (asE a1 _ (.int .i64 0) _ (ErrTy.below HG.out hb4.out) s8.out f8.out).mono ?_); rintro e w4 ⟨rfl, ht8, hge⟩; have s7 := grown_cell hge s6.out (by show w.heap.size ≠ w1.heap.size + 1; have := LT.out; omega); have hb5 := Aside0.mk (hb4.out.grown hge hb4.out.size (fun k hk => by obtain rfl := Option.some.inj hk; show w.heap.size ≤ w1.heap.size + 1; have := LT.out; omega)); clear hge)))
    go_ret
    exact ⟨by simp, hb5.out⟩
  · have hb3 := Aside0.mk ((below_alloc HBW.out (.cells #[.pointer none] 58)).drew)
    have LT := Aside0.mk lt1
    clear r0 r1 r3 r4 r6 lx lp hHeld hHeld2 hx0 hx1 hp0 hp1 lt1
    rw [rounds_succ]
    go_wp2
    refine wp_region_held_drew (S := fun _ => True) (by kernel_rfl) trivial (fun hHeld => ?_)
    refine wpAnyH_take (i := 0) (oi := ({ dst := some 31, op := Go.Op.move (Go.Operand.tmp 0), type := 34, pos := "law.go:29", after := #[], guard := none } : Oper)) (v := ?_) rfl (by kernel_rfl) (by kernel_rfl) (by kernel_rfl) (fun _ _ _ h => h) (Or.inl ⟨by rfl, ?_⟩) (by assumption) ?_; rotate_left; focus (intro w hSw; (try dsimp only at hSw); go_simp; (try with_reducible rfl))
    (try simp only [Act.put, List.setIfInBounds_toArray, List.set_cons_zero, List.set_cons_succ])
    refine wpAnyH_take (i := 1) (oi := ({ dst := some 32, op := Go.Op.makeInterface 60 (Go.Operand.tmp 6), type := 20, pos := "law.go:29", after := #[], guard := none } : Oper)) (v := ?_) rfl (by kernel_rfl) (by kernel_rfl) (by kernel_rfl) (fun _ _ _ h => h) (Or.inl ⟨by rfl, ?_⟩) (by assumption) ?_; rotate_left; focus (intro w hSw; (try dsimp only at hSw); go_simp; (try with_reducible rfl))
    (try simp only [Act.put, List.setIfInBounds_toArray, List.set_cons_zero, List.set_cons_succ])
    refine wpAnyH_ready (rs := [2]) (by kernel_rfl) (by simp) ?_
    refine AllReadyH.cons (o := ({ dst := some 33, op := Go.Op.call { callee := Go.Callee.value (Go.Operand.func 21), args := #[Go.Operand.tmp 31, Go.Operand.tmp 32], argTypes := #[34, 20] }, type := 4, pos := "law.go:29", after := #[{ on := 0, ground := Go.Ground.data }, { on := 1, ground := Go.Ground.data }], guard := none } : Oper)) rfl (fun K hK => ?_) AllReadyH.nil
    rw [if_pos (by rfl)]
    go_simp
    refine (asM a1 _ _ (ErrTy.below HG.out hb3.out)).mono ?_
    rintro e w2 ⟨rfl, hgm⟩
    have hb4 := Aside0.mk (hb3.out.grown hgm hb3.out.size (fun k hk => by obtain rfl := Option.some.inj hk; show w.heap.size ≤ w1.heap.size; have := LT.out; omega))
    clear hgm
    refine hK.out _ _ trivial (fun hHeld2 => ?_)
    clear hK K
    refine wpAnyH_take (i := 3) (oi := ({ dst := some 34, op := Go.Op.unOp Go.UnOp.not 4 (Go.Operand.tmp 33), type := 4, pos := "law.go:29", after := #[{ on := 2, ground := Go.Ground.data }], guard := none } : Oper)) (v := ?_) rfl (by kernel_rfl) (by kernel_rfl) (by kernel_rfl) (fun _ _ _ h => h) (Or.inl ⟨by rfl, ?_⟩) (by assumption) ?_; rotate_left; focus (intro w hSw; (try dsimp only at hSw); go_simp; (try with_reducible rfl))
    (try simp only [Act.put, List.setIfInBounds_toArray, List.set_cons_zero, List.set_cons_succ])
    refine wpAnyH_take (i := 4) (oi := ({ dst := some 35, op := Go.Op.move (Go.Operand.tmp 34), type := 4, pos := "law.go:29", after := #[{ on := 3, ground := Go.Ground.data }, { on := 2, ground := Go.Ground.chain }], guard := none } : Oper)) (v := ?_) rfl (by kernel_rfl) (by kernel_rfl) (by kernel_rfl) (fun _ _ _ h => h) (Or.inl ⟨by rfl, ?_⟩) (by assumption) ?_; rotate_left; focus (intro w hSw; (try dsimp only at hSw); go_simp; (try with_reducible rfl))
    (try simp only [Act.put, List.setIfInBounds_toArray, List.set_cons_zero, List.set_cons_succ])
    refine wpAnyH_take (i := 5) (oi := ({ dst := some 36, op := Go.Op.load 58 (Go.Operand.tmp 6), type := 58, pos := "law.go:29", after := #[{ on := 4, ground := Go.Ground.guard }], guard := some (4, false) } : Oper)) (v := undef) rfl (by kernel_rfl) (by kernel_rfl) (by kernel_rfl) (fun _ _ _ h => h) (Or.inr ⟨by rfl, rfl⟩) (by assumption) ?_
    (try simp only [Act.put, List.setIfInBounds_toArray, List.set_cons_zero, List.set_cons_succ])
    refine wpAnyH_take (i := 6) (oi := ({ dst := some 37, op := Go.Op.binOp Go.BinOp.eql 58 (Go.Operand.tmp 36) (Go.Operand.const (Go.Value.pointer none)) 58, type := 4, pos := "law.go:29", after := #[{ on := 5, ground := Go.Ground.data }, { on := 4, ground := Go.Ground.guard }], guard := some (4, false) } : Oper)) (v := undef) rfl (by kernel_rfl) (by kernel_rfl) (by kernel_rfl) (fun _ _ _ h => h) (Or.inr ⟨by rfl, rfl⟩) (by assumption) ?_
    (try simp only [Act.put, List.setIfInBounds_toArray, List.set_cons_zero, List.set_cons_succ])
    refine wpAnyH_take (i := 7) (oi := ({ dst := some 38, op := Go.Op.pick (Go.Operand.tmp 35) (Go.Operand.const (Go.Value.bool true)) (Go.Operand.tmp 37), type := 4, pos := "law.go:29", after := #[{ on := 4, ground := Go.Ground.data }, { on := 6, ground := Go.Ground.data }], guard := none } : Oper)) (v := ?_) rfl (by kernel_rfl) (by kernel_rfl) (by kernel_rfl) (fun _ _ _ h => h) (Or.inl ⟨by rfl, ?_⟩) (by assumption) ?_; rotate_left; focus (intro w hSw; (try dsimp only at hSw); go_simp; (try with_reducible rfl))
    (try simp only [Act.put, List.setIfInBounds_toArray, List.set_cons_zero, List.set_cons_succ])
    refine wpAnyH_take (i := 8) (oi := ({ dst := some 39, op := Go.Op.move (Go.Operand.tmp 38), type := 4, pos := "law.go:29", after := #[{ on := 7, ground := Go.Ground.data }, { on := 4, ground := Go.Ground.chain }], guard := none } : Oper)) (v := ?_) rfl (by kernel_rfl) (by kernel_rfl) (by kernel_rfl) (fun _ _ _ h => h) (Or.inl ⟨by rfl, ?_⟩) (by assumption) ?_; rotate_left; focus (intro w hSw; (try dsimp only at hSw); go_simp; (try with_reducible rfl))
    (try simp only [Act.put, List.setIfInBounds_toArray, List.set_cons_zero, List.set_cons_succ])
    refine wpAnyH_take (i := 9) (oi := ({ dst := some 40, op := Go.Op.load 58 (Go.Operand.tmp 6), type := 58, pos := "law.go:29", after := #[{ on := 8, ground := Go.Ground.guard }], guard := some (8, false) } : Oper)) (v := undef) rfl (by kernel_rfl) (by kernel_rfl) (by kernel_rfl) (fun _ _ _ h => h) (Or.inr ⟨by rfl, rfl⟩) (by assumption) ?_
    (try simp only [Act.put, List.setIfInBounds_toArray, List.set_cons_zero, List.set_cons_succ])
    refine wpAnyH_take (i := 10) (oi := ({ dst := some 41, op := Go.Op.nilCheck (Go.Operand.tmp 40), type := 0, pos := "law.go:29", after := #[{ on := 9, ground := Go.Ground.data }, { on := 8, ground := Go.Ground.guard }], guard := some (8, false) } : Oper)) (v := undef) rfl (by kernel_rfl) (by kernel_rfl) (by kernel_rfl) (fun _ _ _ h => h) (Or.inr ⟨by rfl, rfl⟩) (by assumption) ?_
    (try simp only [Act.put, List.setIfInBounds_toArray, List.set_cons_zero, List.set_cons_succ])
    refine wpAnyH_take (i := 11) (oi := ({ dst := some 42, op := Go.Op.fieldAddr 62 (Go.Operand.tmp 41) 0, type := 0, pos := "law.go:29", after := #[{ on := 10, ground := Go.Ground.data }, { on := 8, ground := Go.Ground.guard }], guard := some (8, false) } : Oper)) (v := undef) rfl (by kernel_rfl) (by kernel_rfl) (by kernel_rfl) (fun _ _ _ h => h) (Or.inr ⟨by rfl, rfl⟩) (by assumption) ?_
    (try simp only [Act.put, List.setIfInBounds_toArray, List.set_cons_zero, List.set_cons_succ])
    refine wpAnyH_take (i := 12) (oi := ({ dst := some 43, op := Go.Op.load 9 (Go.Operand.tmp 42), type := 9, pos := "law.go:29", after := #[{ on := 11, ground := Go.Ground.data }, { on := 8, ground := Go.Ground.guard }], guard := some (8, false) } : Oper)) (v := undef) rfl (by kernel_rfl) (by kernel_rfl) (by kernel_rfl) (fun _ _ _ h => h) (Or.inr ⟨by rfl, rfl⟩) (by assumption) ?_
    (try simp only [Act.put, List.setIfInBounds_toArray, List.set_cons_zero, List.set_cons_succ])
    refine wpAnyH_take (i := 13) (oi := ({ dst := some 44, op := Go.Op.fieldAddr 45 (Go.Operand.tmp 3) 0, type := 0, pos := "law.go:29", after := #[{ on := 8, ground := Go.Ground.guard }], guard := some (8, false) } : Oper)) (v := undef) rfl (by kernel_rfl) (by kernel_rfl) (by kernel_rfl) (fun _ _ _ h => h) (Or.inr ⟨by rfl, rfl⟩) (by assumption) ?_
    (try simp only [Act.put, List.setIfInBounds_toArray, List.set_cons_zero, List.set_cons_succ])
    refine wpAnyH_take (i := 14) (oi := ({ dst := some 45, op := Go.Op.load 43 (Go.Operand.tmp 44), type := 43, pos := "law.go:29", after := #[{ on := 13, ground := Go.Ground.data }, { on := 8, ground := Go.Ground.guard }], guard := some (8, false) } : Oper)) (v := undef) rfl (by kernel_rfl) (by kernel_rfl) (by kernel_rfl) (fun _ _ _ h => h) (Or.inr ⟨by rfl, rfl⟩) (by assumption) ?_
    (try simp only [Act.put, List.setIfInBounds_toArray, List.set_cons_zero, List.set_cons_succ])
    refine wpAnyH_take (i := 15) (oi := ({ dst := some 46, op := Go.Op.move (Go.Operand.tmp 5), type := 3, pos := "law.go:29", after := #[{ on := 8, ground := Go.Ground.guard }], guard := some (8, false) } : Oper)) (v := undef) rfl (by kernel_rfl) (by kernel_rfl) (by kernel_rfl) (fun _ _ _ h => h) (Or.inr ⟨by rfl, rfl⟩) (by assumption) ?_
    (try simp only [Act.put, List.setIfInBounds_toArray, List.set_cons_zero, List.set_cons_succ])
    refine wpAnyH_take (i := 16) (oi := ({ dst := some 47, op := Go.Op.indexAddr 43 (Go.Operand.tmp 45) (Go.Operand.tmp 46), type := 0, pos := "law.go:29", after := #[{ on := 14, ground := Go.Ground.data }, { on := 15, ground := Go.Ground.data }, { on := 8, ground := Go.Ground.guard }], guard := some (8, false) } : Oper)) (v := undef) rfl (by kernel_rfl) (by kernel_rfl) (by kernel_rfl) (fun _ _ _ h => h) (Or.inr ⟨by rfl, rfl⟩) (by assumption) ?_
    (try simp only [Act.put, List.setIfInBounds_toArray, List.set_cons_zero, List.set_cons_succ])
    refine wpAnyH_take (i := 17) (oi := ({ dst := some 48, op := Go.Op.fieldAddr 55 (Go.Operand.tmp 47) 0, type := 0, pos := "law.go:29", after := #[{ on := 16, ground := Go.Ground.data }, { on := 8, ground := Go.Ground.guard }], guard := some (8, false) } : Oper)) (v := undef) rfl (by kernel_rfl) (by kernel_rfl) (by kernel_rfl) (fun _ _ _ h => h) (Or.inr ⟨by rfl, rfl⟩) (by assumption) ?_
    (try simp only [Act.put, List.setIfInBounds_toArray, List.set_cons_zero, List.set_cons_succ])
    refine wpAnyH_take (i := 18) (oi := ({ dst := some 49, op := Go.Op.load 9 (Go.Operand.tmp 48), type := 9, pos := "law.go:29", after := #[{ on := 17, ground := Go.Ground.data }, { on := 8, ground := Go.Ground.guard }], guard := some (8, false) } : Oper)) (v := undef) rfl (by kernel_rfl) (by kernel_rfl) (by kernel_rfl) (fun _ _ _ h => h) (Or.inr ⟨by rfl, rfl⟩) (by assumption) ?_
    (try simp only [Act.put, List.setIfInBounds_toArray, List.set_cons_zero, List.set_cons_succ])
    refine wpAnyH_take (i := 19) (oi := ({ dst := some 50, op := Go.Op.binOp Go.BinOp.neq 9 (Go.Operand.tmp 43) (Go.Operand.tmp 49) 9, type := 4, pos := "law.go:29", after := #[{ on := 12, ground := Go.Ground.data }, { on := 18, ground := Go.Ground.data }, { on := 8, ground := Go.Ground.guard }], guard := some (8, false) } : Oper)) (v := undef) rfl (by kernel_rfl) (by kernel_rfl) (by kernel_rfl) (fun _ _ _ h => h) (Or.inr ⟨by rfl, rfl⟩) (by assumption) ?_
    (try simp only [Act.put, List.setIfInBounds_toArray, List.set_cons_zero, List.set_cons_succ])
    refine wpAnyH_take (i := 20) (oi := ({ dst := some 51, op := Go.Op.pick (Go.Operand.tmp 39) (Go.Operand.const (Go.Value.bool true)) (Go.Operand.tmp 50), type := 4, pos := "law.go:29", after := #[{ on := 8, ground := Go.Ground.data }, { on := 19, ground := Go.Ground.data }], guard := none } : Oper)) (v := ?_) rfl (by kernel_rfl) (by kernel_rfl) (by kernel_rfl) (fun _ _ _ h => h) (Or.inl ⟨by rfl, ?_⟩) (by assumption) ?_; rotate_left; focus (intro w hSw; (try dsimp only at hSw); go_simp; (try with_reducible rfl))
    (try simp only [Act.put, List.setIfInBounds_toArray, List.set_cons_zero, List.set_cons_succ])
    refine wpAnyH_take (i := 21) (oi := ({ dst := some 52, op := Go.Op.move (Go.Operand.tmp 51), type := 4, pos := "law.go:29", after := #[{ on := 20, ground := Go.Ground.data }, { on := 8, ground := Go.Ground.chain }], guard := none } : Oper)) (v := ?_) rfl (by kernel_rfl) (by kernel_rfl) (by kernel_rfl) (fun _ _ _ h => h) (Or.inl ⟨by rfl, ?_⟩) (by assumption) ?_; rotate_left; focus (intro w hSw; (try dsimp only at hSw); go_simp; (try with_reducible rfl))
    (try simp only [Act.put, List.setIfInBounds_toArray, List.set_cons_zero, List.set_cons_succ])
    refine wpAnyH_take (i := 22) (oi := ({ dst := some 53, op := Go.Op.load 58 (Go.Operand.tmp 6), type := 58, pos := "law.go:29", after := #[{ on := 21, ground := Go.Ground.guard }], guard := some (21, false) } : Oper)) (v := undef) rfl (by kernel_rfl) (by kernel_rfl) (by kernel_rfl) (fun _ _ _ h => h) (Or.inr ⟨by rfl, rfl⟩) (by assumption) ?_
    (try simp only [Act.put, List.setIfInBounds_toArray, List.set_cons_zero, List.set_cons_succ])
    refine wpAnyH_take (i := 23) (oi := ({ dst := some 54, op := Go.Op.nilCheck (Go.Operand.tmp 53), type := 0, pos := "law.go:29", after := #[{ on := 22, ground := Go.Ground.data }, { on := 21, ground := Go.Ground.guard }], guard := some (21, false) } : Oper)) (v := undef) rfl (by kernel_rfl) (by kernel_rfl) (by kernel_rfl) (fun _ _ _ h => h) (Or.inr ⟨by rfl, rfl⟩) (by assumption) ?_
    (try simp only [Act.put, List.setIfInBounds_toArray, List.set_cons_zero, List.set_cons_succ])
    refine wpAnyH_take (i := 24) (oi := ({ dst := some 55, op := Go.Op.fieldAddr 62 (Go.Operand.tmp 54) 1, type := 0, pos := "law.go:29", after := #[{ on := 23, ground := Go.Ground.data }, { on := 21, ground := Go.Ground.guard }], guard := some (21, false) } : Oper)) (v := undef) rfl (by kernel_rfl) (by kernel_rfl) (by kernel_rfl) (fun _ _ _ h => h) (Or.inr ⟨by rfl, rfl⟩) (by assumption) ?_
    (try simp only [Act.put, List.setIfInBounds_toArray, List.set_cons_zero, List.set_cons_succ])
    refine wpAnyH_take (i := 25) (oi := ({ dst := some 56, op := Go.Op.load 3 (Go.Operand.tmp 55), type := 3, pos := "law.go:29", after := #[{ on := 24, ground := Go.Ground.data }, { on := 21, ground := Go.Ground.guard }], guard := some (21, false) } : Oper)) (v := undef) rfl (by kernel_rfl) (by kernel_rfl) (by kernel_rfl) (fun _ _ _ h => h) (Or.inr ⟨by rfl, rfl⟩) (by assumption) ?_
    (try simp only [Act.put, List.setIfInBounds_toArray, List.set_cons_zero, List.set_cons_succ])
    refine wpAnyH_take (i := 26) (oi := ({ dst := some 57, op := Go.Op.fieldAddr 45 (Go.Operand.tmp 3) 0, type := 0, pos := "law.go:29", after := #[{ on := 21, ground := Go.Ground.guard }], guard := some (21, false) } : Oper)) (v := undef) rfl (by kernel_rfl) (by kernel_rfl) (by kernel_rfl) (fun _ _ _ h => h) (Or.inr ⟨by rfl, rfl⟩) (by assumption) ?_
    (try simp only [Act.put, List.setIfInBounds_toArray, List.set_cons_zero, List.set_cons_succ])
    refine wpAnyH_take (i := 27) (oi := ({ dst := some 58, op := Go.Op.load 43 (Go.Operand.tmp 57), type := 43, pos := "law.go:29", after := #[{ on := 26, ground := Go.Ground.data }, { on := 21, ground := Go.Ground.guard }], guard := some (21, false) } : Oper)) (v := undef) rfl (by kernel_rfl) (by kernel_rfl) (by kernel_rfl) (fun _ _ _ h => h) (Or.inr ⟨by rfl, rfl⟩) (by assumption) ?_
    (try simp only [Act.put, List.setIfInBounds_toArray, List.set_cons_zero, List.set_cons_succ])
    refine wpAnyH_take (i := 28) (oi := ({ dst := some 59, op := Go.Op.move (Go.Operand.tmp 5), type := 3, pos := "law.go:29", after := #[{ on := 21, ground := Go.Ground.guard }], guard := some (21, false) } : Oper)) (v := undef) rfl (by kernel_rfl) (by kernel_rfl) (by kernel_rfl) (fun _ _ _ h => h) (Or.inr ⟨by rfl, rfl⟩) (by assumption) ?_
    (try simp only [Act.put, List.setIfInBounds_toArray, List.set_cons_zero, List.set_cons_succ])
    refine wpAnyH_take (i := 29) (oi := ({ dst := some 60, op := Go.Op.indexAddr 43 (Go.Operand.tmp 58) (Go.Operand.tmp 59), type := 0, pos := "law.go:29", after := #[{ on := 27, ground := Go.Ground.data }, { on := 28, ground := Go.Ground.data }, { on := 21, ground := Go.Ground.guard }], guard := some (21, false) } : Oper)) (v := undef) rfl (by kernel_rfl) (by kernel_rfl) (by kernel_rfl) (fun _ _ _ h => h) (Or.inr ⟨by rfl, rfl⟩) (by assumption) ?_
    (try simp only [Act.put, List.setIfInBounds_toArray, List.set_cons_zero, List.set_cons_succ])
    refine wpAnyH_take (i := 30) (oi := ({ dst := some 61, op := Go.Op.fieldAddr 55 (Go.Operand.tmp 60) 1, type := 0, pos := "law.go:29", after := #[{ on := 29, ground := Go.Ground.data }, { on := 21, ground := Go.Ground.guard }], guard := some (21, false) } : Oper)) (v := undef) rfl (by kernel_rfl) (by kernel_rfl) (by kernel_rfl) (fun _ _ _ h => h) (Or.inr ⟨by rfl, rfl⟩) (by assumption) ?_
    (try simp only [Act.put, List.setIfInBounds_toArray, List.set_cons_zero, List.set_cons_succ])
    refine wpAnyH_take (i := 31) (oi := ({ dst := some 62, op := Go.Op.load 3 (Go.Operand.tmp 61), type := 3, pos := "law.go:29", after := #[{ on := 30, ground := Go.Ground.data }, { on := 21, ground := Go.Ground.guard }], guard := some (21, false) } : Oper)) (v := undef) rfl (by kernel_rfl) (by kernel_rfl) (by kernel_rfl) (fun _ _ _ h => h) (Or.inr ⟨by rfl, rfl⟩) (by assumption) ?_
    (try simp only [Act.put, List.setIfInBounds_toArray, List.set_cons_zero, List.set_cons_succ])
    refine wpAnyH_take (i := 32) (oi := ({ dst := some 63, op := Go.Op.binOp Go.BinOp.neq 3 (Go.Operand.tmp 56) (Go.Operand.tmp 62) 3, type := 4, pos := "law.go:29", after := #[{ on := 25, ground := Go.Ground.data }, { on := 31, ground := Go.Ground.data }, { on := 21, ground := Go.Ground.guard }], guard := some (21, false) } : Oper)) (v := undef) rfl (by kernel_rfl) (by kernel_rfl) (by kernel_rfl) (fun _ _ _ h => h) (Or.inr ⟨by rfl, rfl⟩) (by assumption) ?_
    (try simp only [Act.put, List.setIfInBounds_toArray, List.set_cons_zero, List.set_cons_succ])
    refine wpAnyH_take (i := 33) (oi := ({ dst := some 64, op := Go.Op.pick (Go.Operand.tmp 52) (Go.Operand.const (Go.Value.bool true)) (Go.Operand.tmp 63), type := 4, pos := "law.go:29", after := #[{ on := 21, ground := Go.Ground.data }, { on := 32, ground := Go.Ground.data }], guard := none } : Oper)) (v := ?_) rfl (by kernel_rfl) (by kernel_rfl) (by kernel_rfl) (fun _ _ _ h => h) (Or.inl ⟨by rfl, ?_⟩) (by assumption) ?_; rotate_left; focus (intro w hSw; (try dsimp only at hSw); go_simp; (try with_reducible rfl))
    (try simp only [Act.put, List.setIfInBounds_toArray, List.set_cons_zero, List.set_cons_succ])
    refine wpAnyH_done (by kernel_rfl) ?_ _
    go_wp2
    go_ret
    exact ⟨by simp, hb4.out⟩
end
theorem furrowlaw2_Tells.calls (A0 : Option Addr) (c0 : Nat) (l0 : List Flt) (A1_0 : Option Addr) (c1_0 : Nat) (l1_0 : List S55) (a1_1 : Int) (r : Bool) (w : World) (hr0 : Kd.C fltK w A0 l0.length l0) (hc0 : l0.length ≤ c0) (hr1_0 : Kd.C k55 w A1_0 l1_0.length l1_0) (hc1_0 : l1_0.length ≤ c1_0) (hG : Glob w) (h : furrowlaw2_Tells.f l0 l1_0 a1_1 = some r) :
    Calls Tryd.prog 14 #[errV (.slice A0 l0.length c0), .agg #[.slice A1_0 l1_0.length c1_0, .int .i64 a1_1]] w fun e w' => e = .returned (.bool r) ∧ Below w.heap.size w w' := by
  have hd0 : ∀ x ∈ l0, x.place ≠ deepC := by
    intro x hx hc
    unfold furrowlaw2_Tells.f at h
    rw [if_pos (List.any_eq_true.mpr ⟨x, hx, by simpa using hc⟩)] at h
    cases h
  unfold furrowlaw2_Tells.f at h
  rw [if_neg (fun hc => by obtain ⟨x, hx, hc⟩ := List.any_eq_true.mp hc; exact hd0 x hx (by simpa using hc))] at h
  obtain rfl := Option.some.inj h
  by_cases h0 : a1_1 = 0
  · subst h0; rw [if_pos rfl]; exact tells_ok A0 c0 A1_0 c1_0 l1_0 w l0 hr0
  · rw [if_neg h0]
    cases l0 with
    | nil =>
      rw [show errV (.slice A0 ([] : List Flt).length c0) = .nilIface by cases A0 <;> rfl]
      exact tells_nil A1_0 c1_0 l1_0 a1_1 w h0
    | cons x xs =>
      obtain ⟨ad, rfl, hx0, hx1, hx2⟩ := at_Flt hr0 (by simp) (hd0 x (by simp))
      rw [show errV (.slice (some ad) (x :: xs).length c0) = .iface 58 (.pointer (some ad)) from rfl]
      by_cases hno : (x.no == some a1_1) = true
      · cases l1_0 with
        | nil => exact tells_none A1_0 c1_0 a1_1 w ad x.no h0 hG hx2 hno
        | cons p rest =>
          obtain ⟨pa, rfl, hp0, hp1⟩ := at_T55 hr1_0 0 (by omega) (by simp)
          have hp0 : w.cell? pa = some (.string p.f0) := hp0
          have hp1 : w.cell? ⟨pa.block, pa.off + 1, none⟩ = some (.int .i64 p.f1) := hp1
          have hm := tells_main c1_0 a1_1 w ad pa x p rest.length _ _ h0 hG hx0 hx1 hx2 hno hp0 hp1 rfl rfl
          cases rest with
          | nil => simp only [hno, Bool.true_and]; simpa using hm
          | cons q rest => simpa using hm
      · have hno : (x.no == some a1_1) = false := by simpa using hno
        have hm := tells_other A1_0 c1_0 l1_0 a1_1 w ad x.no h0 hx2 hno
        rcases l1_0 with _ | ⟨p, _ | ⟨q, rest⟩⟩
        · exact hm
        · simp only [hno, Bool.false_and]; exact hm
        · exact hm
end Go.Proofs.YtnkckdbjeemjeaaDoor.H
