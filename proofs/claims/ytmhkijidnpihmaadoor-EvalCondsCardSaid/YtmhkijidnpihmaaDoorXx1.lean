-- PRINTED by print.py (a twelfth state) out of the translation. Not trusted: Lean checks it.
import Derived.Test.YtmhkijidnpihmaaDoorXx0
namespace Go.Proofs.YtmhkijidnpihmaaDoor.X
open Go.Proofs.YtmhkijidnpihmaaDoor.Flt Go.Proofs.YtmhkijidnpihmaaDoor.H Go.RowKit Go.Proofs.YtmhkijidnpihmaaDoorW.PrintWords Go.Proofs.YtmhkijidnpihmaaDoorW.PrintLast Go.Proofs.YtmhkijidnpihmaaDoorW.PrintMore
attribute [local go_sem] max2_int min2_int max_two min_two max_three min_three max_four min_four   -- for this text's walks alone
set_option linter.unusedVariables false
set_option linter.unusedSimpArgs false

/-! ### furrowlaw9_add: function 22 -/
def furrowlaw9_add.f (l0_0 : List (S71)) (a0_1 : Int) (a1 : ByteArray) (l2 : List Int) (a3 : Int) : Option ((List (S71)) × Int) := (some (([] : List (S71)) : List (S71))).bind fun y103 => (if y103.length + l0_0.length < 2513169434916 then ((some (y103 ++ l0_0 : List (S71))).bind fun y106 => ((some (([(⟨a1, l2, a0_1, a3⟩ : S71)] : List (S71)) : List (S71))).bind fun y109 => (if y106.length + y109.length < 2513169434916 then (some ((y106 ++ y109), wrap64 (a0_1 + a3))) else (none)))) else (none))
def furrowlaw9_add.T1 : Bool × List (List Nat × List Nat) := (true, [([], []), ([], []), ([1], [1]), ([0, 2], [0, 2]), ([], []), ([], []), ([], []), ([6], [6]), ([], []), ([4, 5, 7, 8], [4, 5, 7, 8]), ([9], [9]), ([3, 10, 3], [3, 10]), ([0, 1, 2, 3, 4, 5, 6, 7, 8, 9, 10, 11], []), ([12, 11, 11, 0, 1, 2, 3, 4, 5, 6, 7, 8, 9, 10, 11], [11, 12])])
def furrowlaw9_add.B1 : List Nat := [0, 0, 2, 7, 0, 0, 0, 64, 0, 496, 1008, 2047, 4095, 8191]
theorem furrowlaw9_add.tab1 : rtab .any (opsOf Tryd.f22 1) = furrowlaw9_add.T1 := by kernel_rfl
theorem furrowlaw9_add.bits1 : waitsOk furrowlaw9_add.T1.2 furrowlaw9_add.B1 = true := by kernel_rfl
set_option maxHeartbeats 8000000 in
set_option maxRecDepth 100000 in
theorem furrowlaw9_add.calls (P0_0_ : Nat → Prop) (A0_0 : Option Addr) (c0_0 : Nat) (l0_0 : List (S71)) (a0_1 : Int) (a1 : ByteArray) (P2_ : Nat → Prop) (A2 : Option Addr) (c2 : Nat) (l2 : List Int) (a3 : Int) (r1 : List (S71)) (r2 : Int) (w : World) (hs0_0 : Kd.V k71 71 w w.heap.size (fun k_ => P0_0_ k_) (.slice A0_0 l0_0.length c0_0) l0_0) (hs2 : Kd.V (Kd.int .i64) 2 w w.heap.size (fun k_ => P2_ k_) (.slice A2 l2.length c2) l2) (h : furrowlaw9_add.f l0_0 a0_1 a1 l2 a3 = some (r1, r2)) :
  Calls Tryd.prog 22 #[.agg #[.slice A0_0 l0_0.length c0_0, .int .i64 a0_1], .string a1, .slice A2 l2.length c2, .int .i64 a3] w fun e w' => ∃ v0_ : Value, e = .returned (.agg #[v0_, .int .i64 r2]) ∧ Kd.N k71 71 w' w.heap.size (fun k_ => ((P0_0_ k_ ∨ P2_ k_) ∨ w.heap.size ≤ k_)) v0_ r1 ∧ Below w.heap.size w w' := by
 have hu29 := Tryd.underlying29
 have hu71 := Tryd.underlying71
 have HO0_0 := mk0 (show Kd.V k71 71 w w.heap.size (fun k_ => ((P0_0_ k_ ∨ P2_ k_) ∨ w.heap.size ≤ k_)) (.slice A0_0 l0_0.length c0_0) l0_0 from Kd.V_mono hs0_0 (fun k_ hk => .inl (.inl hk)))
 have HO2 := mk0 (show Kd.V (Kd.int .i64) 2 w w.heap.size (fun k_ => ((P0_0_ k_ ∨ P2_ k_) ∨ w.heap.size ≤ k_)) (.slice A2 l2.length c2) l2 from Kd.V_mono hs2 (fun k_ hk => .inl (.inr hk)))
 have HB := mk0 (Below.refl w.heap.size w)
 have H : ((some (([] : List (S71)) : List (S71))).bind fun y103 => (if y103.length + l0_0.length < 2513169434916 then ((some (y103 ++ l0_0 : List (S71))).bind fun y106 => ((some (([(⟨a1, l2, a0_1, a3⟩ : S71)] : List (S71)) : List (S71))).bind fun y109 => (if y106.length + y109.length < 2513169434916 then (some ((y106 ++ y109), wrap64 (a0_1 + a3))) else (none)))) else (none))) = some (r1, r2) := h
 clear h
 obtain ⟨y103, hy103⟩ : ∃ y_ : List (S71), y_ = (([] : List (S71))) := ⟨_, rfl⟩
 replace H : (if y103.length + l0_0.length < 2513169434916 then ((some (y103 ++ l0_0 : List (S71))).bind fun y106 => ((some (([(⟨a1, l2, a0_1, a3⟩ : S71)] : List (S71)) : List (S71))).bind fun y109 => (if y106.length + y109.length < 2513169434916 then (some ((y106 ++ y109), wrap64 (a0_1 + a3))) else (none)))) else (none)) = some (r1, r2) := by first | (rw [hy103]; with_reducible exact H) | (have H2_ := (Option.bind_some _ _).symm.trans H; rw [hy103]; with_reducible exact H2_) | (have H2_ := (Option.bind_some _ _).symm.trans H; with_reducible exact H2_) | with_reducible exact H | (rw [hy103]; exact H) | exact H
 have Ny103 := mk0 hy103
 clear hy103
 by_cases c5 : y103.length + l0_0.length < 2513169434916
 ·rw [if_pos c5] at H
  have LMc5 := mk0 c5
  clear c5
  obtain ⟨y106, hy106⟩ : ∃ y_ : List (S71), y_ = (y103 ++ l0_0) := ⟨_, rfl⟩
  replace H : ((some (([(⟨a1, l2, a0_1, a3⟩ : S71)] : List (S71)) : List (S71))).bind fun y109 => (if y106.length + y109.length < 2513169434916 then (some ((y106 ++ y109), wrap64 (a0_1 + a3))) else (none))) = some (r1, r2) := by first | (rw [hy106]; with_reducible exact H) | (have H2_ := (Option.bind_some _ _).symm.trans H; rw [hy106]; with_reducible exact H2_) | (have H2_ := (Option.bind_some _ _).symm.trans H; with_reducible exact H2_) | with_reducible exact H | (rw [hy106]; exact H) | exact H
  have Ny106 := mk0 hy106
  clear hy106
  obtain ⟨y109, hy109⟩ : ∃ y_ : List (S71), y_ = (([(⟨a1, l2, a0_1, a3⟩ : S71)] : List (S71))) := ⟨_, rfl⟩
  replace H : (if y106.length + y109.length < 2513169434916 then (some ((y106 ++ y109), wrap64 (a0_1 + a3))) else (none)) = some (r1, r2) := by first | (rw [hy109]; with_reducible exact H) | (have H2_ := (Option.bind_some _ _).symm.trans H; rw [hy109]; with_reducible exact H2_) | (have H2_ := (Option.bind_some _ _).symm.trans H; with_reducible exact H2_) | with_reducible exact H | (rw [hy109]; exact H) | exact H
  have Ny109 := mk0 hy109
  clear hy109
  by_cases c6 : y106.length + y109.length < 2513169434916
  ·rw [if_pos c6] at H
   have LMc6 := mk0 c6
   clear c6
   obtain ⟨y112, hy112⟩ : ∃ y_ : List (S71), y_ = (y106 ++ y109) := ⟨_, rfl⟩
   replace H : (some (y112, wrap64 (a0_1 + a3))) = some (r1, r2) := by first | (rw [hy112]; with_reducible exact H) | (have H2_ := (Option.bind_some _ _).symm.trans H; rw [hy112]; with_reducible exact H2_) | (have H2_ := (Option.bind_some _ _).symm.trans H; with_reducible exact H2_) | with_reducible exact H | (rw [hy112]; exact H) | exact H
   have Ny112 := mk0 hy112
   clear hy112
   simp only [Option.some.injEq, Prod.mk.injEq] at H
   obtain ⟨rfl, rfl⟩ := H
   go_enter Tryd.func22, Tryd.ntmps22
   try go_wp2_with (first | ((with_reducible refine gate_dst (N := 4) rfl ?_); refine box_event ?hg (N := 4) ?hd (cs := #[.slice A0_0 l0_0.length c0_0, .int .i64 a0_1]) (t := 29) ?hr ?_; (case hd => rfl); (case hg => rfl); (case hr => first | (go_simp; done) | (go_simp; rfl)); intro gb101 hg w7 hbox hb; have n0_ := mk0 (Kd.V_below (Kd.V_elderB (uV HO0_0.out) gb101 (Nat.le_of_eq hg.symm)) hb); have n1_ := mk0 (Kd.V_below (Kd.V_elderB (uV HO2.out) gb101 (Nat.le_of_eq hg.symm)) hb); have n2_ := mk0 (below_step (uL HB.out) hb); have n3_ := mk0 (hbox); have n4_ := mk0 ((by rw [hg]; exact (below_size (uL HB.out)) : w.heap.size ≤ gb101)); have n5_ := mk0 ((by rw [hg]; exact (below_size (uL HB.out)) : w.heap.size ≤ gb101)); clear HO0_0; clear HO2; clear HB; have HO0_0 := n0_; have HO2 := n1_; have HB := n2_; have BK101 := n3_; have GW101 := n4_; have GE101 := n5_; clear n0_ n1_ n2_ n3_ n4_ n5_; clear hb hbox hg) | ((with_reducible refine gate_dst (N := 8) rfl ?_); refine box_event ?hg (N := 8) ?hd (cs := #[.slice none 0 0, .int .i64 0]) (t := 29) ?hr ?_; (case hd => rfl); (case hg => rfl); (case hr => first | (go_simp; done) | (go_simp; rfl)); intro gb102 hg w8 hbox hb; have n0_ := mk0 (Kd.V_below (Kd.V_elderB (uV HO0_0.out) gb102 (Nat.le_of_eq hg.symm)) hb); have n1_ := mk0 (Kd.V_below (Kd.V_elderB (uV HO2.out) gb102 (Nat.le_of_eq hg.symm)) hb); have n2_ := mk0 (blk_below (g := gb101) (o := .cells #[.slice A0_0 l0_0.length c0_0, .int .i64 a0_1] 29 (0, 0)) (uB BK101.out) hb); have n3_ := mk0 (below_step (by repeat (first | (with_reducible first | exact HB.out | apply bA | apply bN | apply bD | refine bS ?_ (by assumption)) | exact HB.out)) hb); have n4_ := mk0 (hbox); have n5_ := mk0 ((by rw [hg]; exact (below_size (by repeat (first | (with_reducible first | exact HB.out | apply bA | apply bN | apply bD | refine bS ?_ (by assumption)) | exact HB.out))) : w.heap.size ≤ gb102)); have n6_ := mk0 ((by rw [hg]; exact (below_size (by repeat (first | (with_reducible first | exact HB.out | apply bA | apply bN | apply bD | refine bS ?_ (by assumption)) | exact HB.out))) : w.heap.size ≤ gb102)); have n7_ := mk0 ((by rw [hg]; exact Nat.ne_of_lt (blk_lt (g := gb101) (o := .cells #[.slice A0_0 l0_0.length c0_0, .int .i64 a0_1] 29 (0, 0)) (uB BK101.out)) : gb101 ≠ gb102)); have n8_ := mk0 ((by rw [hg]; exact Nat.ne_of_gt (blk_lt (g := gb101) (o := .cells #[.slice A0_0 l0_0.length c0_0, .int .i64 a0_1] 29 (0, 0)) (uB BK101.out)) : gb102 ≠ gb101)); clear HO0_0; clear HO2; clear BK101; clear HB; have HO0_0 := n0_; have HO2 := n1_; have BK101 := n2_; have HB := n3_; have BK102 := n4_; have GW102 := n5_; have GE102 := n6_; have NB101_102 := n7_; have NB102_101 := n8_; clear n0_ n1_ n2_ n3_ n4_ n5_ n6_ n7_ n8_; clear hb hbox hg))
   have n0_ := mk0 (Kd.V_drew HO0_0.out)
   have n1_ := mk0 (Kd.V_drew HO2.out)
   have n2_ := mk0 (blk_drew BK101.out)
   have n3_ := mk0 (blk_drew BK102.out)
   have n4_ := mk0 (below_drew1 HB.out)
   clear HO0_0
   clear HO2
   clear BK101
   clear BK102
   clear HB
   have HO0_0 := n0_
   have HO2 := n1_
   have BK101 := n2_
   have BK102 := n3_
   have HB := n4_
   clear n0_ n1_ n2_ n3_ n4_
   refine start_ (n := 14) (S := fun w' => w'.cell? ⟨gb101, 0, none⟩ = some (.slice A0_0 l0_0.length c0_0) ∧ w'.cell? ⟨gb101, 1, none⟩ = some (.int .i64 a0_1)) (ds := [13]) #[false, false, false, false, false, false, false, false, false, false, false, false, false, false] (by kernel_rfl) rfl rfl ⟨(blk_cell BK101.out 0).trans rfl, (blk_cell BK101.out 1).trans rfl⟩ (fun hHeld => ?_); refine with_tabW furrowlaw9_add.tab1 furrowlaw9_add.bits1 (fun HT_ HW_ => ?_)
   generalize w8.drew = w9 at HO0_0 HO2 BK101 BK102 HB hHeld ⊢
   refine pure_ (i := 1) (N := some 10) (v := ?_) (a' := ?_) #[false, true, false, false, false, false, false, false, false, false, false, false, false, false] rfl rfl (any_of HT_.out (by kernel_rfl)) (fun _ _ _ h => h) (Or.inl ⟨by rfl, ?_⟩) ?_ ?_
   rotate_left
   ·intro w'
    go_simp
    with_reducible rfl
   rotate_left
   ·simp only [Act.put, List.setIfInBounds_toArray, List.set_cons_zero, List.set_cons_succ, i64_w, i32_w]
    rfl
   refine pure_ (i := 4) (N := some 13) (v := ?_) (a' := ?_) #[false, true, false, false, true, false, false, false, false, false, false, false, false, false] rfl rfl (any_of HT_.out (by kernel_rfl)) (fun _ _ _ h => h) (Or.inl ⟨by rfl, ?_⟩) ?_ ?_
   rotate_left
   ·intro w'
    go_simp
    with_reducible rfl
   rotate_left
   ·simp only [Act.put, List.setIfInBounds_toArray, List.set_cons_zero, List.set_cons_succ, i64_w, i32_w]
    rfl
   refine pure_ (i := 5) (N := some 14) (v := ?_) (a' := ?_) #[false, true, false, false, true, true, false, false, false, false, false, false, false, false] rfl rfl (any_of HT_.out (by kernel_rfl)) (fun _ _ _ h => h) (Or.inl ⟨by rfl, ?_⟩) ?_ ?_
   rotate_left
   ·intro w'
    go_simp
    with_reducible rfl
   rotate_left
   ·simp only [Act.put, List.setIfInBounds_toArray, List.set_cons_zero, List.set_cons_succ, i64_w, i32_w]
    rfl
   refine pure_ (i := 6) (N := some 15) (v := ?_) (a' := ?_) #[false, true, false, false, true, true, true, false, false, false, false, false, false, false] rfl rfl (any_of HT_.out (by kernel_rfl)) (fun _ _ _ h => h) (Or.inl ⟨by rfl, ?_⟩) ?_ ?_
   rotate_left
   ·intro w'
    go_simp
    with_reducible rfl
   rotate_left
   ·simp only [Act.put, List.setIfInBounds_toArray, List.set_cons_zero, List.set_cons_succ, i64_w, i32_w]
    rfl
   refine pure_ (i := 8) (N := some 17) (v := ?_) (a' := ?_) #[false, true, false, false, true, true, true, false, true, false, false, false, false, false] rfl rfl (any_of HT_.out (by kernel_rfl)) (fun _ _ _ h => h) (Or.inl ⟨by rfl, ?_⟩) ?_ ?_
   rotate_left
   ·intro w'
    go_simp
    with_reducible rfl
   rotate_left
   ·simp only [Act.put, List.setIfInBounds_toArray, List.set_cons_zero, List.set_cons_succ, i64_w, i32_w]
    rfl
   refine take_ (i := 2) (N := some 11) (v := ?_) (a' := ?_) #[false, true, true, false, true, true, true, false, true, false, false, false, false, false] rfl rfl (take_ofW HT_.out HW_.out (by kernel_rfl)) (fun _ _ _ h => h) (Or.inl ⟨by rfl, ?_⟩) hHeld ?_ ?_
   rotate_left
   ·rintro w' ⟨s0, s1⟩
    go_simp
    with_reducible rfl
   rotate_left
   ·simp only [Act.put, List.setIfInBounds_toArray, List.set_cons_zero, List.set_cons_succ, i64_w, i32_w]
    rfl
   refine take_ (i := 7) (N := some 16) (v := ?_) (a' := ?_) #[false, true, true, false, true, true, true, true, true, false, false, false, false, false] rfl rfl (take_ofW HT_.out HW_.out (by kernel_rfl)) (fun _ _ _ h => h) (Or.inl ⟨by rfl, ?_⟩) hHeld ?_ ?_
   rotate_left
   ·rintro w' ⟨s0, s1⟩
    go_simp
    with_reducible rfl
   rotate_left
   ·simp only [Act.put, List.setIfInBounds_toArray, List.set_cons_zero, List.set_cons_succ, i64_w, i32_w]
    rfl
   refine pure_ (i := 9) (N := some 18) (v := ?_) (a' := ?_) #[false, true, true, false, true, true, true, true, true, true, false, false, false, false] rfl rfl (any_of HT_.out (by kernel_rfl)) (fun _ _ _ h => h) (Or.inl ⟨by rfl, ?_⟩) ?_ ?_
   rotate_left
   ·intro w'
    go_simp
    with_reducible rfl
   rotate_left
   ·simp only [Act.put, List.setIfInBounds_toArray, List.set_cons_zero, List.set_cons_succ, i64_w, i32_w]
    rfl
   refine join_ (σ := Value × Value × Value) 3 #[true, true, true, true, true, true, true, true, true, true, true, false, false, false] (fun s_ => [(9, s_.1), (12, s_.2.1), (19, s_.2.2)]) (fun s_ w' => (w'.cell? ⟨gb101, 0, none⟩ = some (.slice A0_0 l0_0.length c0_0) ∧ w'.cell? ⟨gb101, 1, none⟩ = some (.int .i64 a0_1)) ∧ (Kd.V k71 71 w' w.heap.size (fun k_ => ((P0_0_ k_ ∨ P2_ k_) ∨ w.heap.size ≤ k_) ∧ some k_ ≠ (s_.2.1 : Value).ownBlock ∧ some k_ ≠ (s_.2.2 : Value).ownBlock ∧ k_ ≠ gb101 ∧ k_ ≠ gb102) (.slice A0_0 l0_0.length c0_0) l0_0) ∧ (Kd.N k71 71 w' w.heap.size (fun k_ => ((P0_0_ k_ ∨ P2_ k_) ∨ w.heap.size ≤ k_) ∧ some k_ ≠ (s_.2.2 : Value).ownBlock ∧ k_ ≠ gb101 ∧ k_ ≠ gb102) s_.2.1 y106) ∧ (Kd.N k71 71 w' w.heap.size (fun k_ => ((P0_0_ k_ ∨ P2_ k_) ∨ w.heap.size ≤ k_) ∧ some k_ ≠ (s_.2.1 : Value).ownBlock ∧ k_ ≠ gb101 ∧ k_ ≠ gb102) s_.2.2 y109) ∧ (Kd.V (Kd.int .i64) 2 w' w.heap.size (fun k_ => ((P0_0_ k_ ∨ P2_ k_) ∨ w.heap.size ≤ k_) ∧ some k_ ≠ (s_.2.1 : Value).ownBlock ∧ some k_ ≠ (s_.2.2 : Value).ownBlock ∧ k_ ≠ gb101 ∧ k_ ≠ gb102) (.slice A2 l2.length c2) l2) ∧ (w'.heap[gb101]? = some (.cells #[.slice A0_0 l0_0.length c0_0, .int .i64 a0_1] 29 (0, 0))) ∧ (w'.heap[gb102]? = some (.cells #[.slice none 0 0, .int .i64 0] 29 (0, 0))) ∧ (Below w.heap.size w w')) ?_ ?_
   rotate_left
   ·intro hCont
    refine two_ (i := 0) (j := 10) (Ni := some 9) (Nj := some 19) #[true, true, true, false, true, true, true, true, true, true, false, false, false, false] #[false, true, true, false, true, true, true, true, true, true, true, false, false, false] rfl rfl rfl rfl (two_of HT_.out (by kernel_rfl)) (by decide) (by decide) (fun K hK => ?_) (fun K hK => ?_)
    ·skip
     refine Kd.N_lit_step k71 _ 71 ?hg (N' := 9) ?hd (xs := ([] : List (S71))) (inner := []) (ok := (fun k_ => ((P0_0_ k_ ∨ P2_ k_) ∨ w.heap.size ≤ k_) ∧ k_ ≠ gb101 ∧ k_ ≠ gb102)) (okp := (fun k_ => ((P0_0_ k_ ∨ P2_ k_) ∨ w.heap.size ≤ k_) ∧ k_ ≠ gb101 ∧ k_ ≠ gb102)) ?hr ?hp (fun _ hk => hk) ((show ∀ k_, w9.heap.size ≤ k_ → (fun k_ => ((P0_0_ k_ ∨ P2_ k_) ∨ w.heap.size ≤ k_) ∧ k_ ≠ gb101 ∧ k_ ≠ gb102) k_ from fun k_ hk => ⟨(.inr (Nat.le_trans (below_size (by repeat (first | (with_reducible first | exact HB.out | apply bA | apply bN | apply bD | refine bS ?_ (by assumption)) | exact HB.out))) hk)), Kd.freshB (g := gb101) (o := .cells #[.slice A0_0 l0_0.length c0_0, .int .i64 a0_1] 29 (0, 0)) (uB BK101.out) k_ hk, Kd.freshB (g := gb102) (o := .cells #[.slice none 0 0, .int .i64 0] 29 (0, 0)) (uB BK102.out) k_ hk⟩) _ (Nat.le_refl _)) (Below.refl _ _) (Nat.le_refl _) (by simp) ?_; (case hd => rfl); (case hg => rfl); (case hr => first | (go_simp; done) | (go_simp; rfl)); (case hp => exact (Reps.none _ _))
     intro v104 w10 ho11 hb hg_ hnew_
     clear hg_ hnew_
     (first | rw [← Ny103.out] at ho11 | (simp only [Int.reduceToNat] at ho11; rw [← Ny103.out] at ho11))
     have n0_ := mk0 (Kd.V_elder' (uV HO0_0.out) (Kd.N_base ho11) hb)
     have n1_ := mk0 (Kd.V_elder' (uV HO2.out) (Kd.N_base ho11) hb)
     have n2_ := mk0 (Kd.N_lower ho11 (below_size (by repeat (first | (with_reducible first | exact HB.out | apply bA | apply bN | apply bD | refine bS ?_ (by assumption)) | exact HB.out))))
     have n3_ := mk0 (blk_below (g := gb101) (o := .cells #[.slice A0_0 l0_0.length c0_0, .int .i64 a0_1] 29 (0, 0)) (uB BK101.out) hb)
     have n4_ := mk0 (blk_below (g := gb102) (o := .cells #[.slice none 0 0, .int .i64 0] 29 (0, 0)) (uB BK102.out) hb)
     have n5_ := mk0 (below_step (by repeat (first | (with_reducible first | exact HB.out | apply bA | apply bN | apply bD | refine bS ?_ (by assumption)) | exact HB.out)) hb)
     clear HO0_0
     clear HO2
     clear BK101
     clear BK102
     clear HB
     have HO0_0 := n0_
     have HO2 := n1_
     have HO105 := n2_
     have BK101 := n3_
     have BK102 := n4_
     have HB := n5_
     clear n0_ n1_ n2_ n3_ n4_ n5_
     clear hb ho11
     refine hK.out _ _ ⟨(blk_cell BK101.out 0).trans rfl, (blk_cell BK101.out 1).trans rfl⟩ (fun hHeld => ?_)
     clear hK K
     refine norm_ (a' := ?_) ?_ ?_
     rotate_left
     ·show Act.put _ (some 9) _ = _
      simp only [Act.put, List.setIfInBounds_toArray, List.set_cons_zero, List.set_cons_succ, i64_w, i32_w]
      rfl
     refine two_ (i := 3) (j := 10) (Ni := some 12) (Nj := some 19) #[true, true, true, true, true, true, true, true, true, true, false, false, false, false] #[true, true, true, false, true, true, true, true, true, true, true, false, false, false] rfl rfl rfl rfl (two_of HT_.out (by kernel_rfl)) (by decide) (by decide) (fun K hK => ?_) (fun K hK => ?_)
     ·skip
      refine Kd.N_append_rows_step k71 (w0 := w) w.heap.size (by rfl) (.tmp 9) (.tmp 11) 27 71 (.agg #[(.string ⟨#[]⟩), (.slice none 0 0), (.int .i64 0), (.int .i64 0)]) 56 rfl Tryd.underlying27 info71 rfl (by decide) (by omega) v104 y103 l0_0 _ _ _ (fun k_ => ((P0_0_ k_ ∨ P2_ k_) ∨ w.heap.size ≤ k_) ∧ k_ ≠ gb101 ∧ k_ ≠ gb102) (fun k_ => ((fun k_ => ((P0_0_ k_ ∨ P2_ k_) ∨ w.heap.size ≤ k_) ∧ k_ ≠ gb101 ∧ k_ ≠ gb102)) k_ ∧ some k_ ≠ (v104 : Value).ownBlock) rfl rfl ?aO ?aR (fun _ hk => hk) ?aF ?aB ?aS ?aL ?_
      (case aR => exact (by skip; exact Kd.V_F (Kd.V_mono (ok' := (fun k_ => ((fun k_ => ((P0_0_ k_ ∨ P2_ k_) ∨ w.heap.size ≤ k_) ∧ k_ ≠ gb101 ∧ k_ ≠ gb102)) k_ ∧ some k_ ≠ (v104 : Value).ownBlock)) (HO0_0.out) (fun k_ hk => ⟨⟨hk.1.1.1, ⟨hk.1.1.2, hk.1.2⟩⟩, hk.2⟩))))
      (case aB => exact (by repeat (first | (with_reducible first | exact HB.out | apply bA | apply bN | apply bD | refine bS ?_ (by assumption)) | exact HB.out)))
      (case aF => exact (fun k_ hk => ⟨(.inr (Nat.le_trans (below_size (by repeat (first | (with_reducible first | exact HB.out | apply bA | apply bN | apply bD | refine bS ?_ (by assumption)) | exact HB.out))) hk)), Kd.freshB (g := gb101) (o := .cells #[.slice A0_0 l0_0.length c0_0, .int .i64 a0_1] 29 (0, 0)) (uB BK101.out) k_ hk, Kd.freshB (g := gb102) (o := .cells #[.slice none 0 0, .int .i64 0] 29 (0, 0)) (uB BK102.out) k_ hk⟩))
      (case aO => exact (uN HO105.out))
      (case aS => exact (below_size (by repeat (first | (with_reducible first | exact HB.out | apply bA | apply bN | apply bD | refine bS ?_ (by assumption)) | exact HB.out))))
      (case aL => have := LMc5.out; omega)
      intro v107 w12 ho hb hg hat
      rw [← Ny106.out] at ho
      have n0_ := mk0 (Kd.V_afterv (ok := (fun k_ => ((P0_0_ k_ ∨ P2_ k_) ∨ w.heap.size ≤ k_) ∧ k_ ≠ gb101 ∧ k_ ≠ gb102)) (uV (Kd.V_mono HO0_0.out (fun _ hk => ⟨⟨hk.1.1.1, ⟨hk.1.1.2, hk.1.2⟩⟩, hk.2⟩))) hg hat)
      have n1_ := mk0 (Kd.V_afterv (ok := (fun k_ => ((P0_0_ k_ ∨ P2_ k_) ∨ w.heap.size ≤ k_) ∧ k_ ≠ gb101 ∧ k_ ≠ gb102)) (uV (Kd.V_mono HO2.out (fun _ hk => ⟨⟨hk.1.1.1, ⟨hk.1.1.2, hk.1.2⟩⟩, hk.2⟩))) hg hat)
      have n2_ := mk0 (blk_grown (g := gb101) (o := .cells #[.slice A0_0 l0_0.length c0_0, .int .i64 a0_1] 29 (0, 0)) (uB BK101.out) hg (Kd.N_ne HO105.out BK101.out (by decide)))
      have n3_ := mk0 (blk_grown (g := gb102) (o := .cells #[.slice none 0 0, .int .i64 0] 29 (0, 0)) (uB BK102.out) hg (Kd.N_ne HO105.out BK102.out (by decide)))
      have n4_ := mk0 (hb)
      have n5_ := mk0 (ho)
      clear HO0_0
      clear HO2
      clear BK101
      clear BK102
      clear HB
      clear HO105
      have HO0_0 := n0_
      have HO2 := n1_
      have BK101 := n2_
      have BK102 := n3_
      have HB := n4_
      have HO108 := n5_
      clear n0_ n1_ n2_ n3_ n4_ n5_
      clear ho hb hg hat
      refine hK.out _ _ ⟨(blk_cell BK101.out 0).trans rfl, (blk_cell BK101.out 1).trans rfl⟩ (fun hHeld => ?_)
      clear hK K
      refine norm_ (a' := ?_) ?_ ?_
      rotate_left
      ·show Act.put _ (some 12) _ = _
       simp only [Act.put, List.setIfInBounds_toArray, List.set_cons_zero, List.set_cons_succ, i64_w, i32_w]
       rfl
      refine one_ (i := 10) (N := some 19) #[true, true, true, true, true, true, true, true, true, true, true, false, false, false] rfl rfl (one_of HT_.out (by kernel_rfl)) (by decide) (fun K hK => ?_)
      refine Kd.N_lit_step k71 _ 71 ?hg (N' := 19) ?hd (xs := ([(⟨a1, l2, a0_1, a3⟩ : S71)] : List (S71))) (inner := [.string a1, .slice A2 l2.length c2, .int .i64 a0_1, .int .i64 a3]) (ok := (fun k_ => ((P0_0_ k_ ∨ P2_ k_) ∨ w.heap.size ≤ k_) ∧ some k_ ≠ (v107 : Value).ownBlock ∧ k_ ≠ gb101 ∧ k_ ≠ gb102)) (okp := (fun k_ => ((P0_0_ k_ ∨ P2_ k_) ∨ w.heap.size ≤ k_) ∧ some k_ ≠ (v107 : Value).ownBlock ∧ k_ ≠ gb101 ∧ k_ ≠ gb102)) ?hr ?hp (fun _ hk => hk) ((show ∀ k_, w12.heap.size ≤ k_ → (fun k_ => ((P0_0_ k_ ∨ P2_ k_) ∨ w.heap.size ≤ k_) ∧ some k_ ≠ (v107 : Value).ownBlock ∧ k_ ≠ gb101 ∧ k_ ≠ gb102) k_ from fun k_ hk => ⟨(.inr (Nat.le_trans (below_size (by repeat (first | (with_reducible first | exact HB.out | apply bA | apply bN | apply bD | refine bS ?_ (by assumption)) | exact HB.out))) hk)), Kd.fresh' (Kd.N_lt (uN HO108.out)) k_ hk, Kd.freshB (g := gb101) (o := .cells #[.slice A0_0 l0_0.length c0_0, .int .i64 a0_1] 29 (0, 0)) (uB BK101.out) k_ hk, Kd.freshB (g := gb102) (o := .cells #[.slice none 0 0, .int .i64 0] 29 (0, 0)) (uB BK102.out) k_ hk⟩) _ (Nat.le_refl _)) (Below.refl _ _) (Nat.le_refl _) (by simp) ?_; (case hd => rfl); (case hg => rfl); (case hr => first | (go_simp; done) | (go_simp; rfl)); (case hp => exact (Reps.c4 (show Kd.FK k71 _ _ (⟨a1, l2, a0_1, a3⟩ : S71) [.string a1, .slice A2 l2.length c2, .int .i64 a0_1, .int .i64 a3] from (k71_mkF _ _ (⟨a1, l2, a0_1, a3⟩ : S71) (Kd.V_reads' (Kd.V_mono (ok' := (fun k_ => ((P0_0_ k_ ∨ P2_ k_) ∨ w.heap.size ≤ k_) ∧ some k_ ≠ (v107 : Value).ownBlock ∧ k_ ≠ gb101 ∧ k_ ≠ gb102)) (HO2.out) (fun k_ hk => ⟨hk.1.1, ⟨hk.2, ⟨hk.1.2.1, hk.1.2.2⟩⟩⟩))).2.1 (Kd.V_F (Kd.V_mono (ok' := (fun k_ => ((P0_0_ k_ ∨ P2_ k_) ∨ w.heap.size ≤ k_) ∧ some k_ ≠ (v107 : Value).ownBlock ∧ k_ ≠ gb101 ∧ k_ ≠ gb102)) (HO2.out) (fun k_ hk => ⟨hk.1.1, ⟨hk.2, ⟨hk.1.2.1, hk.1.2.2⟩⟩⟩))))) (Reps.none _ _)))
      intro v110 w13 ho14 hb hg_ hnew_
      clear hg_ hnew_
      (first | rw [← Ny109.out] at ho14 | (simp only [Int.reduceToNat] at ho14; rw [← Ny109.out] at ho14))
      have n0_ := mk0 (Kd.V_elder' (uV HO0_0.out) (Kd.N_base ho14) hb)
      have n1_ := mk0 (Kd.V_elder' (uV HO2.out) (Kd.N_base ho14) hb)
      have n2_ := mk0 (Kd.N_elder' (uN HO108.out) (Kd.N_base ho14) hb)
      have n3_ := mk0 (Kd.N_lower ho14 (below_size (by repeat (first | (with_reducible first | exact HB.out | apply bA | apply bN | apply bD | refine bS ?_ (by assumption)) | exact HB.out))))
      have n4_ := mk0 (blk_below (g := gb101) (o := .cells #[.slice A0_0 l0_0.length c0_0, .int .i64 a0_1] 29 (0, 0)) (uB BK101.out) hb)
      have n5_ := mk0 (blk_below (g := gb102) (o := .cells #[.slice none 0 0, .int .i64 0] 29 (0, 0)) (uB BK102.out) hb)
      have n6_ := mk0 (below_step (by repeat (first | (with_reducible first | exact HB.out | apply bA | apply bN | apply bD | refine bS ?_ (by assumption)) | exact HB.out)) hb)
      clear HO0_0
      clear HO2
      clear HO108
      clear BK101
      clear BK102
      clear HB
      have HO0_0 := n0_
      have HO2 := n1_
      have HO108 := n2_
      have HO111 := n3_
      have BK101 := n4_
      have BK102 := n5_
      have HB := n6_
      clear n0_ n1_ n2_ n3_ n4_ n5_ n6_
      clear hb ho14
      refine hK.out _ _ ⟨(blk_cell BK101.out 0).trans rfl, (blk_cell BK101.out 1).trans rfl⟩ (fun hHeld => ?_)
      clear hK K
      refine norm_ (a' := ?_) ?_ ?_
      rotate_left
      ·show Act.put _ (some 19) _ = _
       simp only [Act.put, List.setIfInBounds_toArray, List.set_cons_zero, List.set_cons_succ, i64_w, i32_w]
       rfl
      exact norm_ (by first | (simp only [putAll, Act.put, List.setIfInBounds_toArray, List.set_cons_zero, List.set_cons_succ]; done) | (simp only [putAll, Act.put, List.setIfInBounds_toArray, List.set_cons_zero, List.set_cons_succ, *]; done)) (hCont (v104, v107, v110) _ ⟨hHeld, (uV (Kd.V_mono HO0_0.out (fun _ hk => ⟨hk.1.1.1, ⟨hk.1.2, ⟨hk.2, ⟨hk.1.1.2.1, hk.1.1.2.2⟩⟩⟩⟩))), (uN (Kd.N_mono HO108.out (fun _ hk => ⟨hk.1.1, ⟨hk.2, ⟨hk.1.2.1, hk.1.2.2⟩⟩⟩))), (uN HO111.out), (uV (Kd.V_mono HO2.out (fun _ hk => ⟨hk.1.1.1, ⟨hk.1.2, ⟨hk.2, ⟨hk.1.1.2.1, hk.1.1.2.2⟩⟩⟩⟩))), (uB BK101.out), (uB BK102.out), (by repeat (first | (with_reducible first | exact HB.out | apply bA | apply bN | apply bD | refine bS ?_ (by assumption)) | exact HB.out))⟩)
     ·skip
      refine Kd.N_lit_step k71 _ 71 ?hg (N' := 19) ?hd (xs := ([(⟨a1, l2, a0_1, a3⟩ : S71)] : List (S71))) (inner := [.string a1, .slice A2 l2.length c2, .int .i64 a0_1, .int .i64 a3]) (ok := (fun k_ => ((P0_0_ k_ ∨ P2_ k_) ∨ w.heap.size ≤ k_) ∧ some k_ ≠ (v104 : Value).ownBlock ∧ k_ ≠ gb101 ∧ k_ ≠ gb102)) (okp := (fun k_ => ((P0_0_ k_ ∨ P2_ k_) ∨ w.heap.size ≤ k_) ∧ some k_ ≠ (v104 : Value).ownBlock ∧ k_ ≠ gb101 ∧ k_ ≠ gb102)) ?hr ?hp (fun _ hk => hk) ((show ∀ k_, w10.heap.size ≤ k_ → (fun k_ => ((P0_0_ k_ ∨ P2_ k_) ∨ w.heap.size ≤ k_) ∧ some k_ ≠ (v104 : Value).ownBlock ∧ k_ ≠ gb101 ∧ k_ ≠ gb102) k_ from fun k_ hk => ⟨(.inr (Nat.le_trans (below_size (by repeat (first | (with_reducible first | exact HB.out | apply bA | apply bN | apply bD | refine bS ?_ (by assumption)) | exact HB.out))) hk)), Kd.fresh' (Kd.N_lt (uN HO105.out)) k_ hk, Kd.freshB (g := gb101) (o := .cells #[.slice A0_0 l0_0.length c0_0, .int .i64 a0_1] 29 (0, 0)) (uB BK101.out) k_ hk, Kd.freshB (g := gb102) (o := .cells #[.slice none 0 0, .int .i64 0] 29 (0, 0)) (uB BK102.out) k_ hk⟩) _ (Nat.le_refl _)) (Below.refl _ _) (Nat.le_refl _) (by simp) ?_; (case hd => rfl); (case hg => rfl); (case hr => first | (go_simp; done) | (go_simp; rfl)); (case hp => exact (Reps.c4 (show Kd.FK k71 _ _ (⟨a1, l2, a0_1, a3⟩ : S71) [.string a1, .slice A2 l2.length c2, .int .i64 a0_1, .int .i64 a3] from (k71_mkF _ _ (⟨a1, l2, a0_1, a3⟩ : S71) (Kd.V_reads' (Kd.V_mono (ok' := (fun k_ => ((P0_0_ k_ ∨ P2_ k_) ∨ w.heap.size ≤ k_) ∧ some k_ ≠ (v104 : Value).ownBlock ∧ k_ ≠ gb101 ∧ k_ ≠ gb102)) (HO2.out) (fun k_ hk => ⟨hk.1.1.1, ⟨hk.2, ⟨hk.1.1.2, hk.1.2⟩⟩⟩))).2.1 (Kd.V_F (Kd.V_mono (ok' := (fun k_ => ((P0_0_ k_ ∨ P2_ k_) ∨ w.heap.size ≤ k_) ∧ some k_ ≠ (v104 : Value).ownBlock ∧ k_ ≠ gb101 ∧ k_ ≠ gb102)) (HO2.out) (fun k_ hk => ⟨hk.1.1.1, ⟨hk.2, ⟨hk.1.1.2, hk.1.2⟩⟩⟩))))) (Reps.none _ _)))
      intro v110 w12 ho13 hb hg_ hnew_
      clear hg_ hnew_
      (first | rw [← Ny109.out] at ho13 | (simp only [Int.reduceToNat] at ho13; rw [← Ny109.out] at ho13))
      have n0_ := mk0 (Kd.V_elder' (uV HO0_0.out) (Kd.N_base ho13) hb)
      have n1_ := mk0 (Kd.V_elder' (uV HO2.out) (Kd.N_base ho13) hb)
      have n2_ := mk0 (Kd.N_elder' (uN HO105.out) (Kd.N_base ho13) hb)
      have n3_ := mk0 (Kd.N_lower ho13 (below_size (by repeat (first | (with_reducible first | exact HB.out | apply bA | apply bN | apply bD | refine bS ?_ (by assumption)) | exact HB.out))))
      have n4_ := mk0 (blk_below (g := gb101) (o := .cells #[.slice A0_0 l0_0.length c0_0, .int .i64 a0_1] 29 (0, 0)) (uB BK101.out) hb)
      have n5_ := mk0 (blk_below (g := gb102) (o := .cells #[.slice none 0 0, .int .i64 0] 29 (0, 0)) (uB BK102.out) hb)
      have n6_ := mk0 (below_step (by repeat (first | (with_reducible first | exact HB.out | apply bA | apply bN | apply bD | refine bS ?_ (by assumption)) | exact HB.out)) hb)
      clear HO0_0
      clear HO2
      clear HO105
      clear BK101
      clear BK102
      clear HB
      have HO0_0 := n0_
      have HO2 := n1_
      have HO105 := n2_
      have HO111 := n3_
      have BK101 := n4_
      have BK102 := n5_
      have HB := n6_
      clear n0_ n1_ n2_ n3_ n4_ n5_ n6_
      clear hb ho13
      refine hK.out _ _ ⟨(blk_cell BK101.out 0).trans rfl, (blk_cell BK101.out 1).trans rfl⟩ (fun hHeld => ?_)
      clear hK K
      refine norm_ (a' := ?_) ?_ ?_
      rotate_left
      ·show Act.put _ (some 19) _ = _
       simp only [Act.put, List.setIfInBounds_toArray, List.set_cons_zero, List.set_cons_succ, i64_w, i32_w]
       rfl
      refine one_ (i := 3) (N := some 12) #[true, true, true, true, true, true, true, true, true, true, true, false, false, false] rfl rfl (one_of HT_.out (by kernel_rfl)) (by decide) (fun K hK => ?_)
      refine Kd.N_append_rows_step k71 (w0 := w) w.heap.size (by rfl) (.tmp 9) (.tmp 11) 27 71 (.agg #[(.string ⟨#[]⟩), (.slice none 0 0), (.int .i64 0), (.int .i64 0)]) 56 rfl Tryd.underlying27 info71 rfl (by decide) (by omega) v104 y103 l0_0 _ _ _ (fun k_ => ((P0_0_ k_ ∨ P2_ k_) ∨ w.heap.size ≤ k_) ∧ some k_ ≠ (v110 : Value).ownBlock ∧ k_ ≠ gb101 ∧ k_ ≠ gb102) (fun k_ => ((fun k_ => ((P0_0_ k_ ∨ P2_ k_) ∨ w.heap.size ≤ k_) ∧ some k_ ≠ (v110 : Value).ownBlock ∧ k_ ≠ gb101 ∧ k_ ≠ gb102)) k_ ∧ some k_ ≠ (v104 : Value).ownBlock) rfl rfl ?aO ?aR (fun _ hk => hk) ?aF ?aB ?aS ?aL ?_
      (case aR => exact (by skip; exact Kd.V_F (Kd.V_mono (ok' := (fun k_ => ((fun k_ => ((P0_0_ k_ ∨ P2_ k_) ∨ w.heap.size ≤ k_) ∧ some k_ ≠ (v110 : Value).ownBlock ∧ k_ ≠ gb101 ∧ k_ ≠ gb102)) k_ ∧ some k_ ≠ (v104 : Value).ownBlock)) (HO0_0.out) (fun k_ hk => ⟨⟨hk.1.1.1.1, ⟨hk.2, ⟨hk.1.1.1.2, hk.1.1.2⟩⟩⟩, hk.1.2⟩))))
      (case aB => exact (by repeat (first | (with_reducible first | exact HB.out | apply bA | apply bN | apply bD | refine bS ?_ (by assumption)) | exact HB.out)))
      (case aF => exact (fun k_ hk => ⟨(.inr (Nat.le_trans (below_size (by repeat (first | (with_reducible first | exact HB.out | apply bA | apply bN | apply bD | refine bS ?_ (by assumption)) | exact HB.out))) hk)), Kd.fresh' (Kd.N_lt (uN HO111.out)) k_ hk, Kd.freshB (g := gb101) (o := .cells #[.slice A0_0 l0_0.length c0_0, .int .i64 a0_1] 29 (0, 0)) (uB BK101.out) k_ hk, Kd.freshB (g := gb102) (o := .cells #[.slice none 0 0, .int .i64 0] 29 (0, 0)) (uB BK102.out) k_ hk⟩))
      (case aO => exact (uN (Kd.N_mono HO105.out (fun _ hk => ⟨hk.1.1, ⟨hk.2, ⟨hk.1.2.1, hk.1.2.2⟩⟩⟩))))
      (case aS => exact (below_size (by repeat (first | (with_reducible first | exact HB.out | apply bA | apply bN | apply bD | refine bS ?_ (by assumption)) | exact HB.out))))
      (case aL => have := LMc5.out; omega)
      intro v107 w14 ho hb hg hat
      rw [← Ny106.out] at ho
      have n0_ := mk0 (Kd.V_afterv (ok := (fun k_ => ((P0_0_ k_ ∨ P2_ k_) ∨ w.heap.size ≤ k_) ∧ some k_ ≠ (v110 : Value).ownBlock ∧ k_ ≠ gb101 ∧ k_ ≠ gb102)) (uV (Kd.V_mono HO0_0.out (fun _ hk => ⟨⟨hk.1.1.1.1, ⟨hk.2, ⟨hk.1.1.1.2, hk.1.1.2⟩⟩⟩, hk.1.2⟩))) hg hat)
      have n1_ := mk0 (Kd.V_afterv (ok := (fun k_ => ((P0_0_ k_ ∨ P2_ k_) ∨ w.heap.size ≤ k_) ∧ some k_ ≠ (v110 : Value).ownBlock ∧ k_ ≠ gb101 ∧ k_ ≠ gb102)) (uV (Kd.V_mono HO2.out (fun _ hk => ⟨⟨hk.1.1.1.1, ⟨hk.2, ⟨hk.1.1.1.2, hk.1.1.2⟩⟩⟩, hk.1.2⟩))) hg hat)
      have n2_ := mk0 (blk_grown (g := gb101) (o := .cells #[.slice A0_0 l0_0.length c0_0, .int .i64 a0_1] 29 (0, 0)) (uB BK101.out) hg (Kd.N_ne HO105.out BK101.out (by decide)))
      have n3_ := mk0 (blk_grown (g := gb102) (o := .cells #[.slice none 0 0, .int .i64 0] 29 (0, 0)) (uB BK102.out) hg (Kd.N_ne HO105.out BK102.out (by decide)))
      have n4_ := mk0 (Kd.N_afterv (ok := (fun k_ => ((P0_0_ k_ ∨ P2_ k_) ∨ w.heap.size ≤ k_) ∧ k_ ≠ gb101 ∧ k_ ≠ gb102)) (uN (Kd.N_mono HO111.out (fun _ hk => ⟨⟨hk.1, ⟨hk.2.2.1, hk.2.2.2⟩⟩, hk.2.1⟩))) hg hat)
      have n5_ := mk0 (hb)
      have n6_ := mk0 (ho)
      clear HO0_0
      clear HO2
      clear BK101
      clear BK102
      clear HO111
      clear HB
      clear HO105
      have HO0_0 := n0_
      have HO2 := n1_
      have BK101 := n2_
      have BK102 := n3_
      have HO111 := n4_
      have HB := n5_
      have HO108 := n6_
      clear n0_ n1_ n2_ n3_ n4_ n5_ n6_
      clear ho hb hg hat
      refine hK.out _ _ ⟨(blk_cell BK101.out 0).trans rfl, (blk_cell BK101.out 1).trans rfl⟩ (fun hHeld => ?_)
      clear hK K
      refine norm_ (a' := ?_) ?_ ?_
      rotate_left
      ·show Act.put _ (some 12) _ = _
       simp only [Act.put, List.setIfInBounds_toArray, List.set_cons_zero, List.set_cons_succ, i64_w, i32_w]
       rfl
      exact norm_ (by first | (simp only [putAll, Act.put, List.setIfInBounds_toArray, List.set_cons_zero, List.set_cons_succ]; done) | (simp only [putAll, Act.put, List.setIfInBounds_toArray, List.set_cons_zero, List.set_cons_succ, *]; done)) (hCont (v104, v107, v110) _ ⟨hHeld, (uV (Kd.V_mono HO0_0.out (fun _ hk => ⟨hk.1.1, ⟨hk.2, ⟨hk.1.2.1, ⟨hk.1.2.2.1, hk.1.2.2.2⟩⟩⟩⟩))), (uN HO108.out), (uN (Kd.N_mono HO111.out (fun _ hk => ⟨hk.1.1, ⟨hk.2, ⟨hk.1.2.1, hk.1.2.2⟩⟩⟩))), (uV (Kd.V_mono HO2.out (fun _ hk => ⟨hk.1.1, ⟨hk.2, ⟨hk.1.2.1, ⟨hk.1.2.2.1, hk.1.2.2.2⟩⟩⟩⟩))), (uB BK101.out), (uB BK102.out), (by repeat (first | (with_reducible first | exact HB.out | apply bA | apply bN | apply bD | refine bS ?_ (by assumption)) | exact HB.out))⟩)
    ·skip
     refine Kd.N_lit_step k71 _ 71 ?hg (N' := 19) ?hd (xs := ([(⟨a1, l2, a0_1, a3⟩ : S71)] : List (S71))) (inner := [.string a1, .slice A2 l2.length c2, .int .i64 a0_1, .int .i64 a3]) (ok := (fun k_ => ((P0_0_ k_ ∨ P2_ k_) ∨ w.heap.size ≤ k_) ∧ k_ ≠ gb101 ∧ k_ ≠ gb102)) (okp := (fun k_ => ((P0_0_ k_ ∨ P2_ k_) ∨ w.heap.size ≤ k_) ∧ k_ ≠ gb101 ∧ k_ ≠ gb102)) ?hr ?hp (fun _ hk => hk) ((show ∀ k_, w9.heap.size ≤ k_ → (fun k_ => ((P0_0_ k_ ∨ P2_ k_) ∨ w.heap.size ≤ k_) ∧ k_ ≠ gb101 ∧ k_ ≠ gb102) k_ from fun k_ hk => ⟨(.inr (Nat.le_trans (below_size (by repeat (first | (with_reducible first | exact HB.out | apply bA | apply bN | apply bD | refine bS ?_ (by assumption)) | exact HB.out))) hk)), Kd.freshB (g := gb101) (o := .cells #[.slice A0_0 l0_0.length c0_0, .int .i64 a0_1] 29 (0, 0)) (uB BK101.out) k_ hk, Kd.freshB (g := gb102) (o := .cells #[.slice none 0 0, .int .i64 0] 29 (0, 0)) (uB BK102.out) k_ hk⟩) _ (Nat.le_refl _)) (Below.refl _ _) (Nat.le_refl _) (by simp) ?_; (case hd => rfl); (case hg => rfl); (case hr => first | (go_simp; done) | (go_simp; rfl)); (case hp => exact (Reps.c4 (show Kd.FK k71 _ _ (⟨a1, l2, a0_1, a3⟩ : S71) [.string a1, .slice A2 l2.length c2, .int .i64 a0_1, .int .i64 a3] from (k71_mkF _ _ (⟨a1, l2, a0_1, a3⟩ : S71) (Kd.V_reads' (Kd.V_mono (ok' := (fun k_ => ((P0_0_ k_ ∨ P2_ k_) ∨ w.heap.size ≤ k_) ∧ k_ ≠ gb101 ∧ k_ ≠ gb102)) (HO2.out) (fun k_ hk => ⟨hk.1.1, ⟨hk.1.2, hk.2⟩⟩))).2.1 (Kd.V_F (Kd.V_mono (ok' := (fun k_ => ((P0_0_ k_ ∨ P2_ k_) ∨ w.heap.size ≤ k_) ∧ k_ ≠ gb101 ∧ k_ ≠ gb102)) (HO2.out) (fun k_ hk => ⟨hk.1.1, ⟨hk.1.2, hk.2⟩⟩))))) (Reps.none _ _)))
     intro v110 w10 ho11 hb hg_ hnew_
     clear hg_ hnew_
     (first | rw [← Ny109.out] at ho11 | (simp only [Int.reduceToNat] at ho11; rw [← Ny109.out] at ho11))
     have n0_ := mk0 (Kd.V_elder' (uV HO0_0.out) (Kd.N_base ho11) hb)
     have n1_ := mk0 (Kd.V_elder' (uV HO2.out) (Kd.N_base ho11) hb)
     have n2_ := mk0 (Kd.N_lower ho11 (below_size (by repeat (first | (with_reducible first | exact HB.out | apply bA | apply bN | apply bD | refine bS ?_ (by assumption)) | exact HB.out))))
     have n3_ := mk0 (blk_below (g := gb101) (o := .cells #[.slice A0_0 l0_0.length c0_0, .int .i64 a0_1] 29 (0, 0)) (uB BK101.out) hb)
     have n4_ := mk0 (blk_below (g := gb102) (o := .cells #[.slice none 0 0, .int .i64 0] 29 (0, 0)) (uB BK102.out) hb)
     have n5_ := mk0 (below_step (by repeat (first | (with_reducible first | exact HB.out | apply bA | apply bN | apply bD | refine bS ?_ (by assumption)) | exact HB.out)) hb)
     clear HO0_0
     clear HO2
     clear BK101
     clear BK102
     clear HB
     have HO0_0 := n0_
     have HO2 := n1_
     have HO111 := n2_
     have BK101 := n3_
     have BK102 := n4_
     have HB := n5_
     clear n0_ n1_ n2_ n3_ n4_ n5_
     clear hb ho11
     refine hK.out _ _ ⟨(blk_cell BK101.out 0).trans rfl, (blk_cell BK101.out 1).trans rfl⟩ (fun hHeld => ?_)
     clear hK K
     refine norm_ (a' := ?_) ?_ ?_
     rotate_left
     ·show Act.put _ (some 19) _ = _
      simp only [Act.put, List.setIfInBounds_toArray, List.set_cons_zero, List.set_cons_succ, i64_w, i32_w]
      rfl
     refine one_ (i := 0) (N := some 9) #[true, true, true, false, true, true, true, true, true, true, true, false, false, false] rfl rfl (one_of HT_.out (by kernel_rfl)) (by decide) (fun K hK => ?_)
     refine Kd.N_lit_step k71 _ 71 ?hg (N' := 9) ?hd (xs := ([] : List (S71))) (inner := []) (ok := (fun k_ => ((P0_0_ k_ ∨ P2_ k_) ∨ w.heap.size ≤ k_) ∧ some k_ ≠ (v110 : Value).ownBlock ∧ k_ ≠ gb101 ∧ k_ ≠ gb102)) (okp := (fun k_ => ((P0_0_ k_ ∨ P2_ k_) ∨ w.heap.size ≤ k_) ∧ some k_ ≠ (v110 : Value).ownBlock ∧ k_ ≠ gb101 ∧ k_ ≠ gb102)) ?hr ?hp (fun _ hk => hk) ((show ∀ k_, w10.heap.size ≤ k_ → (fun k_ => ((P0_0_ k_ ∨ P2_ k_) ∨ w.heap.size ≤ k_) ∧ some k_ ≠ (v110 : Value).ownBlock ∧ k_ ≠ gb101 ∧ k_ ≠ gb102) k_ from fun k_ hk => ⟨(.inr (Nat.le_trans (below_size (by repeat (first | (with_reducible first | exact HB.out | apply bA | apply bN | apply bD | refine bS ?_ (by assumption)) | exact HB.out))) hk)), Kd.fresh' (Kd.N_lt (uN HO111.out)) k_ hk, Kd.freshB (g := gb101) (o := .cells #[.slice A0_0 l0_0.length c0_0, .int .i64 a0_1] 29 (0, 0)) (uB BK101.out) k_ hk, Kd.freshB (g := gb102) (o := .cells #[.slice none 0 0, .int .i64 0] 29 (0, 0)) (uB BK102.out) k_ hk⟩) _ (Nat.le_refl _)) (Below.refl _ _) (Nat.le_refl _) (by simp) ?_; (case hd => rfl); (case hg => rfl); (case hr => first | (go_simp; done) | (go_simp; rfl)); (case hp => exact (Reps.none _ _))
     intro v104 w12 ho13 hb hg_ hnew_
     clear hg_ hnew_
     (first | rw [← Ny103.out] at ho13 | (simp only [Int.reduceToNat] at ho13; rw [← Ny103.out] at ho13))
     have n0_ := mk0 (Kd.V_elder' (uV HO0_0.out) (Kd.N_base ho13) hb)
     have n1_ := mk0 (Kd.V_elder' (uV HO2.out) (Kd.N_base ho13) hb)
     have n2_ := mk0 (Kd.N_elder' (uN HO111.out) (Kd.N_base ho13) hb)
     have n3_ := mk0 (Kd.N_lower ho13 (below_size (by repeat (first | (with_reducible first | exact HB.out | apply bA | apply bN | apply bD | refine bS ?_ (by assumption)) | exact HB.out))))
     have n4_ := mk0 (blk_below (g := gb101) (o := .cells #[.slice A0_0 l0_0.length c0_0, .int .i64 a0_1] 29 (0, 0)) (uB BK101.out) hb)
     have n5_ := mk0 (blk_below (g := gb102) (o := .cells #[.slice none 0 0, .int .i64 0] 29 (0, 0)) (uB BK102.out) hb)
     have n6_ := mk0 (below_step (by repeat (first | (with_reducible first | exact HB.out | apply bA | apply bN | apply bD | refine bS ?_ (by assumption)) | exact HB.out)) hb)
     clear HO0_0
     clear HO2
     clear HO111
     clear BK101
     clear BK102
     clear HB
     have HO0_0 := n0_
     have HO2 := n1_
     have HO111 := n2_
     have HO105 := n3_
     have BK101 := n4_
     have BK102 := n5_
     have HB := n6_
     clear n0_ n1_ n2_ n3_ n4_ n5_ n6_
     clear hb ho13
     refine hK.out _ _ ⟨(blk_cell BK101.out 0).trans rfl, (blk_cell BK101.out 1).trans rfl⟩ (fun hHeld => ?_)
     clear hK K
     refine norm_ (a' := ?_) ?_ ?_
     rotate_left
     ·show Act.put _ (some 9) _ = _
      simp only [Act.put, List.setIfInBounds_toArray, List.set_cons_zero, List.set_cons_succ, i64_w, i32_w]
      rfl
     refine one_ (i := 3) (N := some 12) #[true, true, true, true, true, true, true, true, true, true, true, false, false, false] rfl rfl (one_of HT_.out (by kernel_rfl)) (by decide) (fun K hK => ?_)
     refine Kd.N_append_rows_step k71 (w0 := w) w.heap.size (by rfl) (.tmp 9) (.tmp 11) 27 71 (.agg #[(.string ⟨#[]⟩), (.slice none 0 0), (.int .i64 0), (.int .i64 0)]) 56 rfl Tryd.underlying27 info71 rfl (by decide) (by omega) v104 y103 l0_0 _ _ _ (fun k_ => ((P0_0_ k_ ∨ P2_ k_) ∨ w.heap.size ≤ k_) ∧ some k_ ≠ (v110 : Value).ownBlock ∧ k_ ≠ gb101 ∧ k_ ≠ gb102) (fun k_ => ((fun k_ => ((P0_0_ k_ ∨ P2_ k_) ∨ w.heap.size ≤ k_) ∧ some k_ ≠ (v110 : Value).ownBlock ∧ k_ ≠ gb101 ∧ k_ ≠ gb102)) k_ ∧ some k_ ≠ (v104 : Value).ownBlock) rfl rfl ?aO ?aR (fun _ hk => hk) ?aF ?aB ?aS ?aL ?_
     (case aR => exact (by skip; exact Kd.V_F (Kd.V_mono (ok' := (fun k_ => ((fun k_ => ((P0_0_ k_ ∨ P2_ k_) ∨ w.heap.size ≤ k_) ∧ some k_ ≠ (v110 : Value).ownBlock ∧ k_ ≠ gb101 ∧ k_ ≠ gb102)) k_ ∧ some k_ ≠ (v104 : Value).ownBlock)) (HO0_0.out) (fun k_ hk => ⟨⟨hk.1.1.1.1, ⟨hk.1.2, ⟨hk.1.1.1.2, hk.1.1.2⟩⟩⟩, hk.2⟩))))
     (case aB => exact (by repeat (first | (with_reducible first | exact HB.out | apply bA | apply bN | apply bD | refine bS ?_ (by assumption)) | exact HB.out)))
     (case aF => exact (fun k_ hk => ⟨(.inr (Nat.le_trans (below_size (by repeat (first | (with_reducible first | exact HB.out | apply bA | apply bN | apply bD | refine bS ?_ (by assumption)) | exact HB.out))) hk)), Kd.fresh' (Kd.N_lt (uN HO111.out)) k_ hk, Kd.freshB (g := gb101) (o := .cells #[.slice A0_0 l0_0.length c0_0, .int .i64 a0_1] 29 (0, 0)) (uB BK101.out) k_ hk, Kd.freshB (g := gb102) (o := .cells #[.slice none 0 0, .int .i64 0] 29 (0, 0)) (uB BK102.out) k_ hk⟩))
     (case aO => exact (uN HO105.out))
     (case aS => exact (below_size (by repeat (first | (with_reducible first | exact HB.out | apply bA | apply bN | apply bD | refine bS ?_ (by assumption)) | exact HB.out))))
     (case aL => have := LMc5.out; omega)
     intro v107 w14 ho hb hg hat
     rw [← Ny106.out] at ho
     have n0_ := mk0 (Kd.V_afterv (ok := (fun k_ => ((P0_0_ k_ ∨ P2_ k_) ∨ w.heap.size ≤ k_) ∧ some k_ ≠ (v110 : Value).ownBlock ∧ k_ ≠ gb101 ∧ k_ ≠ gb102)) (uV (Kd.V_mono HO0_0.out (fun _ hk => ⟨⟨hk.1.1.1.1, ⟨hk.1.2, ⟨hk.1.1.1.2, hk.1.1.2⟩⟩⟩, hk.2⟩))) hg hat)
     have n1_ := mk0 (Kd.V_afterv (ok := (fun k_ => ((P0_0_ k_ ∨ P2_ k_) ∨ w.heap.size ≤ k_) ∧ some k_ ≠ (v110 : Value).ownBlock ∧ k_ ≠ gb101 ∧ k_ ≠ gb102)) (uV (Kd.V_mono HO2.out (fun _ hk => ⟨⟨hk.1.1.1.1, ⟨hk.1.2, ⟨hk.1.1.1.2, hk.1.1.2⟩⟩⟩, hk.2⟩))) hg hat)
     have n2_ := mk0 (blk_grown (g := gb101) (o := .cells #[.slice A0_0 l0_0.length c0_0, .int .i64 a0_1] 29 (0, 0)) (uB BK101.out) hg (Kd.N_ne HO105.out BK101.out (by decide)))
     have n3_ := mk0 (blk_grown (g := gb102) (o := .cells #[.slice none 0 0, .int .i64 0] 29 (0, 0)) (uB BK102.out) hg (Kd.N_ne HO105.out BK102.out (by decide)))
     have n4_ := mk0 (Kd.N_afterv (ok := (fun k_ => ((P0_0_ k_ ∨ P2_ k_) ∨ w.heap.size ≤ k_) ∧ k_ ≠ gb101 ∧ k_ ≠ gb102)) (uN HO111.out) hg hat)
     have n5_ := mk0 (hb)
     have n6_ := mk0 (ho)
     clear HO0_0
     clear HO2
     clear BK101
     clear BK102
     clear HO111
     clear HB
     clear HO105
     have HO0_0 := n0_
     have HO2 := n1_
     have BK101 := n2_
     have BK102 := n3_
     have HO111 := n4_
     have HB := n5_
     have HO108 := n6_
     clear n0_ n1_ n2_ n3_ n4_ n5_ n6_
     clear ho hb hg hat
     refine hK.out _ _ ⟨(blk_cell BK101.out 0).trans rfl, (blk_cell BK101.out 1).trans rfl⟩ (fun hHeld => ?_)
     clear hK K
     refine norm_ (a' := ?_) ?_ ?_
     rotate_left
     ·show Act.put _ (some 12) _ = _
      simp only [Act.put, List.setIfInBounds_toArray, List.set_cons_zero, List.set_cons_succ, i64_w, i32_w]
      rfl
     exact norm_ (by first | (simp only [putAll, Act.put, List.setIfInBounds_toArray, List.set_cons_zero, List.set_cons_succ]; done) | (simp only [putAll, Act.put, List.setIfInBounds_toArray, List.set_cons_zero, List.set_cons_succ, *]; done)) (hCont (v104, v107, v110) _ ⟨hHeld, (uV (Kd.V_mono HO0_0.out (fun _ hk => ⟨hk.1.1, ⟨hk.2, ⟨hk.1.2.1, ⟨hk.1.2.2.1, hk.1.2.2.2⟩⟩⟩⟩))), (uN HO108.out), (uN (Kd.N_mono HO111.out (fun _ hk => ⟨hk.1.1, ⟨hk.2, ⟨hk.1.2.1, hk.1.2.2⟩⟩⟩))), (uV (Kd.V_mono HO2.out (fun _ hk => ⟨hk.1.1, ⟨hk.2, ⟨hk.1.2.1, ⟨hk.1.2.2.1, hk.1.2.2.2⟩⟩⟩⟩))), (uB BK101.out), (uB BK102.out), (by repeat (first | (with_reducible first | exact HB.out | apply bA | apply bN | apply bD | refine bS ?_ (by assumption)) | exact HB.out))⟩)
   rintro ⟨v104, v107, v110⟩ w15 ⟨hS_, h0_, h1_, h2_, h3_, h4_, h5_, h6_⟩
   have n0_ : Aside0 (Kd.V k71 71 w15 w.heap.size (fun k_ => ((P0_0_ k_ ∨ P2_ k_) ∨ w.heap.size ≤ k_) ∧ some k_ ≠ (v107 : Value).ownBlock ∧ some k_ ≠ (v110 : Value).ownBlock ∧ k_ ≠ gb101 ∧ k_ ≠ gb102) (.slice A0_0 l0_0.length c0_0) l0_0) := ⟨h0_⟩
   have n1_ : Aside0 (Kd.N k71 71 w15 w.heap.size (fun k_ => ((P0_0_ k_ ∨ P2_ k_) ∨ w.heap.size ≤ k_) ∧ some k_ ≠ (v110 : Value).ownBlock ∧ k_ ≠ gb101 ∧ k_ ≠ gb102) v107 y106) := ⟨h1_⟩
   have n2_ : Aside0 (Kd.N k71 71 w15 w.heap.size (fun k_ => ((P0_0_ k_ ∨ P2_ k_) ∨ w.heap.size ≤ k_) ∧ some k_ ≠ (v107 : Value).ownBlock ∧ k_ ≠ gb101 ∧ k_ ≠ gb102) v110 y109) := ⟨h2_⟩
   have n3_ : Aside0 (Kd.V (Kd.int .i64) 2 w15 w.heap.size (fun k_ => ((P0_0_ k_ ∨ P2_ k_) ∨ w.heap.size ≤ k_) ∧ some k_ ≠ (v107 : Value).ownBlock ∧ some k_ ≠ (v110 : Value).ownBlock ∧ k_ ≠ gb101 ∧ k_ ≠ gb102) (.slice A2 l2.length c2) l2) := ⟨h3_⟩
   have n4_ : Aside0 (w15.heap[gb101]? = some (.cells #[.slice A0_0 l0_0.length c0_0, .int .i64 a0_1] 29 (0, 0))) := ⟨h4_⟩
   have n5_ : Aside0 (w15.heap[gb102]? = some (.cells #[.slice none 0 0, .int .i64 0] 29 (0, 0))) := ⟨h5_⟩
   have n6_ : Aside0 (Below w.heap.size w w15) := ⟨h6_⟩
   clear HO0_0
   clear HO2
   clear BK101
   clear BK102
   clear HB
   clear h0_ h1_ h2_ h3_ h4_ h5_ h6_
   have HO0_0 := n0_
   have HO108 := n1_
   have HO111 := n2_
   have HO2 := n3_
   have BK101 := n4_
   have BK102 := n5_
   have HB := n6_
   clear n0_ n1_ n2_ n3_ n4_ n5_ n6_
   have hHeld : w15.cell? ⟨gb101, 0, none⟩ = some (.slice A0_0 l0_0.length c0_0) ∧ w15.cell? ⟨gb101, 1, none⟩ = some (.int .i64 a0_1) := hS_
   obtain ⟨Ao17, co17, eo17⟩ := Kd.N_slice HO111.out
   (first | subst eo17 | (injection eo17 with f1_ f2_ f3_; have f4_ := f1_.symm; have f5_ := f3_.symm; clear f1_ f2_ f3_; subst f4_; subst f5_))
   refine norm_ (a' := ?_) ?_ ?_
   rotate_left
   ·simp only [putAll, Act.put, List.setIfInBounds_toArray, List.set_cons_zero, List.set_cons_succ]
    rfl
   refine one_ (i := 11) (N := some 20) #[true, true, true, true, true, true, true, true, true, true, true, true, false, false] rfl rfl (one_of HT_.out (by kernel_rfl)) (by decide) (fun K hK => ?_)
   refine Kd.N_append_rows_step k71 (w0 := w) w.heap.size (by rfl) (.tmp 12) (.tmp 19) 27 71 (.agg #[(.string ⟨#[]⟩), (.slice none 0 0), (.int .i64 0), (.int .i64 0)]) 56 rfl Tryd.underlying27 info71 rfl (by decide) (by omega) v107 y106 y109 _ _ _ (fun k_ => ((P0_0_ k_ ∨ P2_ k_) ∨ w.heap.size ≤ k_) ∧ k_ ≠ gb101 ∧ k_ ≠ gb102) (fun k_ => ((fun k_ => ((P0_0_ k_ ∨ P2_ k_) ∨ w.heap.size ≤ k_) ∧ k_ ≠ gb101 ∧ k_ ≠ gb102)) k_ ∧ some k_ ≠ (v107 : Value).ownBlock) rfl rfl ?aO ?aR (fun _ hk => hk) ?aF ?aB ?aS ?aL ?_
   (case aR => exact (by skip; exact Kd.N_F (Kd.N_mono (ok' := (fun k_ => ((fun k_ => ((P0_0_ k_ ∨ P2_ k_) ∨ w.heap.size ≤ k_) ∧ k_ ≠ gb101 ∧ k_ ≠ gb102)) k_ ∧ some k_ ≠ (v107 : Value).ownBlock)) (HO111.out) (fun k_ hk => ⟨⟨hk.1, ⟨hk.2.2.1, hk.2.2.2⟩⟩, hk.2.1⟩))))
   (case aB => exact (by repeat (first | (with_reducible first | exact HB.out | apply bA | apply bN | apply bD | refine bS ?_ (by assumption)) | exact HB.out)))
   (case aF => exact (fun k_ hk => ⟨(.inr (Nat.le_trans (below_size (by repeat (first | (with_reducible first | exact HB.out | apply bA | apply bN | apply bD | refine bS ?_ (by assumption)) | exact HB.out))) hk)), Kd.freshB (g := gb101) (o := .cells #[.slice A0_0 l0_0.length c0_0, .int .i64 a0_1] 29 (0, 0)) (uB BK101.out) k_ hk, Kd.freshB (g := gb102) (o := .cells #[.slice none 0 0, .int .i64 0] 29 (0, 0)) (uB BK102.out) k_ hk⟩))
   (case aO => exact (uN (Kd.N_mono HO108.out (fun _ hk => ⟨hk.1, ⟨hk.2.2.1, hk.2.2.2⟩⟩))))
   (case aS => exact (below_size (by repeat (first | (with_reducible first | exact HB.out | apply bA | apply bN | apply bD | refine bS ?_ (by assumption)) | exact HB.out))))
   (case aL => have := LMc6.out; omega)
   intro v113 w16 ho hb hg hat
   rw [← Ny112.out] at ho
   have n0_ := mk0 (Kd.V_afterv (ok := (fun k_ => ((P0_0_ k_ ∨ P2_ k_) ∨ w.heap.size ≤ k_) ∧ some k_ ≠ (.slice Ao17 y109.length co17 : Value).ownBlock ∧ k_ ≠ gb101 ∧ k_ ≠ gb102)) (uV (Kd.V_mono HO0_0.out (fun _ hk => ⟨⟨hk.1, ⟨hk.2.2.1, ⟨hk.2.2.2.1, hk.2.2.2.2⟩⟩⟩, hk.2.1⟩))) hg hat)
   have n1_ := mk0 (Kd.V_afterv (ok := (fun k_ => ((P0_0_ k_ ∨ P2_ k_) ∨ w.heap.size ≤ k_) ∧ some k_ ≠ (.slice Ao17 y109.length co17 : Value).ownBlock ∧ k_ ≠ gb101 ∧ k_ ≠ gb102)) (uV (Kd.V_mono HO2.out (fun _ hk => ⟨⟨hk.1, ⟨hk.2.2.1, ⟨hk.2.2.2.1, hk.2.2.2.2⟩⟩⟩, hk.2.1⟩))) hg hat)
   have n2_ := mk0 (blk_grown (g := gb101) (o := .cells #[.slice A0_0 l0_0.length c0_0, .int .i64 a0_1] 29 (0, 0)) (uB BK101.out) hg (Kd.N_ne HO108.out BK101.out (by decide)))
   have n3_ := mk0 (blk_grown (g := gb102) (o := .cells #[.slice none 0 0, .int .i64 0] 29 (0, 0)) (uB BK102.out) hg (Kd.N_ne HO108.out BK102.out (by decide)))
   have n4_ := mk0 (Kd.N_afterv (ok := (fun k_ => ((P0_0_ k_ ∨ P2_ k_) ∨ w.heap.size ≤ k_) ∧ k_ ≠ gb101 ∧ k_ ≠ gb102)) (uN (Kd.N_mono HO111.out (fun _ hk => ⟨⟨hk.1, ⟨hk.2.2.1, hk.2.2.2⟩⟩, hk.2.1⟩))) hg hat)
   have n5_ := mk0 (hb)
   have n6_ := mk0 (ho)
   clear HO0_0
   clear HO2
   clear BK101
   clear BK102
   clear HO111
   clear HB
   clear HO108
   have HO0_0 := n0_
   have HO2 := n1_
   have BK101 := n2_
   have BK102 := n3_
   have HO111 := n4_
   have HB := n5_
   have HO114 := n6_
   clear n0_ n1_ n2_ n3_ n4_ n5_ n6_
   clear ho hb hg hat
   obtain ⟨Ao18, co18, eo18⟩ := Kd.N_slice HO114.out
   (first | subst eo18 | (injection eo18 with f1_ f2_ f3_; have f4_ := f1_.symm; have f5_ := f3_.symm; clear f1_ f2_ f3_; subst f4_; subst f5_))
   refine hK.out _ _ ⟨(blk_cell BK101.out 0).trans rfl, (blk_cell BK101.out 1).trans rfl⟩ (fun hHeld => ?_)
   clear hK K
   refine norm_ (a' := ?_) ?_ ?_
   rotate_left
   ·show Act.put _ (some 20) _ = _
    simp only [Act.put, List.setIfInBounds_toArray, List.set_cons_zero, List.set_cons_succ, i64_w, i32_w]
    rfl
   refine pure_ (i := 12) (N := some 21) (v := ?_) (a' := ?_) #[true, true, true, true, true, true, true, true, true, true, true, true, true, false] rfl rfl (any_of HT_.out (by kernel_rfl)) (fun _ _ _ h => h) (Or.inl ⟨by rfl, ?_⟩) ?_ ?_
   rotate_left
   ·intro w'
    go_simp
    with_reducible rfl
   rotate_left
   ·simp only [Act.put, List.setIfInBounds_toArray, List.set_cons_zero, List.set_cons_succ, i64_w, i32_w]
    rfl
   refine last_ (i := 13) (N := none) #[true, true, true, true, true, true, true, true, true, true, true, true, true, true] rfl rfl (one_of HT_.out (by kernel_rfl)) (by decide) (fun K hK => ?_)
   have hs19 : w16.cell? ⟨gb101, 0, none⟩ = some (.slice A0_0 l0_0.length c0_0) := (blk_cell BK101.out 0).trans rfl
   have hfs19 := blk_frozen BK101.out 0
   have hns19_1 := NB102_101.out
   have hms19_1 := NB101_102.out
   refine skip_ (w1 := ?_) (by rfl) rfl ?_ ?_
   rotate_left
   ·go_simp
    rfl
   refine hK.out _ _ ?_
   clear hK K
   refine done_ (done_of HT_.out (by kernel_rfl)) ?_
   have hnb20 := NB101_102.out
   have hnc20 := NB102_101.out
   have hcz21_0 : w16.cell? ⟨gb101, 0, none⟩ = some (.slice A0_0 l0_0.length c0_0) := (blk_cell BK101.out 0).trans rfl
   have hcz21_1 : w16.cell? ⟨gb101, 1, none⟩ = some (.int .i64 a0_1) := (blk_cell BK101.out 1).trans rfl
   have hfz21_0 := blk_frozen BK101.out 0
   have hfz21_1 := blk_frozen BK101.out 1
   have hcz22_0 : w16.cell? ⟨gb102, 0, none⟩ = some (.slice none 0 0) := (blk_cell BK102.out 0).trans rfl
   have hcz22_1 : w16.cell? ⟨gb102, 1, none⟩ = some (.int .i64 0) := (blk_cell BK102.out 1).trans rfl
   have hfz22_0 := blk_frozen BK102.out 0
   have hfz22_1 := blk_frozen BK102.out 1
   try go_wp2
   refine bodyPost_ret (results_cell_row rfl _ _ gb102 29 #[.slice Ao18 y112.length co18, .int .i64 (wrap64 (a0_1 + a3))] (0, 0) _ rfl (by (with_reducible repeat (first | refine blk_drewN ?_ _ | refine blk_drew ?_ | refine blk_alloc ?_ _)); refine blk_put (cs := #[.slice Ao18 y112.length co18, .int .i64 0]) ?_ 1 _ rfl; (with_reducible repeat (first | refine blk_drewN ?_ _ | refine blk_drew ?_ | refine blk_alloc ?_ _)); refine blk_put (cs := #[.slice none 0 0, .int .i64 0]) ?_ 0 _ rfl; (with_reducible repeat (first | refine blk_drewN ?_ _ | refine blk_drew ?_ | refine blk_alloc ?_ _)); refine blk_far ?_ NB102_101.out _; (with_reducible repeat (first | refine blk_drewN ?_ _ | refine blk_drew ?_ | refine blk_alloc ?_ _)); refine blk_far ?_ NB102_101.out _; (with_reducible repeat (first | refine blk_drewN ?_ _ | refine blk_drew ?_ | refine blk_alloc ?_ _)); exact BK102.out) Tryd.underlying29 rfl (by kernel_rfl)) rfl ?_
   exact ⟨_, by first | rfl | (simp [errW_none, errW_some] <;> rfl) | (simp [*, errW_none, errW_some] <;> rfl), uN (Kd.N_mono (Kd.N_far (p := ⟨gb102, 1, none⟩) (Kd.N_far (p := ⟨gb102, 0, none⟩) (Kd.N_far (p := ⟨gb101, 1, none⟩) (Kd.N_far (p := ⟨gb101, 0, none⟩) (Kd.N_mono (Kd.N_mono HO114.out (fun k_ hk => (⟨hk, hk.2.1⟩ : _ ∧ k_ ≠ gb101))) (fun k_ hk => (⟨hk, hk.1.2.2⟩ : _ ∧ k_ ≠ gb102))) (fun _ hk => hk.1.2) (.slice Ao18 y112.length co18)) (fun _ hk => hk.1.2) (.int .i64 (wrap64 (a0_1 + a3)))) (fun _ hk => hk.2) (.slice Ao18 y112.length co18)) (fun _ hk => hk.2) (.int .i64 (wrap64 (a0_1 + a3)))) (fun _ hk => hk.1.1.1)), by repeat (first | (with_reducible first | exact HB.out | apply bA | apply bN | apply bD | refine bS ?_ (by assumption)) | exact HB.out)⟩
  ·rw [if_neg c6] at H
   exact absurd H (by simp)
 ·rw [if_neg c5] at H
  exact absurd H (by simp)

end Go.Proofs.YtmhkijidnpihmaaDoor.X
