/- sys.Bounds: walked; the methods of its spans are handed addresses of its own row's elements; no conditions. -/
import Derived.Test.YtkkpgjkjkcmcbaaDoorXx1
import Derived.Test.YtkkpgjkjkcmcbaaDoorXx6
import Derived.Test.YtkkpgjkjkcmcbaaDoorHandK
namespace Go.Proofs.YtkkpgjkjkcmcbaaDoor.H
open Go.Proofs.YtkkpgjkjkcmcbaaDoor.Flt Go.RowKit Go.Proofs.YtkkpgjkjkcmcbaaDoorW.PrintWords Go.Proofs.YtkkpgjkjkcmcbaaDoorW.PrintLast Go.Proofs.YtkkpgjkjkcmcbaaDoorW.PrintMore
open Go.Proofs.YtkkpgjkjkcmcbaaDoor.X
attribute [local go_sem] max2_int min2_int max_two min_two max_three min_three max_four min_four
set_option linter.unusedVariables false
set_option linter.unusedSimpArgs false
theorem info92 : (Tryd.prog.info? 92).map (fun i => (i.zero, i.size, i.bytes)) = some (some (.agg #[(.int .i64 0), (.int .i64 0), (.bool false), (.bool false)]), 4, 24) := by kernel_rfl
/-! #### struct type 92 -/
structure S92 where
  f0 : Int
  f1 : Int
  f2 : Bool
  f3 : Bool
def z92 : S92 := ⟨(0 : Int), (0 : Int), false, false⟩
def k92 : Kd S92 := Kd.iso (Kd.pair (Kd.int .i64) (Kd.pair (Kd.int .i64) (Kd.pair Kd.bool Kd.bool))) (fun x : S92 => (x.f0, x.f1, x.f2, x.f3))
theorem k92_heap : Kd.Heap k92 := Kd.heap_iso _ (Kd.heap_pair (Kd.heap_int .i64) (Kd.heap_pair (Kd.heap_int .i64) (Kd.heap_pair Kd.heap_bool Kd.heap_bool)))
theorem k92_open {w : World} {x : S92} {cs : List Value} (h : k92.K w x cs) : cs = [.int .i64 x.f0, .int .i64 x.f1, .bool x.f2, .bool x.f3] := by
  obtain ⟨_, _, rfl, rfl, ⟨_, _, rfl, rfl, ⟨_, _, rfl, rfl, rfl⟩⟩⟩ := h
  exact rfl
theorem k92_openM {w : World} {base : Nat} {ok : Nat → Prop} {x : S92} {cs : List Value} (h : k92.M w base ok x cs) : cs = [.int .i64 x.f0, .int .i64 x.f1, .bool x.f2, .bool x.f3] := by
  obtain ⟨_, _, rfl, rfl, ⟨_, _, rfl, rfl, ⟨_, _, rfl, rfl, rfl⟩⟩⟩ := h
  exact rfl
theorem k92_mk (w : World) (x : S92)  : k92.K w x [.int .i64 x.f0, .int .i64 x.f1, .bool x.f2, .bool x.f3] := ⟨[.int .i64 x.f0], [.int .i64 x.f1, .bool x.f2, .bool x.f3], rfl, rfl, ⟨[.int .i64 x.f1], [.bool x.f2, .bool x.f3], rfl, rfl, ⟨[.bool x.f2], [.bool x.f3], rfl, rfl, rfl⟩⟩⟩
theorem k92_mkM (w : World) (base : Nat) (ok : Nat → Prop) (x : S92)  : k92.M w base ok x [.int .i64 x.f0, .int .i64 x.f1, .bool x.f2, .bool x.f3] := ⟨[.int .i64 x.f0], [.int .i64 x.f1, .bool x.f2, .bool x.f3], rfl, rfl, ⟨[.int .i64 x.f1], [.bool x.f2, .bool x.f3], rfl, rfl, ⟨[.bool x.f2], [.bool x.f3], rfl, rfl, rfl⟩⟩⟩
theorem k92_mkF (W : World) (ok : Nat → Prop) (x : S92) : Kd.FK k92 W ok x [.int .i64 x.f0, .int .i64 x.f1, .bool x.f2, .bool x.f3] := fun W2 _ => k92_mk W2 x
def rd_T92 (xs : List S92) (i : Int) : S92 := xs.getD i.toNat z92
theorem at_T92 {w : World} {A : Option Addr} {n : Nat} {xs : List S92} (h : Kd.C k92 w A n xs) (i : Int) (h0 : 0 ≤ i) (h1 : i < n) : ∃ ad , A = some ad ∧ w.cell? (ad.add (i.toNat * 4)) = some (.int .i64 (rd_T92 xs i).f0) ∧ w.cell? ⟨(ad.add (i.toNat * 4)).block, (ad.add (i.toNat * 4)).off + 1, none⟩ = some (.int .i64 (rd_T92 xs i).f1) ∧ w.cell? ⟨(ad.add (i.toNat * 4)).block, (ad.add (i.toNat * 4)).off + 2, none⟩ = some (.bool (rd_T92 xs i).f2) ∧ w.cell? ⟨(ad.add (i.toNat * 4)).block, (ad.add (i.toNat * 4)).off + 3, none⟩ = some (.bool (rd_T92 xs i).f3) := by
  obtain ⟨ad, c, e, _, hK, hc0⟩ := Kd.C_get h z92 i h0 h1
  have hc : ∀ j u, c[j]? = some u → w.cell? (ad.add (i.toNat * 4 + j)) = some u := hc0
  obtain rfl := k92_open hK
  exact ⟨ad, e, hc 0 _ rfl, by rw [← add_field _ _ 1 (by omega)]; exact hc 1 _ rfl, by rw [← add_field _ _ 2 (by omega)]; exact hc 2 _ rfl, by rw [← add_field _ _ 3 (by omega)]; exact hc 3 _ rfl⟩

def sys_far.f (a0 : Int) : Option (Bool) := if a0 > 268435456 then (some true) else (some (decide (a0 < (-268435456))))
set_option maxHeartbeats 8000000 in
set_option maxRecDepth 100000 in
theorem sys_far.calls (a0 : Int) (r : Bool) (w : World) (h : sys_far.f a0 = some r) :
    Calls Tryd.prog 37 #[.int .i64 a0] w fun e w' => e = .returned (.bool r) ∧ Drawn0 w w' := by
  have H : (if a0 > 268435456 then (some true) else (some (decide (a0 < (-268435456))))) = some r := h
  clear h
  by_cases c2 : a0 > 268435456
  · rw [if_pos c2] at H
    have c2b0 : decide (268435456 < a0) = true := decide_eq_true c2
    clear c2
    obtain rfl := Option.some.inj H
    go_enter Tryd.func37, Tryd.ntmps37
    go_wp2
    go_ret
    exact ⟨by first | rfl | (simp; done) | (simp [*]; done) | (simp [bne_nil_, beq_nil_]; done), by repeat (first | exact Drawn0.refl _ | apply Drawn0.step)⟩
  · rw [if_neg c2] at H
    have c2b0 : decide (268435456 < a0) = false := decide_eq_false c2
    clear c2
    obtain rfl := Option.some.inj H
    go_enter Tryd.func37, Tryd.ntmps37
    go_wp2
    go_ret
    exact ⟨by first | rfl | (simp; done) | (simp [*]; done) | (simp [bne_nil_, beq_nil_]; done), by repeat (first | exact Drawn0.refl _ | apply Drawn0.step)⟩

-- NOT PRINTED: function 63 (lin_Form_63)

-- NOT PRINTED: function 43 (lin_Form_43)


mutual
def sys_Bounds.l0 : Nat → List (S92) → List (S59) → Int → Int → Int → List (S59) → List (S59) → Option (List Int × List Int × Bool)
  | 0, _, _, _, _, _, _, _ => none
  | k + 1, x5, x19, x20, x21, x149000, x149001, x149002 => if x21 < x20 then (if 0 ≤ x21 then (if x21 < (x19.length : Int) then ((sys_alone.f k ((rd_T59 x19 x21).f0) ((rd_T59 x19 x21).f1)).bind fun t154 => (if t154 ≥ 0 then (if 0 ≤ t154 then (if t154 < (x5.length : Int) then (if t154 < (((rd_T59 x19 x21).f0).length : Int) then ((sys_span_take.f ((rd_T92 x5 t154).f0) ((rd_T92 x5 t154).f1) ((rd_T92 x5 t154).f2) ((rd_T92 x5 t154).f3) (rd ((rd_T59 x19 x21).f0) t154) ((rd_T59 x19 x21).f1)).bind fun bt156 => ((some (x5.set (t154 : Int).toNat (⟨bt156.1, bt156.2.1, bt156.2.2.1, bt156.2.2.2⟩ : S92) : List (S92))).bind fun y160 => ((sys_span_take.f ((rd_T92 y160 t154).f0) ((rd_T92 y160 t154).f1) ((rd_T92 y160 t154).f2) ((rd_T92 y160 t154).f3) (wrap64 (-(rd ((rd_T59 x19 x21).f0) t154))) (wrap64 (-((rd_T59 x19 x21).f1)))).bind fun bt162 => (sys_Bounds.l0 k (y160.set (t154 : Int).toNat (⟨bt162.1, bt162.2.1, bt162.2.2.1, bt162.2.2.2⟩ : S92)) x19 x20 (wrap64 (x21 + 1)) x149000 x149001 x149002)))) else (none)) else (none)) else (none)) else (sys_Bounds.l0 k x5 x19 x20 (wrap64 (x21 + 1)) x149000 x149001 x149002))) else (none)) else (none)) else (sys_Bounds.l1 k x5 x149002 (x149002.length : Int) 0)
def sys_Bounds.l1 : Nat → List (S92) → List (S59) → Int → Int → Option (List Int × List Int × Bool)
  | 0, _, _, _, _ => none
  | k + 1, x5, x55, x56, x57 => if x57 < x56 then (if 0 ≤ x57 then (if x57 < (x55.length : Int) then ((sys_alone.f k ((rd_T59 x55 x57).f0) ((rd_T59 x55 x57).f1)).bind fun t169 => (if t169 ≥ 0 then (if 0 ≤ t169 then (if t169 < (x5.length : Int) then (if t169 < (((rd_T59 x55 x57).f0).length : Int) then ((sys_span_take.f ((rd_T92 x5 t169).f0) ((rd_T92 x5 t169).f1) ((rd_T92 x5 t169).f2) ((rd_T92 x5 t169).f3) (rd ((rd_T59 x55 x57).f0) t169) ((rd_T59 x55 x57).f1)).bind fun bt171 => (sys_Bounds.l1 k (x5.set (t169 : Int).toNat (⟨bt171.1, bt171.2.1, bt171.2.2.1, bt171.2.2.2⟩ : S92)) x55 x56 (wrap64 (x57 + 1)))) else (none)) else (none)) else (none)) else (sys_Bounds.l1 k x5 x55 x56 (wrap64 (x57 + 1))))) else (none)) else (none)) else (sys_Bounds.l2 k ([] : List Int) ([] : List Int) x5 (x5.length : Int) 0)
def sys_Bounds.l2 : Nat → List Int → List Int → List (S92) → Int → Int → Option (List Int × List Int × Bool)
  | 0, _, _, _, _, _ => none
  | k + 1, x2, x3, x77, x78, x79 => if x79 < x78 then (if 0 ≤ x79 then (if x79 < (x77.length : Int) then (if ((rd_T92 x77 x79).f2 = true) then (if ((rd_T92 x77 x79).f3 = true) then ((sys_far.f ((rd_T92 x77 x79).f0)).bind fun t178 => (if t178 = true then (some (([] : List Int), ([] : List Int), false)) else ((sys_far.f ((rd_T92 x77 x79).f1)).bind fun t179 => (if t179 = true then (some (([] : List Int), ([] : List Int), false)) else ((some (([(rd_T92 x77 x79).f0] : List Int) : List Int)).bind fun y180 => (if x2.length + y180.length < 17592186044416 then ((some (([(rd_T92 x77 x79).f1] : List Int) : List Int)).bind fun y186 => (if x3.length + y186.length < 17592186044416 then (sys_Bounds.l2 k (x2 ++ y180) (x3 ++ y186) x77 x78 (wrap64 (x79 + 1))) else (none))) else (none))))))) else (some (([] : List Int), ([] : List Int), false))) else (some (([] : List Int), ([] : List Int), false))) else (none)) else (none)) else (some (x2, x3, true))
end
def sys_Bounds.f (k : Nat) (a0_0 : Int) (l0_1 : List (S59)) (l0_2 : List (S59)) : Option (List Int × List Int × Bool) := if 0 ≤ (mx a0_0 0) then (if (mx a0_0 0 : Int).toNat ≤ 11728124029610 then (sys_Bounds.l0 k (List.replicate (mx a0_0 0 : Int).toNat z92) l0_1 (l0_1.length : Int) 0 a0_0 l0_1 l0_2) else (none)) else (none)
theorem sys_Bounds.mono_l : ∀ k, (∀ y0 y1 y2 y3 y4 y5 y6, LeO (sys_Bounds.l0 k y0 y1 y2 y3 y4 y5 y6) (sys_Bounds.l0 (k + 1) y0 y1 y2 y3 y4 y5 y6)) ∧ (∀ y0 y1 y2 y3, LeO (sys_Bounds.l1 k y0 y1 y2 y3) (sys_Bounds.l1 (k + 1) y0 y1 y2 y3)) ∧ (∀ y0 y1 y2 y3 y4, LeO (sys_Bounds.l2 k y0 y1 y2 y3 y4) (sys_Bounds.l2 (k + 1) y0 y1 y2 y3 y4))
  | 0 => ⟨fun _ _ _ _ _ _ _ r h => by simp [sys_Bounds.l0] at h, fun _ _ _ _ r h => by simp [sys_Bounds.l1] at h, fun _ _ _ _ _ r h => by simp [sys_Bounds.l2] at h⟩
  | k + 1 => by
    obtain ⟨ih0, ih1, ih2⟩ := sys_Bounds.mono_l k
    refine ⟨?_, ?_, ?_⟩
    · intro y0 y1 y2 y3 y4 y5 y6
      unfold sys_Bounds.l0
      repeat' first
      | (with_reducible exact ih0 _ _ _ _ _ _ _)
      | (with_reducible exact ih1 _ _ _ _)
      | (with_reducible exact ih2 _ _ _ _ _)
      | (with_reducible exact sys_alone.mono _ _ _)
      | (with_reducible exact LeO.refl _)
      | (with_reducible exact LeO.none _)
      | (with_reducible refine LeO.ite ?_ ?_)
      | (with_reducible refine LeO.bind ?_ (fun _ => ?_))
      | exact ih0 _ _ _ _ _ _ _
      | exact ih1 _ _ _ _
      | exact ih2 _ _ _ _ _
      | exact sys_alone.mono _ _ _
      | exact LeO.none _
      | refine LeO.ite ?_ ?_
      | refine LeO.bind ?_ (fun _ => ?_)
    · intro y0 y1 y2 y3
      unfold sys_Bounds.l1
      repeat' first
      | (with_reducible exact ih0 _ _ _ _ _ _ _)
      | (with_reducible exact ih1 _ _ _ _)
      | (with_reducible exact ih2 _ _ _ _ _)
      | (with_reducible exact sys_alone.mono _ _ _)
      | (with_reducible exact LeO.refl _)
      | (with_reducible exact LeO.none _)
      | (with_reducible refine LeO.ite ?_ ?_)
      | (with_reducible refine LeO.bind ?_ (fun _ => ?_))
      | exact ih0 _ _ _ _ _ _ _
      | exact ih1 _ _ _ _
      | exact ih2 _ _ _ _ _
      | exact sys_alone.mono _ _ _
      | exact LeO.none _
      | refine LeO.ite ?_ ?_
      | refine LeO.bind ?_ (fun _ => ?_)
    · intro y0 y1 y2 y3 y4
      unfold sys_Bounds.l2
      repeat' first
      | (with_reducible exact ih0 _ _ _ _ _ _ _)
      | (with_reducible exact ih1 _ _ _ _)
      | (with_reducible exact ih2 _ _ _ _ _)
      | (with_reducible exact sys_alone.mono _ _ _)
      | (with_reducible exact LeO.refl _)
      | (with_reducible exact LeO.none _)
      | (with_reducible refine LeO.ite ?_ ?_)
      | (with_reducible refine LeO.bind ?_ (fun _ => ?_))
      | exact ih0 _ _ _ _ _ _ _
      | exact ih1 _ _ _ _
      | exact ih2 _ _ _ _ _
      | exact sys_alone.mono _ _ _
      | exact LeO.none _
      | refine LeO.ite ?_ ?_
      | refine LeO.bind ?_ (fun _ => ?_)
theorem sys_Bounds.mono : ∀ a0 a1 a2 k, LeO (sys_Bounds.f k a0 a1 a2) (sys_Bounds.f (k + 1) a0 a1 a2) := by
  intro a0 a1 a2 k
  obtain ⟨ih0, ih1, ih2⟩ := sys_Bounds.mono_l k
  unfold sys_Bounds.f
  repeat' first
      | (with_reducible exact ih0 _ _ _ _ _ _ _)
      | (with_reducible exact ih1 _ _ _ _)
      | (with_reducible exact ih2 _ _ _ _ _)
      | (with_reducible exact sys_alone.mono _ _ _)
      | (with_reducible exact LeO.refl _)
      | (with_reducible exact LeO.none _)
      | (with_reducible refine LeO.ite ?_ ?_)
      | (with_reducible refine LeO.bind ?_ (fun _ => ?_))
      | exact ih0 _ _ _ _ _ _ _
      | exact ih1 _ _ _ _
      | exact ih2 _ _ _ _ _
      | exact sys_alone.mono _ _ _
      | exact LeO.none _
      | refine LeO.ite ?_ ?_
      | refine LeO.bind ?_ (fun _ => ?_)
def sys_Bounds.T7 : Bool × List (List Nat × List Nat) := (true, [([], []), ([], []), ([0, 1], [0, 1]), ([], []), ([3], [3]), ([], []), ([4, 5], [4, 5]), ([6], [6]), ([], []), ([8], [8]), ([2, 7, 9], [2, 7, 9])])
def sys_Bounds.B7 : List Nat := [0, 0, 3, 0, 8, 0, 56, 120, 0, 256, 1023]
theorem sys_Bounds.tab7 : rtab .any (opsOf Tryd.f14 7) = sys_Bounds.T7 := by kernel_rfl
theorem sys_Bounds.bits7 : waitsOk sys_Bounds.T7.2 sys_Bounds.B7 = true := by kernel_rfl
def sys_Bounds.T8 : Bool × List (List Nat × List Nat) := (true, [([], []), ([], []), ([0, 1], [0, 1]), ([], []), ([3], [3]), ([], []), ([4, 5], [4, 5]), ([6], [6]), ([7], [7]), ([], []), ([9], [9]), ([10], [10]), ([2, 8, 11], [2, 8, 11])])
def sys_Bounds.B8 : List Nat := [0, 0, 3, 0, 8, 0, 56, 120, 248, 0, 512, 1536, 4095]
theorem sys_Bounds.tab8 : rtab .any (opsOf Tryd.f14 8) = sys_Bounds.T8 := by kernel_rfl
theorem sys_Bounds.bits8 : waitsOk sys_Bounds.T8.2 sys_Bounds.B8 = true := by kernel_rfl
def sys_Bounds.T15 : Bool × List (List Nat × List Nat) := (true, [([], []), ([], []), ([0, 1], [0, 1]), ([], []), ([3], [3]), ([], []), ([4, 5], [4, 5]), ([6], [6]), ([], []), ([8], [8]), ([2, 7, 9], [2, 7, 9])])
def sys_Bounds.B15 : List Nat := [0, 0, 3, 0, 8, 0, 56, 120, 0, 256, 1023]
theorem sys_Bounds.tab15 : rtab .any (opsOf Tryd.f14 15) = sys_Bounds.T15 := by kernel_rfl
theorem sys_Bounds.bits15 : waitsOk sys_Bounds.T15.2 sys_Bounds.B15 = true := by kernel_rfl
def sys_Bounds.T22 : Bool × List (List Nat × List Nat) := (true, [([], []), ([], []), ([1], [1]), ([2], [2]), ([0, 3], [0, 3]), ([], []), ([], []), ([6], [6]), ([7], [7]), ([5, 8, 4], [5, 8]), ([4, 9, 0, 1, 2, 3, 4], [0, 4]), ([9, 10, 0, 1, 2, 3, 4, 5, 6, 7, 8, 9, 10], [5, 9])])
def sys_Bounds.B22 : List Nat := [0, 0, 2, 6, 15, 0, 0, 64, 192, 511, 1023, 2047]
theorem sys_Bounds.tab22 : rtab .any (opsOf Tryd.f14 22) = sys_Bounds.T22 := by kernel_rfl
theorem sys_Bounds.bits22 : waitsOk sys_Bounds.T22.2 sys_Bounds.B22 = true := by kernel_rfl
set_option maxHeartbeats 8000000 in
set_option maxRecDepth 100000 in
theorem sys_Bounds.calls (k : Nat) (a0_0 : Int) (A0_1 : Option Addr) (c0_1 : Nat) (l0_1 : List (S59)) (A0_2 : Option Addr) (c0_2 : Nat) (l0_2 : List (S59)) (r1 : List Int) (r2 : List Int) (r3 : Bool) (w : World) (hr0_1 : Kd.C k59 w A0_1 l0_1.length l0_1) (hc0_1 : l0_1.length ≤ c0_1) (hr0_2 : Kd.C k59 w A0_2 l0_2.length l0_2) (hc0_2 : l0_2.length ≤ c0_2) (h : sys_Bounds.f k a0_0 l0_1 l0_2 = some (r1, r2, r3)) :
    Calls Tryd.prog 14 #[.agg #[.int .i64 a0_0, .slice A0_1 l0_1.length c0_1, .slice A0_2 l0_2.length c0_2]] w fun e w' => ∃ v0_ v1_ : Value, e = .returned (.tuple #[v0_, v1_, .bool r3]) ∧ Kd.R (Kd.int .i64) 2 w' w.heap.size (fun k_ => some k_ ≠ (v1_ : Value).ownBlock) v0_ r1 ∧ Kd.R (Kd.int .i64) 2 w' w.heap.size (fun k_ => some k_ ≠ (v0_ : Value).ownBlock) v1_ r2 ∧ Below w.heap.size w w' := by
  have hu24 := Tryd.underlying24
  have hu59 := Tryd.underlying59
  have hu92 := Tryd.underlying92
  have HR0_1 := Aside0.mk hr0_1
  have HC0_1 := Aside0.mk hc0_1
  clear hr0_1 hc0_1
  have HR0_2 := Aside0.mk hr0_2
  have HC0_2 := Aside0.mk hc0_2
  clear hr0_2 hc0_2
  have HB := Aside0.mk (Below.refl w.heap.size w)
  have H : (if 0 ≤ (mx a0_0 0) then (if (mx a0_0 0 : Int).toNat ≤ 11728124029610 then (sys_Bounds.l0 k (List.replicate (mx a0_0 0 : Int).toNat z92) l0_1 (l0_1.length : Int) 0 a0_0 l0_1 l0_2) else (none)) else (none)) = some (r1, r2, r3) := h
  clear h
  obtain ⟨ji2, hji2⟩ : ∃ j_ : Int, (mx a0_0 0) = j_ := ⟨_, rfl⟩
  replace H : (if 0 ≤ (ji2) then (if (ji2 : Int).toNat ≤ 11728124029610 then (sys_Bounds.l0 k (List.replicate (ji2 : Int).toNat z92) l0_1 (l0_1.length : Int) 0 a0_0 l0_1 l0_2) else (none)) else (none)) = some (r1, r2, r3) := by first | (rw [hji2] at H; exact H) | (simp only [hji2] at H ⊢; exact H)
  (try (have hji2l : 0 ≤ ji2 := by (rw [← hji2]; unfold mx; (repeat' split) <;> omega)))
  (try (have hji2m : 0 ≤ ji2 := by omega))
  have hji2_ : (if a0_0 < 0 then 0 else a0_0) = ji2 := hji2
  by_cases c3 : 0 ≤ (ji2)
  · rw [if_pos c3] at H
    have c3b0 := eq_true c3
    have c3b1 : decide (0 ≤ (ji2)) = true := decide_eq_true c3
    clear c3
    by_cases c4 : (ji2 : Int).toNat ≤ 11728124029610
    · rw [if_pos c4] at H
      have c4b0 := eq_true c4
      have c4b1 : decide ((ji2 : Int).toNat ≤ 11728124029610) = true := decide_eq_true c4
      clear c4
      obtain ⟨y149, hy149⟩ : ∃ y_ : List (S92), y_ = (List.replicate (ji2 : Int).toNat z92) := ⟨_, rfl⟩
      replace H : (sys_Bounds.l0 k y149 l0_1 (l0_1.length : Int) 0 a0_0 l0_1 l0_2) = some (r1, r2, r3) := by first | (rw [hy149]; with_reducible exact H) | (have H2_ := (Option.bind_some _ _).symm.trans H; rw [hy149]; with_reducible exact H2_) | (have H2_ := (Option.bind_some _ _).symm.trans H; with_reducible exact H2_) | with_reducible exact H | (rw [hy149]; exact H) | exact H
      have Ny149 := Aside0.mk hy149
      clear hy149
      have H' := Aside0.mk H
      clear H
      go_enter Tryd.func14, Tryd.ntmps14
      go_wp2_with (first | ((with_reducible refine gate_dst (N := 1) rfl ?_); refine bxE 1 #[.int .i64 a0_0, .slice A0_1 l0_1.length c0_1, .slice A0_2 l0_2.length c0_2] 24 ?_; intro gb148 hg w5 hbox hb; have BK148 := Aside0.mk (hbox); have GW148 := Aside0.mk ((by rw [hg]; exact (below_size (by repeat (first | (with_reducible first | exact HB.out | apply below_alloc | apply pw_below_drewN | apply below_drew1) | exact HB.out))) : w.heap.size ≤ gb148)); have GE148 := Aside0.mk ((by rw [hg]; exact (below_size (by repeat (first | (with_reducible first | exact HB.out | apply below_alloc | apply pw_below_drewN | apply below_drew1) | exact HB.out))) : w.heap.size ≤ gb148)); replace HB := Aside0.mk (below_step (by repeat (first | (with_reducible first | exact HB.out | apply below_alloc | apply pw_below_drewN | apply below_drew1) | exact HB.out)) hb); clear hb hbox hg; obtain ⟨hcz6_0, hcz6_1, hcz6_2, hfz6_0, hfz6_1, hfz6_2⟩ := cL3 BK148) | ((with_reducible refine gate_dst (N := 17) rfl ?_); refine Kd.R_make k92 _ 92 rfl (N := 17) rfl 89 _ _ rfl ji2 rfl rfl Tryd.underlying89 (.agg #[(.int .i64 0), (.int .i64 0), (.bool false), (.bool false)]) 24 info92 rfl (by decide) (by omega) z92 (ok := fun _ => True) (okp := fun _ => True) (k92_mkM _ _ _ z92 ) (fun _ hk => hk) trivial (of_decide_eq_true (by first | (with_reducible assumption) | assumption)) (Nat.le_trans (Nat.mul_le_mul_right _ (of_decide_eq_true (by first | (with_reducible assumption) | assumption) : ji2.toNat ≤ 11728124029610)) (by omega)) (Below.refl _ _) (Nat.le_refl _) ?_; intro v150 w7 ho8 hb hg_ hnew_; clear hg_ hnew_; (first | rw [← Ny149.out] at ho8 | (simp only [Int.reduceToNat] at ho8; rw [← Ny149.out] at ho8)); have HO151 := Aside0.mk (Kd.R_lower ho8 (below_size (by repeat (first | (with_reducible first | exact HB.out | apply below_alloc | apply pw_below_drewN | apply below_drew1 | refine below_set ?_ GE148.out) | exact HB.out)))); replace BK148 := Aside0.mk (blk_below (g := gb148) (o := .cells #[.int .i64 a0_0, .slice A0_1 l0_1.length c0_1, .slice A0_2 l0_2.length c0_2] 24 (0, 0)) (by (with_reducible repeat (first | refine blk_drewN ?_ _ | refine blk_drew ?_ | refine blk_alloc ?_ _)); exact BK148.out) hb); replace HB := Aside0.mk (below_step (by repeat (first | (with_reducible first | exact HB.out | apply below_alloc | apply pw_below_drewN | apply below_drew1 | refine below_set ?_ GE148.out) | exact HB.out)) hb); clear hb ho8; obtain ⟨hcz9_0, hcz9_1, hcz9_2, hfz9_0, hfz9_1, hfz9_2⟩ := cL3 BK148))
      go_loopg [21] k (fun kq v21 w' => ∃ (x5_1 : List (S92)) (x21_1 : Int), v21 = .int .i64 x21_1 ∧ Aside0 (sys_Bounds.l0 kq x5_1 l0_1 (l0_1.length : Int) x21_1 a0_0 l0_1 l0_2 = some (r1, r2, r3)) ∧ Aside0 (kq ≤ k) ∧ Aside0 (Kd.R k92 92 w' w.heap.size (fun _ => True) v150 x5_1) ∧ Aside0 (w'.heap[gb148]? = some (.cells #[.int .i64 a0_0, (.slice A0_1 l0_1.length c0_1), (.slice A0_2 l0_2.length c0_2)] 24 (0, 0))) ∧ Aside0 (Below w.heap.size w w'))
      case atStart => exact ⟨(y149), (0), (by first | rfl | (simp; done) | (simp [*]; done) | (simp [bne_nil_, beq_nil_]; done)), H', ⟨Nat.le_refl _⟩, ⟨by (with_reducible repeat (first | apply Kd.R_alloc | apply Kd.R_drewN | apply Kd.R_drew)); exact HO151.out⟩, ⟨by (with_reducible repeat (first | refine blk_drewN ?_ _ | refine blk_drew ?_ | refine blk_alloc ?_ _)); exact BK148.out⟩, ⟨by repeat (first | (with_reducible first | exact HB.out | apply below_alloc | apply pw_below_drewN | apply below_drew1 | refine below_set ?_ GE148.out) | exact HB.out)⟩⟩
      case round =>
        clear H'
        try clear c1
        try clear p2
        try clear c3
        try clear c3b0
        try clear c3b1
        try clear c4
        try clear c4b0
        try clear c4b1
        try clear hcz6_0
        try clear hcz6_1
        try clear hcz6_2
        try clear hcz9_0
        try clear hcz9_1
        try clear hcz9_2
        try clear hfz6_0
        try clear hfz6_1
        try clear hfz6_2
        try clear hfz9_0
        try clear hfz9_1
        try clear hfz9_2
        obtain ⟨x5_1, x21_1, rfl, HA, HK1, HO_5, BK148, HB⟩ := hrel
        cases gk with
        | zero => exact absurd HA.out (by simp [sys_Bounds.l0])
        | succ k1 =>
          have H := HA.out
          clear HA
          simp only [sys_Bounds.l0] at H
          by_cases c10 : x21_1 < (l0_1.length : Int)
          · rw [if_pos c10] at H
            have c10b0 : decide (x21_1 < (l0_1.length : Int)) = true := decide_eq_true c10
            clear c10
            by_cases c11 : 0 ≤ x21_1
            · rw [if_pos c11] at H
              have c11b0 : decide (0 ≤ x21_1) = true := decide_eq_true c11
              clear c11
              by_cases c12 : x21_1 < (l0_1.length : Int)
              · rw [if_pos c12] at H
                have c12b0 : decide (x21_1 < (l0_1.length : Int)) = true := decide_eq_true c12
                clear c12
                replace H := Option.bind_eq_some_iff.mp H
                obtain ⟨t154, A130, H⟩ := H
                have A13 := Aside0.mk A130
                clear A130
                by_cases c14 : t154 ≥ 0
                · rw [if_pos c14] at H
                  have c14b0 : decide (0 ≤ t154) = true := decide_eq_true c14
                  clear c14
                  by_cases c15 : 0 ≤ t154
                  · rw [if_pos c15] at H
                    have c15b0 : decide (0 ≤ t154) = true := decide_eq_true c15
                    clear c15
                    by_cases c16 : t154 < (x5_1.length : Int)
                    · rw [if_pos c16] at H
                      have c16b0 : decide (t154 < (x5_1.length : Int)) = true := decide_eq_true c16
                      clear c16
                      by_cases c18 : t154 < (((rd_T59 l0_1 x21_1).f0).length : Int)
                      · rw [if_pos c18] at H
                        have c18b0 : decide (t154 < (((rd_T59 l0_1 x21_1).f0).length : Int)) = true := decide_eq_true c18
                        clear c18
                        replace H := Option.bind_eq_some_iff.mp H
                        obtain ⟨⟨t156, t157, t158, t159⟩, A190, H⟩ := H
                        dsimp only at H
                        have A19 := Aside0.mk A190
                        clear A190
                        obtain ⟨y160, hy160⟩ : ∃ y_ : List (S92), y_ = (x5_1.set (t154 : Int).toNat (⟨t156, t157, t158, t159⟩ : S92)) := ⟨_, rfl⟩
                        replace H : ((sys_span_take.f ((rd_T92 y160 t154).f0) ((rd_T92 y160 t154).f1) ((rd_T92 y160 t154).f2) ((rd_T92 y160 t154).f3) (wrap64 (-(rd ((rd_T59 l0_1 x21_1).f0) t154))) (wrap64 (-((rd_T59 l0_1 x21_1).f1)))).bind fun bt162 => (sys_Bounds.l0 k1 (y160.set (t154 : Int).toNat (⟨bt162.1, bt162.2.1, bt162.2.2.1, bt162.2.2.2⟩ : S92)) l0_1 (l0_1.length : Int) (wrap64 (x21_1 + 1)) a0_0 l0_1 l0_2)) = some (r1, r2, r3) := by first | (rw [hy160]; with_reducible exact H) | (have H2_ := (Option.bind_some _ _).symm.trans H; rw [hy160]; with_reducible exact H2_) | (have H2_ := (Option.bind_some _ _).symm.trans H; with_reducible exact H2_) | with_reducible exact H | (rw [hy160]; exact H) | exact H
                        have Ny160 := Aside0.mk hy160
                        clear hy160
                        replace H := Option.bind_eq_some_iff.mp H
                        obtain ⟨⟨t162, t163, t164, t165⟩, A210, H⟩ := H
                        dsimp only at H
                        have A21 := Aside0.mk A210
                        clear A210
                        obtain ⟨y166, hy166⟩ : ∃ y_ : List (S92), y_ = (y160.set (t154 : Int).toNat (⟨t162, t163, t164, t165⟩ : S92)) := ⟨_, rfl⟩
                        replace H : (sys_Bounds.l0 k1 y166 l0_1 (l0_1.length : Int) (wrap64 (x21_1 + 1)) a0_0 l0_1 l0_2) = some (r1, r2, r3) := by first | (rw [hy166]; with_reducible exact H) | (have H2_ := (Option.bind_some _ _).symm.trans H; rw [hy166]; with_reducible exact H2_) | (have H2_ := (Option.bind_some _ _).symm.trans H; with_reducible exact H2_) | with_reducible exact H | (rw [hy166]; exact H) | exact H
                        have Ny166 := Aside0.mk hy166
                        clear hy166
                        have H' := Aside0.mk H
                        clear H
                        have p152 : 0 ≤ (x21_1 : Int) := of_decide_eq_true (by first | (with_reducible assumption) | assumption)
                        have q152 : x21_1 < (l0_1.length : Int) := of_decide_eq_true (by first | (with_reducible assumption) | assumption)
                        obtain ⟨ad152, A152_0, c152_0, e152, hx152_0, hx152_1, hl152_0, hi152_0⟩ := at_T59 HR0_1.out x21_1 p152 q152
                        cases e152
                        replace hx152_0 := (HB.out.cell (World.block_lt_of_cell? w _ hx152_0)).trans hx152_0
                        replace hx152_1 := (HB.out.cell (World.block_lt_of_cell? w _ hx152_1)).trans hx152_1
                        have HR152_0 := Aside0.mk hi152_0
                        have HC152_0 := Aside0.mk hl152_0
                        clear hi152_0 hl152_0
                        replace p152 := eq_true p152
                        replace q152 := eq_true q152
                        try go_wp2_with (first | ((with_reducible refine gate_dst (N := 7) rfl ?_); refine bxE 7 #[.slice none 0 0, .int .i64 0] 59 ?_; intro gb153 hg w22 hbox hb; replace HO_5 := Aside0.mk (Kd.R_below (by (with_reducible repeat (first | apply Kd.R_alloc | apply Kd.R_drewN | apply Kd.R_drew)); exact HO_5.out) hb); have BK153 := Aside0.mk (hbox); have GW153 := Aside0.mk ((by rw [hg]; exact (below_size (by repeat (first | (with_reducible first | exact HB.out | apply below_alloc | apply pw_below_drewN | apply below_drew1 | refine below_set ?_ GE148.out) | exact HB.out))) : w.heap.size ≤ gb153)); have GE153 := Aside0.mk ((by rw [hg]; exact (below_size (by repeat (first | (with_reducible first | exact HB.out | apply below_alloc | apply pw_below_drewN | apply below_drew1 | refine below_set ?_ GE148.out) | exact HB.out))) : w.heap.size ≤ gb153)); replace HB := Aside0.mk (below_step (by repeat (first | (with_reducible first | exact HB.out | apply below_alloc | apply pw_below_drewN | apply below_drew1 | refine below_set ?_ GE148.out) | exact HB.out)) hb); have NB148_153 := Aside0.mk ((by rw [hg]; exact Nat.ne_of_lt (blk_lt (g := gb148) (o := .cells #[.int .i64 a0_0, .slice (some ad152) l0_1.length c0_1, .slice A0_2 l0_2.length c0_2] 24 (0, 0)) (by (with_reducible repeat (first | refine blk_drewN ?_ _ | refine blk_drew ?_ | refine blk_alloc ?_ _)); exact BK148.out)) : gb148 ≠ gb153)); have NB153_148 := Aside0.mk ((by rw [hg]; exact Nat.ne_of_gt (blk_lt (g := gb148) (o := .cells #[.int .i64 a0_0, .slice (some ad152) l0_1.length c0_1, .slice A0_2 l0_2.length c0_2] 24 (0, 0)) (by (with_reducible repeat (first | refine blk_drewN ?_ _ | refine blk_drew ?_ | refine blk_alloc ?_ _)); exact BK148.out)) : gb153 ≠ gb148)); replace BK148 := Aside0.mk (blk_below (g := gb148) (o := .cells #[.int .i64 a0_0, .slice (some ad152) l0_1.length c0_1, .slice A0_2 l0_2.length c0_2] 24 (0, 0)) (by (with_reducible repeat (first | refine blk_drewN ?_ _ | refine blk_drew ?_ | refine blk_alloc ?_ _)); exact BK148.out) hb); clear hb hbox hg; have hnb23 := NB153_148.out; have hnc23 := NB148_153.out; obtain ⟨hcz24_0, hcz24_1, hfz24_0, hfz24_1⟩ := cL2 BK153) | ((with_reducible refine gate_dst (N := 26) rfl ?_); refine gsM (some 26) Tryd.func35 #[.agg #[.slice A152_0 ((rd_T59 l0_1 x21_1).f0).length c152_0, .int .i64 ((rd_T59 l0_1 x21_1).f1)]] ?_; (with_reducible refine (sys_alone.calls k1 _ _ ((rd_T59 l0_1 x21_1).f0) ((rd_T59 l0_1 x21_1).f1) t154 _ ?side1 ?side2 A13.out).mono ?_); (case side1 => exact Kd.C_below HR152_0.out (by repeat (first | (with_reducible first | exact HB.out | apply below_alloc | apply pw_below_drewN | apply below_drew1 | refine below_set ?_ GE148.out | refine below_set ?_ GE153.out) | exact HB.out))); (case side2 => exact HC152_0.out); rintro e w25 ⟨rfl, hb⟩; refine ⟨_, rfl, ?_⟩; replace HO_5 := Aside0.mk (Kd.R_below (by (with_reducible repeat (first | apply Kd.R_alloc | apply Kd.R_drewN | apply Kd.R_drew)); exact (Kd.R_mono (Kd.R_far (p := ⟨gb153, 1, none⟩) (Kd.R_far (p := ⟨gb153, 0, none⟩) (Kd.R_types HO_5.out BK153.out (by decide)) (fun _ hk => hk.2) (.slice A152_0 ((rd_T59 l0_1 x21_1).f0).length c152_0)) (fun _ hk => hk.2) (.int .i64 ((rd_T59 l0_1 x21_1).f1))) (fun _ h_ => h_.1))) hb); replace BK148 := Aside0.mk (blk_below (g := gb148) (o := .cells #[.int .i64 a0_0, .slice (some ad152) l0_1.length c0_1, .slice A0_2 l0_2.length c0_2] 24 (0, 0)) (by (with_reducible repeat (first | refine blk_drewN ?_ _ | refine blk_drew ?_ | refine blk_alloc ?_ _)); refine blk_far ?_ NB148_153.out _; (with_reducible repeat (first | refine blk_drewN ?_ _ | refine blk_drew ?_ | refine blk_alloc ?_ _)); refine blk_far ?_ NB148_153.out _; (with_reducible repeat (first | refine blk_drewN ?_ _ | refine blk_drew ?_ | refine blk_alloc ?_ _)); exact BK148.out) hb); replace BK153 := Aside0.mk (blk_below (g := gb153) (o := .cells #[.slice A152_0 ((rd_T59 l0_1 x21_1).f0).length c152_0, .int .i64 ((rd_T59 l0_1 x21_1).f1)] 59 (0, 0)) (by (with_reducible repeat (first | refine blk_drewN ?_ _ | refine blk_drew ?_ | refine blk_alloc ?_ _)); refine blk_put (cs := #[.slice A152_0 ((rd_T59 l0_1 x21_1).f0).length c152_0, .int .i64 0]) ?_ 1 _ rfl; (with_reducible repeat (first | refine blk_drewN ?_ _ | refine blk_drew ?_ | refine blk_alloc ?_ _)); refine blk_put (cs := #[.slice none 0 0, .int .i64 0]) ?_ 0 _ rfl; (with_reducible repeat (first | refine blk_drewN ?_ _ | refine blk_drew ?_ | refine blk_alloc ?_ _)); exact BK153.out) hb); replace HB := Aside0.mk (below_step (by repeat (first | (with_reducible first | exact HB.out | apply below_alloc | apply pw_below_drewN | apply below_drew1 | refine below_set ?_ GE148.out | refine below_set ?_ GE153.out) | exact HB.out)) hb); (try clear hb); (try clear hb2); (try clear hk); (try clear hi)))
                        replace HO_5 := Aside0.mk (Kd.R_drew HO_5.out)
                        replace BK148 := Aside0.mk (blk_drew BK148.out)
                        replace BK153 := Aside0.mk (blk_drew BK153.out)
                        replace HB := Aside0.mk (below_drew1 HB.out)
                        have p17 : 0 ≤ (t154 : Int) := of_decide_eq_true (by first | (with_reducible assumption) | assumption)
                        have q17 : (t154 : Int) < ((x5_1.length : Int) : Int) := of_decide_eq_true (by first | (with_reducible assumption) | assumption)
                        obtain ⟨go17, co17, eo17, gb17, gl17, cl17, HG17⟩ := Kd.R_form HO_5.out (by omega)
                        (first | cases eo17 | (injection eo17 with ea_ en_ ec_; (first | subst ea_ | (injection ea_ with ea_; subst ea_)); subst ec_; clear en_))
                        have GB17 := Aside0.mk gb17
                        have GG17 := Aside0.mk HG17
                        clear gb17 gl17 HG17
                        obtain ⟨ce17, hcl17, hM17, hcc17, hfr17⟩ := Kd.R_elem HO_5.out z92 (t154 : Int) p17 q17
                        obtain rfl := k92_openM hM17
                        have hx17_0 : World.cell? _ ⟨go17, (t154 : Int).toNat * 4, none⟩ = some (.int .i64 ((rd_T92 x5_1 t154).f0)) := hcc17 0 _ rfl
                        have hx17_1 : World.cell? _ ⟨go17, (t154 : Int).toNat * 4 + 1, none⟩ = some (.int .i64 ((rd_T92 x5_1 t154).f1)) := hcc17 1 _ rfl
                        have hx17_2 : World.cell? _ ⟨go17, (t154 : Int).toNat * 4 + 2, none⟩ = some (.bool ((rd_T92 x5_1 t154).f2)) := hcc17 2 _ rfl
                        have hx17_3 : World.cell? _ ⟨go17, (t154 : Int).toNat * 4 + 3, none⟩ = some (.bool ((rd_T92 x5_1 t154).f3)) := hcc17 3 _ rfl
                        have hf17_0 : World.frozen? _ ⟨go17, (t154 : Int).toNat * 4, none⟩ = false := hfr17 0
                        have hf17_1 : World.frozen? _ ⟨go17, (t154 : Int).toNat * 4 + 1, none⟩ = false := hfr17 1
                        have hf17_2 : World.frozen? _ ⟨go17, (t154 : Int).toNat * 4 + 2, none⟩ = false := hfr17 2
                        have hf17_3 : World.frozen? _ ⟨go17, (t154 : Int).toNat * 4 + 3, none⟩ = false := hfr17 3
                        clear hcl17 hcc17 hfr17 hM17
                        replace p17 := eq_true p17
                        replace q17 := eq_true q17
                        have p155 : 0 ≤ (t154 : Int) := of_decide_eq_true (by first | (with_reducible assumption) | assumption)
                        have q155 : t154 < (((rd_T59 l0_1 x21_1).f0).length : Int) := of_decide_eq_true (by first | (with_reducible assumption) | assumption)
                        obtain ⟨ad155, e155, hx155_0⟩ := Kd.at_int HR152_0.out t154 p155 q155
                        have hw155_0 := hx155_0
                        cases e155
                        replace hx155_0 := (HB.out.cell (World.block_lt_of_cell? w _ hx155_0)).trans hx155_0
                        replace p155 := eq_true p155
                        replace q155 := eq_true q155
                        refine start_ (n := 11) (S := fun w' => w'.cell? ⟨gb153, 0, none⟩ = some (.slice (some ad155) ((rd_T59 l0_1 x21_1).f0).length c152_0) ∧ w'.cell? ⟨gb153, 1, none⟩ = some (.int .i64 ((rd_T59 l0_1 x21_1).f1)) ∧ w'.cell? (ad155.add (t154).toNat) = some (.int .i64 (rd ((rd_T59 l0_1 x21_1).f0) t154))) (ds := [10]) (bts 11 0) (by kernel_rfl) rfl rfl ⟨(blk_cell BK153.out 0).trans rfl, (blk_cell BK153.out 1).trans rfl, ((HB.out.cell (World.block_lt_of_cell? w _ hw155_0)).trans hw155_0)⟩ (fun hHeld => ?_); refine with_tabW sys_Bounds.tab7 sys_Bounds.bits7 (fun HT_ HW_ => ?_)
                        generalize w25.drew = w26 at HO_5 BK148 BK153 HB GG17 hf17_0 hf17_1 hf17_2 hf17_3 hx155_0 hx17_0 hx17_1 hx17_2 hx17_3 hHeld ⊢
                        refine pA 0 (some 29) 0 11 1 HT_ ?_
                        refine pA 1 (some 30) 1 11 3 HT_ ?_
                        refine pA 2 (some 31) 3 11 7 HT_ ?_
                        refine pA 3 (some 32) 7 11 15 HT_ ?_
                        refine pA 5 (some 34) 15 11 47 HT_ ?_
                        refine pA 8 (some 37) 47 11 303 HT_ ?_
                        refine tA3 4 (some 33) 303 11 319 HT_ HW_ hHeld ?_
                        refine pA 6 (some 35) 319 11 383 HT_ ?_
                        refine tA3 7 (some 36) 383 11 511 HT_ HW_ hHeld ?_
                        refine tA3 9 (some 38) 511 11 1023 HT_ HW_ hHeld ?_
                        refine last_ (i := 10) (N := some 39) (bts 11 2047) rfl rfl (one_of HT_.out (by kernel_rfl)) (by decide) (fun K hK => ?_)
                        refine goes_ Tryd.func36 (by kernel_rfl) rfl #[.pointer (some ⟨go17, (t154 : Int).toNat * 4, none⟩), .int .i64 (rd ((rd_T59 l0_1 x21_1).f0) t154), .int .i64 ((rd_T59 l0_1 x21_1).f1)] (by rfl) rfl rfl (by (try simp only [List.map_toArray, List.map_cons, List.map_nil]); first | done | rfl | (simp only [List.length_drop, List.length_take]; rfl)) ?_
                        with_reducible refine (sys_span_take.calls go17 ((t154 : Int).toNat * 4) ((rd_T92 x5_1 t154).f0) ((rd_T92 x5_1 t154).f1) ((rd_T92 x5_1 t154).f2) ((rd_T92 x5_1 t154).f3) (rd ((rd_T59 l0_1 x21_1).f0) t154) ((rd_T59 l0_1 x21_1).f1) t156 t157 t158 t159 _ ⟨hx17_0, hx17_1, hx17_2, hx17_3, hf17_0, hf17_1, hf17_2, hf17_3⟩ A19.out).mono ?_
                        rintro e _ ⟨rfl, w27, hb, rfl⟩
                        refine ⟨_, rfl, ?_⟩
                        replace HO_5 := Aside0.mk (Kd.R_below (by (with_reducible repeat (first | apply Kd.R_alloc | apply Kd.R_drewN | apply Kd.R_drew)); exact HO_5.out) hb)
                        replace BK148 := Aside0.mk (blk_below (g := gb148) (o := .cells #[.int .i64 a0_0, .slice (some ad152) l0_1.length c0_1, .slice A0_2 l0_2.length c0_2] 24 (0, 0)) (by (with_reducible repeat (first | refine blk_drewN ?_ _ | refine blk_drew ?_ | refine blk_alloc ?_ _)); exact BK148.out) hb)
                        replace BK153 := Aside0.mk (blk_below (g := gb153) (o := .cells #[.slice (some ad155) ((rd_T59 l0_1 x21_1).f0).length c152_0, .int .i64 ((rd_T59 l0_1 x21_1).f1)] 59 (0, 0)) (by (with_reducible repeat (first | refine blk_drewN ?_ _ | refine blk_drew ?_ | refine blk_alloc ?_ _)); exact BK153.out) hb)
                        replace HB := Aside0.mk (below_step (by repeat (first | (with_reducible first | exact HB.out | apply below_alloc | apply pw_below_drewN | apply below_drew1 | refine below_set ?_ GE148.out | refine below_set ?_ GE153.out) | exact HB.out)) hb)
                        (try clear hb)
                        (try clear hb2)
                        (try clear hk)
                        (try clear hi)
                        obtain ⟨ce28, hcl28, hM28, hcc28, hfr28⟩ := Kd.R_elem HO_5.out z92 (t154 : Int) (of_decide_eq_true (by first | (with_reducible assumption) | assumption)) (by have h_ : (t154 : Int) < ((x5_1.length : Int) : Int) := of_decide_eq_true (by first | (with_reducible assumption) | assumption); first | exact h_ | (have e_ := (Kd.R_reads' HO_5.out).1; omega) | simpa using h_)
                        obtain rfl := k92_openM hM28
                        have HP28 := (Kd.R_seg HO_5.out (t154 : Int) (of_decide_eq_true (by first | (with_reducible assumption) | assumption)) (by have h_ : (t154 : Int) < ((x5_1.length : Int) : Int) := of_decide_eq_true (by first | (with_reducible assumption) | assumption); first | exact h_ | (have e_ := (Kd.R_reads' HO_5.out).1; omega) | simpa using h_) (seg := [.int .i64 t156, .int .i64 t157, .bool t158, .bool t159]) (j := 0) hcl28 hcc28 (show 4 ≤ 4 from by decide) (x' := (⟨t156, t157, t158, t159⟩ : S92)) (k92_mkM _ _ _ (⟨t156, t157, t158, t159⟩ : S92) ) (fun _ hk => hk)).1
                        rw [← Ny160.out] at HP28
                        have HQ28 := Aside0.mk HP28
                        clear hcl28 hcc28 hfr28 hM28 HP28
                        refine hK.out _ _ ?_
                        clear hK K
                        refine norm_ (a' := ?_) ?_ ?_
                        rotate_left
                        · show Act.put _ (some 39) _ = _
                          simp only [Act.put, List.setIfInBounds_toArray, List.set_cons_zero, List.set_cons_succ, i64_w, i32_w]
                          rfl
                        refine done_ (done_of HT_.out (by kernel_rfl)) ?_
                        try go_wp2
                        have n0_ : Aside0 (Kd.R k92 92 ((((w27.setCell ⟨go17, (t154 : Int).toNat * 4, none⟩ (.int .i64 t156)).setCell ⟨go17, (t154 : Int).toNat * 4 + 1, none⟩ (.int .i64 t157)).setCell ⟨go17, (t154 : Int).toNat * 4 + 2, none⟩ (.bool t158)).setCell ⟨go17, (t154 : Int).toNat * 4 + 3, none⟩ (.bool t159)) w.heap.size (fun _ => True) (.slice (some ⟨go17, 0, none⟩) x5_1.length co17) y160) := ⟨by (with_reducible repeat (first | apply Kd.R_alloc | apply Kd.R_drewN | apply Kd.R_drew)); exact HQ28.out⟩
                        have n1_ : Aside0 (((((w27.setCell ⟨go17, (t154 : Int).toNat * 4, none⟩ (.int .i64 t156)).setCell ⟨go17, (t154 : Int).toNat * 4 + 1, none⟩ (.int .i64 t157)).setCell ⟨go17, (t154 : Int).toNat * 4 + 2, none⟩ (.bool t158)).setCell ⟨go17, (t154 : Int).toNat * 4 + 3, none⟩ (.bool t159)).heap[gb148]? = some (.cells #[.int .i64 a0_0, .slice (some ad152) l0_1.length c0_1, .slice A0_2 l0_2.length c0_2] 24 (0, 0))) := ⟨by (with_reducible repeat (first | refine blk_drewN ?_ _ | refine blk_drew ?_ | refine blk_alloc ?_ _)); refine blk_far ?_ (by have h_ := Kd.R_ne HO_5.out BK148.out (by decide); intro e_; exact h_ (by rw [e_]; rfl)) _; (with_reducible repeat (first | refine blk_drewN ?_ _ | refine blk_drew ?_ | refine blk_alloc ?_ _)); refine blk_far ?_ (by have h_ := Kd.R_ne HO_5.out BK148.out (by decide); intro e_; exact h_ (by rw [e_]; rfl)) _; (with_reducible repeat (first | refine blk_drewN ?_ _ | refine blk_drew ?_ | refine blk_alloc ?_ _)); refine blk_far ?_ (by have h_ := Kd.R_ne HO_5.out BK148.out (by decide); intro e_; exact h_ (by rw [e_]; rfl)) _; (with_reducible repeat (first | refine blk_drewN ?_ _ | refine blk_drew ?_ | refine blk_alloc ?_ _)); refine blk_far ?_ (by have h_ := Kd.R_ne HO_5.out BK148.out (by decide); intro e_; exact h_ (by rw [e_]; rfl)) _; (with_reducible repeat (first | refine blk_drewN ?_ _ | refine blk_drew ?_ | refine blk_alloc ?_ _)); exact BK148.out⟩
                        have n2_ : Aside0 (((((w27.setCell ⟨go17, (t154 : Int).toNat * 4, none⟩ (.int .i64 t156)).setCell ⟨go17, (t154 : Int).toNat * 4 + 1, none⟩ (.int .i64 t157)).setCell ⟨go17, (t154 : Int).toNat * 4 + 2, none⟩ (.bool t158)).setCell ⟨go17, (t154 : Int).toNat * 4 + 3, none⟩ (.bool t159)).heap[gb153]? = some (.cells #[.slice (some ad155) ((rd_T59 l0_1 x21_1).f0).length c152_0, .int .i64 ((rd_T59 l0_1 x21_1).f1)] 59 (0, 0))) := ⟨by (with_reducible repeat (first | refine blk_drewN ?_ _ | refine blk_drew ?_ | refine blk_alloc ?_ _)); refine blk_far ?_ (by have h_ := Kd.R_ne HO_5.out BK153.out (by decide); intro e_; exact h_ (by rw [e_]; rfl)) _; (with_reducible repeat (first | refine blk_drewN ?_ _ | refine blk_drew ?_ | refine blk_alloc ?_ _)); refine blk_far ?_ (by have h_ := Kd.R_ne HO_5.out BK153.out (by decide); intro e_; exact h_ (by rw [e_]; rfl)) _; (with_reducible repeat (first | refine blk_drewN ?_ _ | refine blk_drew ?_ | refine blk_alloc ?_ _)); refine blk_far ?_ (by have h_ := Kd.R_ne HO_5.out BK153.out (by decide); intro e_; exact h_ (by rw [e_]; rfl)) _; (with_reducible repeat (first | refine blk_drewN ?_ _ | refine blk_drew ?_ | refine blk_alloc ?_ _)); refine blk_far ?_ (by have h_ := Kd.R_ne HO_5.out BK153.out (by decide); intro e_; exact h_ (by rw [e_]; rfl)) _; (with_reducible repeat (first | refine blk_drewN ?_ _ | refine blk_drew ?_ | refine blk_alloc ?_ _)); exact BK153.out⟩
                        have n3_ : Aside0 (Below w.heap.size w ((((w27.setCell ⟨go17, (t154 : Int).toNat * 4, none⟩ (.int .i64 t156)).setCell ⟨go17, (t154 : Int).toNat * 4 + 1, none⟩ (.int .i64 t157)).setCell ⟨go17, (t154 : Int).toNat * 4 + 2, none⟩ (.bool t158)).setCell ⟨go17, (t154 : Int).toNat * 4 + 3, none⟩ (.bool t159))) := ⟨by repeat (first | (with_reducible first | exact HB.out | apply below_alloc | apply pw_below_drewN | apply below_drew1 | refine below_set ?_ GB17.out | refine below_set ?_ GB17.out | refine below_set ?_ GB17.out | refine below_set ?_ GB17.out | refine below_set ?_ GE148.out | refine below_set ?_ GE153.out) | exact HB.out)⟩
                        (try clear HO_5)
                        (try clear BK148)
                        (try clear BK153)
                        (try clear HB)
                        generalize ((((w27.setCell ⟨go17, (t154 : Int).toNat * 4, none⟩ (.int .i64 t156)).setCell ⟨go17, (t154 : Int).toNat * 4 + 1, none⟩ (.int .i64 t157)).setCell ⟨go17, (t154 : Int).toNat * 4 + 2, none⟩ (.bool t158)).setCell ⟨go17, (t154 : Int).toNat * 4 + 3, none⟩ (.bool t159)) = w29 at n0_ n1_ n2_ n3_ ⊢
                        have HO_5 := n0_
                        have BK148 := n1_
                        have BK153 := n2_
                        have HB := n3_
                        clear n0_ n1_ n2_ n3_
                        replace HO_5 := Aside0.mk (Kd.R_drew HO_5.out)
                        replace BK148 := Aside0.mk (blk_drew BK148.out)
                        replace BK153 := Aside0.mk (blk_drew BK153.out)
                        replace HB := Aside0.mk (below_drew1 HB.out)
                        have p20 : 0 ≤ (t154 : Int) := of_decide_eq_true (by first | (with_reducible assumption) | assumption)
                        have q20 : (t154 : Int) < ((x5_1.length : Int) : Int) := of_decide_eq_true (by first | (with_reducible assumption) | assumption)
                        obtain ⟨ce20, hcl20, hM20, hcc20, hfr20⟩ := Kd.R_elem HO_5.out z92 (t154 : Int) p20 q20
                        obtain rfl := k92_openM hM20
                        have hx20_0 : World.cell? _ ⟨go17, (t154 : Int).toNat * 4, none⟩ = some (.int .i64 ((rd_T92 y160 t154).f0)) := hcc20 0 _ rfl
                        have hx20_1 : World.cell? _ ⟨go17, (t154 : Int).toNat * 4 + 1, none⟩ = some (.int .i64 ((rd_T92 y160 t154).f1)) := hcc20 1 _ rfl
                        have hx20_2 : World.cell? _ ⟨go17, (t154 : Int).toNat * 4 + 2, none⟩ = some (.bool ((rd_T92 y160 t154).f2)) := hcc20 2 _ rfl
                        have hx20_3 : World.cell? _ ⟨go17, (t154 : Int).toNat * 4 + 3, none⟩ = some (.bool ((rd_T92 y160 t154).f3)) := hcc20 3 _ rfl
                        have hf20_0 : World.frozen? _ ⟨go17, (t154 : Int).toNat * 4, none⟩ = false := hfr20 0
                        have hf20_1 : World.frozen? _ ⟨go17, (t154 : Int).toNat * 4 + 1, none⟩ = false := hfr20 1
                        have hf20_2 : World.frozen? _ ⟨go17, (t154 : Int).toNat * 4 + 2, none⟩ = false := hfr20 2
                        have hf20_3 : World.frozen? _ ⟨go17, (t154 : Int).toNat * 4 + 3, none⟩ = false := hfr20 3
                        clear hcl20 hcc20 hfr20 hM20
                        replace p20 := eq_true p20
                        replace q20 := eq_true q20
                        have p161 : 0 ≤ (t154 : Int) := of_decide_eq_true (by first | (with_reducible assumption) | assumption)
                        have q161 : t154 < (((rd_T59 l0_1 x21_1).f0).length : Int) := of_decide_eq_true (by first | (with_reducible assumption) | assumption)
                        obtain ⟨ad161, e161, hx161_0⟩ := Kd.at_int HR152_0.out t154 p161 q161
                        have hw161_0 := hx161_0
                        obtain rfl : ad155 = ad161 := (by injection e161)
                        replace hx161_0 := (HB.out.cell (World.block_lt_of_cell? w _ hx161_0)).trans hx161_0
                        replace p161 := eq_true p161
                        replace q161 := eq_true q161
                        refine start_ (n := 13) (S := fun w' => w'.cell? ⟨gb153, 0, none⟩ = some (.slice (some ad155) ((rd_T59 l0_1 x21_1).f0).length c152_0) ∧ w'.cell? ⟨gb153, 1, none⟩ = some (.int .i64 ((rd_T59 l0_1 x21_1).f1)) ∧ w'.cell? (ad155.add (t154).toNat) = some (.int .i64 (rd ((rd_T59 l0_1 x21_1).f0) t154))) (ds := [12]) (bts 13 0) (by kernel_rfl) rfl rfl ⟨(blk_cell BK153.out 0).trans rfl, (blk_cell BK153.out 1).trans rfl, ((HB.out.cell (World.block_lt_of_cell? w _ hw161_0)).trans hw161_0)⟩ (fun hHeld => ?_); refine with_tabW sys_Bounds.tab8 sys_Bounds.bits8 (fun HT_ HW_ => ?_)
                        generalize w29.drew = w30 at HO_5 BK148 BK153 HB HQ28 hf20_0 hf20_1 hf20_2 hf20_3 hx161_0 hx20_0 hx20_1 hx20_2 hx20_3 hHeld ⊢
                        refine pA 0 (some 40) 0 13 1 HT_ ?_
                        refine pA 1 (some 41) 1 13 3 HT_ ?_
                        refine pA 2 (some 42) 3 13 7 HT_ ?_
                        refine pA 3 (some 43) 7 13 15 HT_ ?_
                        refine pA 5 (some 45) 15 13 47 HT_ ?_
                        refine pA 9 (some 49) 47 13 559 HT_ ?_
                        refine tA3 4 (some 44) 559 13 575 HT_ HW_ hHeld ?_
                        refine pA 6 (some 46) 575 13 639 HT_ ?_
                        refine tA3 7 (some 47) 639 13 767 HT_ HW_ hHeld ?_
                        refine pA 8 (some 48) 767 13 1023 HT_ ?_
                        refine tA3 10 (some 50) 1023 13 2047 HT_ HW_ hHeld ?_
                        refine pA 11 (some 51) 2047 13 4095 HT_ ?_
                        refine last_ (i := 12) (N := some 52) (bts 13 8191) rfl rfl (one_of HT_.out (by kernel_rfl)) (by decide) (fun K hK => ?_)
                        refine goes_ Tryd.func36 (by kernel_rfl) rfl #[.pointer (some ⟨go17, (t154 : Int).toNat * 4, none⟩), .int .i64 (wrap64 (-(rd ((rd_T59 l0_1 x21_1).f0) t154))), .int .i64 (wrap64 (-((rd_T59 l0_1 x21_1).f1)))] (by rfl) rfl rfl (by (try simp only [List.map_toArray, List.map_cons, List.map_nil]); first | done | rfl | (simp only [List.length_drop, List.length_take]; rfl)) ?_
                        with_reducible refine (sys_span_take.calls go17 ((t154 : Int).toNat * 4) ((rd_T92 y160 t154).f0) ((rd_T92 y160 t154).f1) ((rd_T92 y160 t154).f2) ((rd_T92 y160 t154).f3) (wrap64 (-(rd ((rd_T59 l0_1 x21_1).f0) t154))) (wrap64 (-((rd_T59 l0_1 x21_1).f1))) t162 t163 t164 t165 _ ⟨hx20_0, hx20_1, hx20_2, hx20_3, hf20_0, hf20_1, hf20_2, hf20_3⟩ A21.out).mono ?_
                        rintro e _ ⟨rfl, w31, hb, rfl⟩
                        refine ⟨_, rfl, ?_⟩
                        replace HO_5 := Aside0.mk (Kd.R_below (by (with_reducible repeat (first | apply Kd.R_alloc | apply Kd.R_drewN | apply Kd.R_drew)); exact HO_5.out) hb)
                        replace BK148 := Aside0.mk (blk_below (g := gb148) (o := .cells #[.int .i64 a0_0, .slice (some ad152) l0_1.length c0_1, .slice A0_2 l0_2.length c0_2] 24 (0, 0)) (by (with_reducible repeat (first | refine blk_drewN ?_ _ | refine blk_drew ?_ | refine blk_alloc ?_ _)); exact BK148.out) hb)
                        replace BK153 := Aside0.mk (blk_below (g := gb153) (o := .cells #[.slice (some ad155) ((rd_T59 l0_1 x21_1).f0).length c152_0, .int .i64 ((rd_T59 l0_1 x21_1).f1)] 59 (0, 0)) (by (with_reducible repeat (first | refine blk_drewN ?_ _ | refine blk_drew ?_ | refine blk_alloc ?_ _)); exact BK153.out) hb)
                        replace HB := Aside0.mk (below_step (by repeat (first | (with_reducible first | exact HB.out | apply below_alloc | apply pw_below_drewN | apply below_drew1 | refine below_set ?_ GE148.out | refine below_set ?_ GE153.out) | exact HB.out)) hb)
                        (try clear hb)
                        (try clear hb2)
                        (try clear hk)
                        (try clear hi)
                        obtain ⟨ce32, hcl32, hM32, hcc32, hfr32⟩ := Kd.R_elem HO_5.out z92 (t154 : Int) (of_decide_eq_true (by first | (with_reducible assumption) | assumption)) (by have h_ : (t154 : Int) < ((x5_1.length : Int) : Int) := of_decide_eq_true (by first | (with_reducible assumption) | assumption); first | exact h_ | (have e_ := (Kd.R_reads' HO_5.out).1; omega) | simpa using h_)
                        obtain rfl := k92_openM hM32
                        have HP32 := (Kd.R_seg HO_5.out (t154 : Int) (of_decide_eq_true (by first | (with_reducible assumption) | assumption)) (by have h_ : (t154 : Int) < ((x5_1.length : Int) : Int) := of_decide_eq_true (by first | (with_reducible assumption) | assumption); first | exact h_ | (have e_ := (Kd.R_reads' HO_5.out).1; omega) | simpa using h_) (seg := [.int .i64 t162, .int .i64 t163, .bool t164, .bool t165]) (j := 0) hcl32 hcc32 (show 4 ≤ 4 from by decide) (x' := (⟨t162, t163, t164, t165⟩ : S92)) (k92_mkM _ _ _ (⟨t162, t163, t164, t165⟩ : S92) ) (fun _ hk => hk)).1
                        rw [← Ny166.out] at HP32
                        have HQ32 := Aside0.mk HP32
                        clear hcl32 hcc32 hfr32 hM32 HP32
                        refine hK.out _ _ ?_
                        clear hK K
                        refine norm_ (a' := ?_) ?_ ?_
                        rotate_left
                        · show Act.put _ (some 52) _ = _
                          simp only [Act.put, List.setIfInBounds_toArray, List.set_cons_zero, List.set_cons_succ, i64_w, i32_w]
                          rfl
                        refine done_ (done_of HT_.out (by kernel_rfl)) ?_
                        try go_wp2
                        go_roundg k1
                        case measure => have := HK1.out; omega
                        case rel => exact ⟨(y166), (wrap64 (x21_1 + 1)), (by first | rfl | (simp; done) | (simp [*]; done) | (simp [bne_nil_, beq_nil_]; done)), H', ⟨by have := HK1.out; omega⟩, ⟨by (with_reducible repeat (first | apply Kd.R_alloc | apply Kd.R_drewN | apply Kd.R_drew)); exact HQ32.out⟩, ⟨by (with_reducible repeat (first | refine blk_drewN ?_ _ | refine blk_drew ?_ | refine blk_alloc ?_ _)); refine blk_far ?_ (by have h_ := Kd.R_ne HO_5.out BK148.out (by decide); intro e_; exact h_ (by rw [e_]; rfl)) _; (with_reducible repeat (first | refine blk_drewN ?_ _ | refine blk_drew ?_ | refine blk_alloc ?_ _)); refine blk_far ?_ (by have h_ := Kd.R_ne HO_5.out BK148.out (by decide); intro e_; exact h_ (by rw [e_]; rfl)) _; (with_reducible repeat (first | refine blk_drewN ?_ _ | refine blk_drew ?_ | refine blk_alloc ?_ _)); refine blk_far ?_ (by have h_ := Kd.R_ne HO_5.out BK148.out (by decide); intro e_; exact h_ (by rw [e_]; rfl)) _; (with_reducible repeat (first | refine blk_drewN ?_ _ | refine blk_drew ?_ | refine blk_alloc ?_ _)); refine blk_far ?_ (by have h_ := Kd.R_ne HO_5.out BK148.out (by decide); intro e_; exact h_ (by rw [e_]; rfl)) _; (with_reducible repeat (first | refine blk_drewN ?_ _ | refine blk_drew ?_ | refine blk_alloc ?_ _)); exact BK148.out⟩, ⟨by repeat (first | (with_reducible first | exact HB.out | apply below_alloc | apply pw_below_drewN | apply below_drew1 | refine below_set ?_ GB17.out | refine below_set ?_ GB17.out | refine below_set ?_ GB17.out | refine below_set ?_ GB17.out | refine below_set ?_ GE148.out | refine below_set ?_ GE153.out) | exact HB.out)⟩⟩
                      · rw [if_neg c18] at H
                        exact absurd H (by simp)
                    · rw [if_neg c16] at H
                      exact absurd H (by simp)
                  · rw [if_neg c15] at H
                    exact absurd H (by simp)
                · rw [if_neg c14] at H
                  have c14b0 : decide (0 ≤ t154) = false := decide_eq_false c14
                  clear c14
                  have H' := Aside0.mk H
                  clear H
                  have p152 : 0 ≤ (x21_1 : Int) := of_decide_eq_true (by first | (with_reducible assumption) | assumption)
                  have q152 : x21_1 < (l0_1.length : Int) := of_decide_eq_true (by first | (with_reducible assumption) | assumption)
                  obtain ⟨ad152, A152_0, c152_0, e152, hx152_0, hx152_1, hl152_0, hi152_0⟩ := at_T59 HR0_1.out x21_1 p152 q152
                  cases e152
                  replace hx152_0 := (HB.out.cell (World.block_lt_of_cell? w _ hx152_0)).trans hx152_0
                  replace hx152_1 := (HB.out.cell (World.block_lt_of_cell? w _ hx152_1)).trans hx152_1
                  have HR152_0 := Aside0.mk hi152_0
                  have HC152_0 := Aside0.mk hl152_0
                  clear hi152_0 hl152_0
                  replace p152 := eq_true p152
                  replace q152 := eq_true q152
                  go_wp2_with (first | ((with_reducible refine gate_dst (N := 7) rfl ?_); refine bxE 7 #[.slice none 0 0, .int .i64 0] 59 ?_; intro gb153 hg w33 hbox hb; replace HO_5 := Aside0.mk (Kd.R_below (by (with_reducible repeat (first | apply Kd.R_alloc | apply Kd.R_drewN | apply Kd.R_drew)); exact HO_5.out) hb); have BK153 := Aside0.mk (hbox); have GW153 := Aside0.mk ((by rw [hg]; exact (below_size (by repeat (first | (with_reducible first | exact HB.out | apply below_alloc | apply pw_below_drewN | apply below_drew1 | refine below_set ?_ GE148.out) | exact HB.out))) : w.heap.size ≤ gb153)); have GE153 := Aside0.mk ((by rw [hg]; exact (below_size (by repeat (first | (with_reducible first | exact HB.out | apply below_alloc | apply pw_below_drewN | apply below_drew1 | refine below_set ?_ GE148.out) | exact HB.out))) : w.heap.size ≤ gb153)); replace HB := Aside0.mk (below_step (by repeat (first | (with_reducible first | exact HB.out | apply below_alloc | apply pw_below_drewN | apply below_drew1 | refine below_set ?_ GE148.out) | exact HB.out)) hb); have NB148_153 := Aside0.mk ((by rw [hg]; exact Nat.ne_of_lt (blk_lt (g := gb148) (o := .cells #[.int .i64 a0_0, .slice (some ad152) l0_1.length c0_1, .slice A0_2 l0_2.length c0_2] 24 (0, 0)) (by (with_reducible repeat (first | refine blk_drewN ?_ _ | refine blk_drew ?_ | refine blk_alloc ?_ _)); exact BK148.out)) : gb148 ≠ gb153)); have NB153_148 := Aside0.mk ((by rw [hg]; exact Nat.ne_of_gt (blk_lt (g := gb148) (o := .cells #[.int .i64 a0_0, .slice (some ad152) l0_1.length c0_1, .slice A0_2 l0_2.length c0_2] 24 (0, 0)) (by (with_reducible repeat (first | refine blk_drewN ?_ _ | refine blk_drew ?_ | refine blk_alloc ?_ _)); exact BK148.out)) : gb153 ≠ gb148)); replace BK148 := Aside0.mk (blk_below (g := gb148) (o := .cells #[.int .i64 a0_0, .slice (some ad152) l0_1.length c0_1, .slice A0_2 l0_2.length c0_2] 24 (0, 0)) (by (with_reducible repeat (first | refine blk_drewN ?_ _ | refine blk_drew ?_ | refine blk_alloc ?_ _)); exact BK148.out) hb); clear hb hbox hg; have hnb34 := NB153_148.out; have hnc34 := NB148_153.out; obtain ⟨hcz35_0, hcz35_1, hfz35_0, hfz35_1⟩ := cL2 BK153) | ((with_reducible refine gate_dst (N := 26) rfl ?_); refine gsM (some 26) Tryd.func35 #[.agg #[.slice A152_0 ((rd_T59 l0_1 x21_1).f0).length c152_0, .int .i64 ((rd_T59 l0_1 x21_1).f1)]] ?_; (with_reducible refine (sys_alone.calls k1 _ _ ((rd_T59 l0_1 x21_1).f0) ((rd_T59 l0_1 x21_1).f1) t154 _ ?side1 ?side2 A13.out).mono ?_); (case side1 => exact Kd.C_below HR152_0.out (by repeat (first | (with_reducible first | exact HB.out | apply below_alloc | apply pw_below_drewN | apply below_drew1 | refine below_set ?_ GE148.out | refine below_set ?_ GE153.out) | exact HB.out))); (case side2 => exact HC152_0.out); rintro e w36 ⟨rfl, hb⟩; refine ⟨_, rfl, ?_⟩; replace HO_5 := Aside0.mk (Kd.R_below (by (with_reducible repeat (first | apply Kd.R_alloc | apply Kd.R_drewN | apply Kd.R_drew)); exact (Kd.R_mono (Kd.R_far (p := ⟨gb153, 1, none⟩) (Kd.R_far (p := ⟨gb153, 0, none⟩) (Kd.R_types HO_5.out BK153.out (by decide)) (fun _ hk => hk.2) (.slice A152_0 ((rd_T59 l0_1 x21_1).f0).length c152_0)) (fun _ hk => hk.2) (.int .i64 ((rd_T59 l0_1 x21_1).f1))) (fun _ h_ => h_.1))) hb); replace BK148 := Aside0.mk (blk_below (g := gb148) (o := .cells #[.int .i64 a0_0, .slice (some ad152) l0_1.length c0_1, .slice A0_2 l0_2.length c0_2] 24 (0, 0)) (by (with_reducible repeat (first | refine blk_drewN ?_ _ | refine blk_drew ?_ | refine blk_alloc ?_ _)); refine blk_far ?_ NB148_153.out _; (with_reducible repeat (first | refine blk_drewN ?_ _ | refine blk_drew ?_ | refine blk_alloc ?_ _)); refine blk_far ?_ NB148_153.out _; (with_reducible repeat (first | refine blk_drewN ?_ _ | refine blk_drew ?_ | refine blk_alloc ?_ _)); exact BK148.out) hb); replace BK153 := Aside0.mk (blk_below (g := gb153) (o := .cells #[.slice A152_0 ((rd_T59 l0_1 x21_1).f0).length c152_0, .int .i64 ((rd_T59 l0_1 x21_1).f1)] 59 (0, 0)) (by (with_reducible repeat (first | refine blk_drewN ?_ _ | refine blk_drew ?_ | refine blk_alloc ?_ _)); refine blk_put (cs := #[.slice A152_0 ((rd_T59 l0_1 x21_1).f0).length c152_0, .int .i64 0]) ?_ 1 _ rfl; (with_reducible repeat (first | refine blk_drewN ?_ _ | refine blk_drew ?_ | refine blk_alloc ?_ _)); refine blk_put (cs := #[.slice none 0 0, .int .i64 0]) ?_ 0 _ rfl; (with_reducible repeat (first | refine blk_drewN ?_ _ | refine blk_drew ?_ | refine blk_alloc ?_ _)); exact BK153.out) hb); replace HB := Aside0.mk (below_step (by repeat (first | (with_reducible first | exact HB.out | apply below_alloc | apply pw_below_drewN | apply below_drew1 | refine below_set ?_ GE148.out | refine below_set ?_ GE153.out) | exact HB.out)) hb); (try clear hb); (try clear hb2); (try clear hk); (try clear hi)))
                  go_roundg k1
                  case measure => have := HK1.out; omega
                  case rel => exact ⟨(x5_1), (wrap64 (x21_1 + 1)), (by first | rfl | (simp; done) | (simp [*]; done) | (simp [bne_nil_, beq_nil_]; done)), H', ⟨by have := HK1.out; omega⟩, ⟨by (with_reducible repeat (first | apply Kd.R_alloc | apply Kd.R_drewN | apply Kd.R_drew)); exact HO_5.out⟩, ⟨by (with_reducible repeat (first | refine blk_drewN ?_ _ | refine blk_drew ?_ | refine blk_alloc ?_ _)); exact BK148.out⟩, ⟨by repeat (first | (with_reducible first | exact HB.out | apply below_alloc | apply pw_below_drewN | apply below_drew1 | refine below_set ?_ GE148.out | refine below_set ?_ GE153.out) | exact HB.out)⟩⟩
              · rw [if_neg c12] at H
                exact absurd H (by simp)
            · rw [if_neg c11] at H
              exact absurd H (by simp)
          · rw [if_neg c10] at H
            have c10b0 : decide (x21_1 < (l0_1.length : Int)) = false := decide_eq_false c10
            clear c10
            have H' := Aside0.mk H
            clear H
            obtain ⟨hcz37_0, hcz37_1, hcz37_2, hfz37_0, hfz37_1, hfz37_2⟩ := cL3 BK148
            go_wp2
            go_loopg [57] k1 (fun kq v57 w' => ∃ (x5_2 : List (S92)) (x57_2 : Int), v57 = .int .i64 x57_2 ∧ Aside0 (sys_Bounds.l1 kq x5_2 l0_2 (l0_2.length : Int) x57_2 = some (r1, r2, r3)) ∧ Aside0 (kq ≤ k1) ∧ Aside0 (Kd.R k92 92 w' w.heap.size (fun _ => True) v150 x5_2) ∧ Aside0 (w'.heap[gb148]? = some (.cells #[.int .i64 a0_0, (.slice A0_1 l0_1.length c0_1), (.slice A0_2 l0_2.length c0_2)] 24 (0, 0))) ∧ Aside0 (Below w.heap.size w w'))
            case atStart => exact ⟨(x5_1), (0), (by first | rfl | (simp; done) | (simp [*]; done) | (simp [bne_nil_, beq_nil_]; done)), H', ⟨Nat.le_refl _⟩, ⟨by (with_reducible repeat (first | apply Kd.R_alloc | apply Kd.R_drewN | apply Kd.R_drew)); exact HO_5.out⟩, ⟨by (with_reducible repeat (first | refine blk_drewN ?_ _ | refine blk_drew ?_ | refine blk_alloc ?_ _)); exact BK148.out⟩, ⟨by repeat (first | (with_reducible first | exact HB.out | apply below_alloc | apply pw_below_drewN | apply below_drew1 | refine below_set ?_ GE148.out) | exact HB.out)⟩⟩
            case round =>
              clear H'
              try clear c1
              try clear p1
              try clear q1
              try clear hx1
              try clear hf1
              try clear c2
              try clear p2
              try clear q2
              try clear hx2
              try clear hf2
              try clear c3
              try clear c3b0
              try clear c3b1
              try clear c4
              try clear c4b0
              try clear c4b1
              try clear p6
              try clear c10
              try clear c10b0
              try clear c11
              try clear c11b0
              try clear c12
              try clear c12b0
              try clear c14
              try clear c14b0
              try clear c15
              try clear c15b0
              try clear p15
              try clear q15
              try clear hx15
              try clear c16
              try clear c16b0
              try clear p16
              try clear q16
              try clear hx16
              try clear c17
              try clear p17
              try clear q17
              try clear hx17
              try clear hf17
              try clear c18
              try clear c18b0
              try clear c20
              try clear p20
              try clear q20
              try clear hx20
              try clear hf20
              try clear c23
              try clear c28
              try clear c32
              try clear c34
              try clear c35
              try clear c36
              try clear hcz24_0
              try clear hcz24_1
              try clear hcz35_0
              try clear hcz35_1
              try clear hcz37_0
              try clear hcz37_1
              try clear hcz37_2
              try clear hcz6_0
              try clear hcz6_1
              try clear hcz6_2
              try clear hcz9_0
              try clear hcz9_1
              try clear hcz9_2
              try clear hfz24_0
              try clear hfz24_1
              try clear hfz35_0
              try clear hfz35_1
              try clear hfz37_0
              try clear hfz37_1
              try clear hfz37_2
              try clear hfz6_0
              try clear hfz6_1
              try clear hfz6_2
              try clear hfz9_0
              try clear hfz9_1
              try clear hfz9_2
              try clear hx152_0
              try clear hx152_1
              try clear hx155_0
              try clear hx161_0
              try clear hx17_0
              try clear hx17_1
              try clear hx17_2
              try clear hx17_3
              try clear hx20_0
              try clear hx20_1
              try clear hx20_2
              try clear hx20_3
              try clear p152
              try clear p155
              try clear p161
              try clear p17
              try clear p2
              try clear p20
              try clear q152
              try clear q155
              try clear q161
              try clear q17
              try clear q20
              obtain ⟨x5_2, x57_2, rfl, HA, HK2, HO_5, BK148, HB⟩ := hrel
              cases gk with
              | zero => exact absurd HA.out (by simp [sys_Bounds.l1])
              | succ k2 =>
                have H := HA.out
                clear HA
                simp only [sys_Bounds.l1] at H
                by_cases c38 : x57_2 < (l0_2.length : Int)
                · rw [if_pos c38] at H
                  have c38b0 : decide (x57_2 < (l0_2.length : Int)) = true := decide_eq_true c38
                  clear c38
                  by_cases c39 : 0 ≤ x57_2
                  · rw [if_pos c39] at H
                    have c39b0 : decide (0 ≤ x57_2) = true := decide_eq_true c39
                    clear c39
                    by_cases c40 : x57_2 < (l0_2.length : Int)
                    · rw [if_pos c40] at H
                      have c40b0 : decide (x57_2 < (l0_2.length : Int)) = true := decide_eq_true c40
                      clear c40
                      replace H := Option.bind_eq_some_iff.mp H
                      obtain ⟨t169, A410, H⟩ := H
                      have A41 := Aside0.mk A410
                      clear A410
                      by_cases c42 : t169 ≥ 0
                      · rw [if_pos c42] at H
                        have c42b0 : decide (0 ≤ t169) = true := decide_eq_true c42
                        clear c42
                        by_cases c43 : 0 ≤ t169
                        · rw [if_pos c43] at H
                          have c43b0 : decide (0 ≤ t169) = true := decide_eq_true c43
                          clear c43
                          by_cases c44 : t169 < (x5_2.length : Int)
                          · rw [if_pos c44] at H
                            have c44b0 : decide (t169 < (x5_2.length : Int)) = true := decide_eq_true c44
                            clear c44
                            by_cases c46 : t169 < (((rd_T59 l0_2 x57_2).f0).length : Int)
                            · rw [if_pos c46] at H
                              have c46b0 : decide (t169 < (((rd_T59 l0_2 x57_2).f0).length : Int)) = true := decide_eq_true c46
                              clear c46
                              replace H := Option.bind_eq_some_iff.mp H
                              obtain ⟨⟨t171, t172, t173, t174⟩, A470, H⟩ := H
                              dsimp only at H
                              have A47 := Aside0.mk A470
                              clear A470
                              obtain ⟨y175, hy175⟩ : ∃ y_ : List (S92), y_ = (x5_2.set (t169 : Int).toNat (⟨t171, t172, t173, t174⟩ : S92)) := ⟨_, rfl⟩
                              replace H : (sys_Bounds.l1 k2 y175 l0_2 (l0_2.length : Int) (wrap64 (x57_2 + 1))) = some (r1, r2, r3) := by first | (rw [hy175]; with_reducible exact H) | (have H2_ := (Option.bind_some _ _).symm.trans H; rw [hy175]; with_reducible exact H2_) | (have H2_ := (Option.bind_some _ _).symm.trans H; with_reducible exact H2_) | with_reducible exact H | (rw [hy175]; exact H) | exact H
                              have Ny175 := Aside0.mk hy175
                              clear hy175
                              have H' := Aside0.mk H
                              clear H
                              have p167 : 0 ≤ (x57_2 : Int) := of_decide_eq_true (by first | (with_reducible assumption) | assumption)
                              have q167 : x57_2 < (l0_2.length : Int) := of_decide_eq_true (by first | (with_reducible assumption) | assumption)
                              obtain ⟨ad167, A167_0, c167_0, e167, hx167_0, hx167_1, hl167_0, hi167_0⟩ := at_T59 HR0_2.out x57_2 p167 q167
                              cases e167
                              replace hx167_0 := (HB.out.cell (World.block_lt_of_cell? w _ hx167_0)).trans hx167_0
                              replace hx167_1 := (HB.out.cell (World.block_lt_of_cell? w _ hx167_1)).trans hx167_1
                              have HR167_0 := Aside0.mk hi167_0
                              have HC167_0 := Aside0.mk hl167_0
                              clear hi167_0 hl167_0
                              replace p167 := eq_true p167
                              replace q167 := eq_true q167
                              try go_wp2_with (first | ((with_reducible refine gate_dst (N := 10) rfl ?_); refine bxE 10 #[.slice none 0 0, .int .i64 0] 59 ?_; intro gb168 hg w48 hbox hb; replace HO_5 := Aside0.mk (Kd.R_below (by (with_reducible repeat (first | apply Kd.R_alloc | apply Kd.R_drewN | apply Kd.R_drew)); exact HO_5.out) hb); have BK168 := Aside0.mk (hbox); have GW168 := Aside0.mk ((by rw [hg]; exact (below_size (by repeat (first | (with_reducible first | exact HB.out | apply below_alloc | apply pw_below_drewN | apply below_drew1 | refine below_set ?_ GE148.out) | exact HB.out))) : w.heap.size ≤ gb168)); have GE168 := Aside0.mk ((by rw [hg]; exact (below_size (by repeat (first | (with_reducible first | exact HB.out | apply below_alloc | apply pw_below_drewN | apply below_drew1 | refine below_set ?_ GE148.out) | exact HB.out))) : w.heap.size ≤ gb168)); replace HB := Aside0.mk (below_step (by repeat (first | (with_reducible first | exact HB.out | apply below_alloc | apply pw_below_drewN | apply below_drew1 | refine below_set ?_ GE148.out) | exact HB.out)) hb); have NB148_168 := Aside0.mk ((by rw [hg]; exact Nat.ne_of_lt (blk_lt (g := gb148) (o := .cells #[.int .i64 a0_0, .slice A0_1 l0_1.length c0_1, .slice (some ad167) l0_2.length c0_2] 24 (0, 0)) (by (with_reducible repeat (first | refine blk_drewN ?_ _ | refine blk_drew ?_ | refine blk_alloc ?_ _)); exact BK148.out)) : gb148 ≠ gb168)); have NB168_148 := Aside0.mk ((by rw [hg]; exact Nat.ne_of_gt (blk_lt (g := gb148) (o := .cells #[.int .i64 a0_0, .slice A0_1 l0_1.length c0_1, .slice (some ad167) l0_2.length c0_2] 24 (0, 0)) (by (with_reducible repeat (first | refine blk_drewN ?_ _ | refine blk_drew ?_ | refine blk_alloc ?_ _)); exact BK148.out)) : gb168 ≠ gb148)); replace BK148 := Aside0.mk (blk_below (g := gb148) (o := .cells #[.int .i64 a0_0, .slice A0_1 l0_1.length c0_1, .slice (some ad167) l0_2.length c0_2] 24 (0, 0)) (by (with_reducible repeat (first | refine blk_drewN ?_ _ | refine blk_drew ?_ | refine blk_alloc ?_ _)); exact BK148.out) hb); clear hb hbox hg; have hnb49 := NB168_148.out; have hnc49 := NB148_168.out; obtain ⟨hcz50_0, hcz50_1, hfz50_0, hfz50_1⟩ := cL2 BK168) | ((with_reducible refine gate_dst (N := 62) rfl ?_); refine gsM (some 62) Tryd.func35 #[.agg #[.slice A167_0 ((rd_T59 l0_2 x57_2).f0).length c167_0, .int .i64 ((rd_T59 l0_2 x57_2).f1)]] ?_; (with_reducible refine (sys_alone.calls k2 _ _ ((rd_T59 l0_2 x57_2).f0) ((rd_T59 l0_2 x57_2).f1) t169 _ ?side1 ?side2 A41.out).mono ?_); (case side1 => exact Kd.C_below HR167_0.out (by repeat (first | (with_reducible first | exact HB.out | apply below_alloc | apply pw_below_drewN | apply below_drew1 | refine below_set ?_ GE148.out | refine below_set ?_ GE168.out) | exact HB.out))); (case side2 => exact HC167_0.out); rintro e w51 ⟨rfl, hb⟩; refine ⟨_, rfl, ?_⟩; replace HO_5 := Aside0.mk (Kd.R_below (by (with_reducible repeat (first | apply Kd.R_alloc | apply Kd.R_drewN | apply Kd.R_drew)); exact (Kd.R_mono (Kd.R_far (p := ⟨gb168, 1, none⟩) (Kd.R_far (p := ⟨gb168, 0, none⟩) (Kd.R_types HO_5.out BK168.out (by decide)) (fun _ hk => hk.2) (.slice A167_0 ((rd_T59 l0_2 x57_2).f0).length c167_0)) (fun _ hk => hk.2) (.int .i64 ((rd_T59 l0_2 x57_2).f1))) (fun _ h_ => h_.1))) hb); replace BK148 := Aside0.mk (blk_below (g := gb148) (o := .cells #[.int .i64 a0_0, .slice A0_1 l0_1.length c0_1, .slice (some ad167) l0_2.length c0_2] 24 (0, 0)) (by (with_reducible repeat (first | refine blk_drewN ?_ _ | refine blk_drew ?_ | refine blk_alloc ?_ _)); refine blk_far ?_ NB148_168.out _; (with_reducible repeat (first | refine blk_drewN ?_ _ | refine blk_drew ?_ | refine blk_alloc ?_ _)); refine blk_far ?_ NB148_168.out _; (with_reducible repeat (first | refine blk_drewN ?_ _ | refine blk_drew ?_ | refine blk_alloc ?_ _)); exact BK148.out) hb); replace BK168 := Aside0.mk (blk_below (g := gb168) (o := .cells #[.slice A167_0 ((rd_T59 l0_2 x57_2).f0).length c167_0, .int .i64 ((rd_T59 l0_2 x57_2).f1)] 59 (0, 0)) (by (with_reducible repeat (first | refine blk_drewN ?_ _ | refine blk_drew ?_ | refine blk_alloc ?_ _)); refine blk_put (cs := #[.slice A167_0 ((rd_T59 l0_2 x57_2).f0).length c167_0, .int .i64 0]) ?_ 1 _ rfl; (with_reducible repeat (first | refine blk_drewN ?_ _ | refine blk_drew ?_ | refine blk_alloc ?_ _)); refine blk_put (cs := #[.slice none 0 0, .int .i64 0]) ?_ 0 _ rfl; (with_reducible repeat (first | refine blk_drewN ?_ _ | refine blk_drew ?_ | refine blk_alloc ?_ _)); exact BK168.out) hb); replace HB := Aside0.mk (below_step (by repeat (first | (with_reducible first | exact HB.out | apply below_alloc | apply pw_below_drewN | apply below_drew1 | refine below_set ?_ GE148.out | refine below_set ?_ GE168.out) | exact HB.out)) hb); (try clear hb); (try clear hb2); (try clear hk); (try clear hi)))
                              replace HO_5 := Aside0.mk (Kd.R_drew HO_5.out)
                              replace BK148 := Aside0.mk (blk_drew BK148.out)
                              replace BK168 := Aside0.mk (blk_drew BK168.out)
                              replace HB := Aside0.mk (below_drew1 HB.out)
                              have p45 : 0 ≤ (t169 : Int) := of_decide_eq_true (by first | (with_reducible assumption) | assumption)
                              have q45 : (t169 : Int) < ((x5_2.length : Int) : Int) := of_decide_eq_true (by first | (with_reducible assumption) | assumption)
                              obtain ⟨go45, co45, eo45, gb45, gl45, cl45, HG45⟩ := Kd.R_form HO_5.out (by omega)
                              (first | cases eo45 | (injection eo45 with ea_ en_ ec_; (first | subst ea_ | (injection ea_ with ea_; subst ea_)); subst ec_; clear en_))
                              have GB45 := Aside0.mk gb45
                              have GG45 := Aside0.mk HG45
                              clear gb45 gl45 HG45
                              obtain ⟨ce45, hcl45, hM45, hcc45, hfr45⟩ := Kd.R_elem HO_5.out z92 (t169 : Int) p45 q45
                              obtain rfl := k92_openM hM45
                              have hx45_0 : World.cell? _ ⟨go45, (t169 : Int).toNat * 4, none⟩ = some (.int .i64 ((rd_T92 x5_2 t169).f0)) := hcc45 0 _ rfl
                              have hx45_1 : World.cell? _ ⟨go45, (t169 : Int).toNat * 4 + 1, none⟩ = some (.int .i64 ((rd_T92 x5_2 t169).f1)) := hcc45 1 _ rfl
                              have hx45_2 : World.cell? _ ⟨go45, (t169 : Int).toNat * 4 + 2, none⟩ = some (.bool ((rd_T92 x5_2 t169).f2)) := hcc45 2 _ rfl
                              have hx45_3 : World.cell? _ ⟨go45, (t169 : Int).toNat * 4 + 3, none⟩ = some (.bool ((rd_T92 x5_2 t169).f3)) := hcc45 3 _ rfl
                              have hf45_0 : World.frozen? _ ⟨go45, (t169 : Int).toNat * 4, none⟩ = false := hfr45 0
                              have hf45_1 : World.frozen? _ ⟨go45, (t169 : Int).toNat * 4 + 1, none⟩ = false := hfr45 1
                              have hf45_2 : World.frozen? _ ⟨go45, (t169 : Int).toNat * 4 + 2, none⟩ = false := hfr45 2
                              have hf45_3 : World.frozen? _ ⟨go45, (t169 : Int).toNat * 4 + 3, none⟩ = false := hfr45 3
                              clear hcl45 hcc45 hfr45 hM45
                              replace p45 := eq_true p45
                              replace q45 := eq_true q45
                              have p170 : 0 ≤ (t169 : Int) := of_decide_eq_true (by first | (with_reducible assumption) | assumption)
                              have q170 : t169 < (((rd_T59 l0_2 x57_2).f0).length : Int) := of_decide_eq_true (by first | (with_reducible assumption) | assumption)
                              obtain ⟨ad170, e170, hx170_0⟩ := Kd.at_int HR167_0.out t169 p170 q170
                              have hw170_0 := hx170_0
                              cases e170
                              replace hx170_0 := (HB.out.cell (World.block_lt_of_cell? w _ hx170_0)).trans hx170_0
                              replace p170 := eq_true p170
                              replace q170 := eq_true q170
                              refine start_ (n := 11) (S := fun w' => w'.cell? ⟨gb168, 0, none⟩ = some (.slice (some ad170) ((rd_T59 l0_2 x57_2).f0).length c167_0) ∧ w'.cell? ⟨gb168, 1, none⟩ = some (.int .i64 ((rd_T59 l0_2 x57_2).f1)) ∧ w'.cell? (ad170.add (t169).toNat) = some (.int .i64 (rd ((rd_T59 l0_2 x57_2).f0) t169))) (ds := [10]) (bts 11 0) (by kernel_rfl) rfl rfl ⟨(blk_cell BK168.out 0).trans rfl, (blk_cell BK168.out 1).trans rfl, ((HB.out.cell (World.block_lt_of_cell? w _ hw170_0)).trans hw170_0)⟩ (fun hHeld => ?_); refine with_tabW sys_Bounds.tab15 sys_Bounds.bits15 (fun HT_ HW_ => ?_)
                              generalize w51.drew = w52 at HO_5 BK148 BK168 HB GG45 hf45_0 hf45_1 hf45_2 hf45_3 hx170_0 hx45_0 hx45_1 hx45_2 hx45_3 hHeld ⊢
                              refine pA 0 (some 65) 0 11 1 HT_ ?_
                              refine pA 1 (some 66) 1 11 3 HT_ ?_
                              refine pA 2 (some 67) 3 11 7 HT_ ?_
                              refine pA 3 (some 68) 7 11 15 HT_ ?_
                              refine pA 5 (some 70) 15 11 47 HT_ ?_
                              refine pA 8 (some 73) 47 11 303 HT_ ?_
                              refine tA3 4 (some 69) 303 11 319 HT_ HW_ hHeld ?_
                              refine pA 6 (some 71) 319 11 383 HT_ ?_
                              refine tA3 7 (some 72) 383 11 511 HT_ HW_ hHeld ?_
                              refine tA3 9 (some 74) 511 11 1023 HT_ HW_ hHeld ?_
                              refine last_ (i := 10) (N := some 75) (bts 11 2047) rfl rfl (one_of HT_.out (by kernel_rfl)) (by decide) (fun K hK => ?_)
                              refine goes_ Tryd.func36 (by kernel_rfl) rfl #[.pointer (some ⟨go45, (t169 : Int).toNat * 4, none⟩), .int .i64 (rd ((rd_T59 l0_2 x57_2).f0) t169), .int .i64 ((rd_T59 l0_2 x57_2).f1)] (by rfl) rfl rfl (by (try simp only [List.map_toArray, List.map_cons, List.map_nil]); first | done | rfl | (simp only [List.length_drop, List.length_take]; rfl)) ?_
                              with_reducible refine (sys_span_take.calls go45 ((t169 : Int).toNat * 4) ((rd_T92 x5_2 t169).f0) ((rd_T92 x5_2 t169).f1) ((rd_T92 x5_2 t169).f2) ((rd_T92 x5_2 t169).f3) (rd ((rd_T59 l0_2 x57_2).f0) t169) ((rd_T59 l0_2 x57_2).f1) t171 t172 t173 t174 _ ⟨hx45_0, hx45_1, hx45_2, hx45_3, hf45_0, hf45_1, hf45_2, hf45_3⟩ A47.out).mono ?_
                              rintro e _ ⟨rfl, w53, hb, rfl⟩
                              refine ⟨_, rfl, ?_⟩
                              replace HO_5 := Aside0.mk (Kd.R_below (by (with_reducible repeat (first | apply Kd.R_alloc | apply Kd.R_drewN | apply Kd.R_drew)); exact HO_5.out) hb)
                              replace BK148 := Aside0.mk (blk_below (g := gb148) (o := .cells #[.int .i64 a0_0, .slice A0_1 l0_1.length c0_1, .slice (some ad167) l0_2.length c0_2] 24 (0, 0)) (by (with_reducible repeat (first | refine blk_drewN ?_ _ | refine blk_drew ?_ | refine blk_alloc ?_ _)); exact BK148.out) hb)
                              replace BK168 := Aside0.mk (blk_below (g := gb168) (o := .cells #[.slice (some ad170) ((rd_T59 l0_2 x57_2).f0).length c167_0, .int .i64 ((rd_T59 l0_2 x57_2).f1)] 59 (0, 0)) (by (with_reducible repeat (first | refine blk_drewN ?_ _ | refine blk_drew ?_ | refine blk_alloc ?_ _)); exact BK168.out) hb)
                              replace HB := Aside0.mk (below_step (by repeat (first | (with_reducible first | exact HB.out | apply below_alloc | apply pw_below_drewN | apply below_drew1 | refine below_set ?_ GE148.out | refine below_set ?_ GE168.out) | exact HB.out)) hb)
                              (try clear hb)
                              (try clear hb2)
                              (try clear hk)
                              (try clear hi)
                              obtain ⟨ce54, hcl54, hM54, hcc54, hfr54⟩ := Kd.R_elem HO_5.out z92 (t169 : Int) (of_decide_eq_true (by first | (with_reducible assumption) | assumption)) (by have h_ : (t169 : Int) < ((x5_2.length : Int) : Int) := of_decide_eq_true (by first | (with_reducible assumption) | assumption); first | exact h_ | (have e_ := (Kd.R_reads' HO_5.out).1; omega) | simpa using h_)
                              obtain rfl := k92_openM hM54
                              have HP54 := (Kd.R_seg HO_5.out (t169 : Int) (of_decide_eq_true (by first | (with_reducible assumption) | assumption)) (by have h_ : (t169 : Int) < ((x5_2.length : Int) : Int) := of_decide_eq_true (by first | (with_reducible assumption) | assumption); first | exact h_ | (have e_ := (Kd.R_reads' HO_5.out).1; omega) | simpa using h_) (seg := [.int .i64 t171, .int .i64 t172, .bool t173, .bool t174]) (j := 0) hcl54 hcc54 (show 4 ≤ 4 from by decide) (x' := (⟨t171, t172, t173, t174⟩ : S92)) (k92_mkM _ _ _ (⟨t171, t172, t173, t174⟩ : S92) ) (fun _ hk => hk)).1
                              rw [← Ny175.out] at HP54
                              have HQ54 := Aside0.mk HP54
                              clear hcl54 hcc54 hfr54 hM54 HP54
                              refine hK.out _ _ ?_
                              clear hK K
                              refine norm_ (a' := ?_) ?_ ?_
                              rotate_left
                              · show Act.put _ (some 75) _ = _
                                simp only [Act.put, List.setIfInBounds_toArray, List.set_cons_zero, List.set_cons_succ, i64_w, i32_w]
                                rfl
                              refine done_ (done_of HT_.out (by kernel_rfl)) ?_
                              try go_wp2
                              go_roundg k2
                              case measure => have := HK1.out; have := HK2.out; omega
                              case rel => exact ⟨(y175), (wrap64 (x57_2 + 1)), (by first | rfl | (simp; done) | (simp [*]; done) | (simp [bne_nil_, beq_nil_]; done)), H', ⟨by have := HK1.out; have := HK2.out; omega⟩, ⟨by (with_reducible repeat (first | apply Kd.R_alloc | apply Kd.R_drewN | apply Kd.R_drew)); exact HQ54.out⟩, ⟨by (with_reducible repeat (first | refine blk_drewN ?_ _ | refine blk_drew ?_ | refine blk_alloc ?_ _)); refine blk_far ?_ (by have h_ := Kd.R_ne HO_5.out BK148.out (by decide); intro e_; exact h_ (by rw [e_]; rfl)) _; (with_reducible repeat (first | refine blk_drewN ?_ _ | refine blk_drew ?_ | refine blk_alloc ?_ _)); refine blk_far ?_ (by have h_ := Kd.R_ne HO_5.out BK148.out (by decide); intro e_; exact h_ (by rw [e_]; rfl)) _; (with_reducible repeat (first | refine blk_drewN ?_ _ | refine blk_drew ?_ | refine blk_alloc ?_ _)); refine blk_far ?_ (by have h_ := Kd.R_ne HO_5.out BK148.out (by decide); intro e_; exact h_ (by rw [e_]; rfl)) _; (with_reducible repeat (first | refine blk_drewN ?_ _ | refine blk_drew ?_ | refine blk_alloc ?_ _)); refine blk_far ?_ (by have h_ := Kd.R_ne HO_5.out BK148.out (by decide); intro e_; exact h_ (by rw [e_]; rfl)) _; (with_reducible repeat (first | refine blk_drewN ?_ _ | refine blk_drew ?_ | refine blk_alloc ?_ _)); exact BK148.out⟩, ⟨by repeat (first | (with_reducible first | exact HB.out | apply below_alloc | apply pw_below_drewN | apply below_drew1 | refine below_set ?_ GB45.out | refine below_set ?_ GB45.out | refine below_set ?_ GB45.out | refine below_set ?_ GB45.out | refine below_set ?_ GE148.out | refine below_set ?_ GE168.out) | exact HB.out)⟩⟩
                            · rw [if_neg c46] at H
                              exact absurd H (by simp)
                          · rw [if_neg c44] at H
                            exact absurd H (by simp)
                        · rw [if_neg c43] at H
                          exact absurd H (by simp)
                      · rw [if_neg c42] at H
                        have c42b0 : decide (0 ≤ t169) = false := decide_eq_false c42
                        clear c42
                        have H' := Aside0.mk H
                        clear H
                        have p167 : 0 ≤ (x57_2 : Int) := of_decide_eq_true (by first | (with_reducible assumption) | assumption)
                        have q167 : x57_2 < (l0_2.length : Int) := of_decide_eq_true (by first | (with_reducible assumption) | assumption)
                        obtain ⟨ad167, A167_0, c167_0, e167, hx167_0, hx167_1, hl167_0, hi167_0⟩ := at_T59 HR0_2.out x57_2 p167 q167
                        cases e167
                        replace hx167_0 := (HB.out.cell (World.block_lt_of_cell? w _ hx167_0)).trans hx167_0
                        replace hx167_1 := (HB.out.cell (World.block_lt_of_cell? w _ hx167_1)).trans hx167_1
                        have HR167_0 := Aside0.mk hi167_0
                        have HC167_0 := Aside0.mk hl167_0
                        clear hi167_0 hl167_0
                        replace p167 := eq_true p167
                        replace q167 := eq_true q167
                        go_wp2_with (first | ((with_reducible refine gate_dst (N := 10) rfl ?_); refine bxE 10 #[.slice none 0 0, .int .i64 0] 59 ?_; intro gb168 hg w55 hbox hb; replace HO_5 := Aside0.mk (Kd.R_below (by (with_reducible repeat (first | apply Kd.R_alloc | apply Kd.R_drewN | apply Kd.R_drew)); exact HO_5.out) hb); have BK168 := Aside0.mk (hbox); have GW168 := Aside0.mk ((by rw [hg]; exact (below_size (by repeat (first | (with_reducible first | exact HB.out | apply below_alloc | apply pw_below_drewN | apply below_drew1 | refine below_set ?_ GE148.out) | exact HB.out))) : w.heap.size ≤ gb168)); have GE168 := Aside0.mk ((by rw [hg]; exact (below_size (by repeat (first | (with_reducible first | exact HB.out | apply below_alloc | apply pw_below_drewN | apply below_drew1 | refine below_set ?_ GE148.out) | exact HB.out))) : w.heap.size ≤ gb168)); replace HB := Aside0.mk (below_step (by repeat (first | (with_reducible first | exact HB.out | apply below_alloc | apply pw_below_drewN | apply below_drew1 | refine below_set ?_ GE148.out) | exact HB.out)) hb); have NB148_168 := Aside0.mk ((by rw [hg]; exact Nat.ne_of_lt (blk_lt (g := gb148) (o := .cells #[.int .i64 a0_0, .slice A0_1 l0_1.length c0_1, .slice (some ad167) l0_2.length c0_2] 24 (0, 0)) (by (with_reducible repeat (first | refine blk_drewN ?_ _ | refine blk_drew ?_ | refine blk_alloc ?_ _)); exact BK148.out)) : gb148 ≠ gb168)); have NB168_148 := Aside0.mk ((by rw [hg]; exact Nat.ne_of_gt (blk_lt (g := gb148) (o := .cells #[.int .i64 a0_0, .slice A0_1 l0_1.length c0_1, .slice (some ad167) l0_2.length c0_2] 24 (0, 0)) (by (with_reducible repeat (first | refine blk_drewN ?_ _ | refine blk_drew ?_ | refine blk_alloc ?_ _)); exact BK148.out)) : gb168 ≠ gb148)); replace BK148 := Aside0.mk (blk_below (g := gb148) (o := .cells #[.int .i64 a0_0, .slice A0_1 l0_1.length c0_1, .slice (some ad167) l0_2.length c0_2] 24 (0, 0)) (by (with_reducible repeat (first | refine blk_drewN ?_ _ | refine blk_drew ?_ | refine blk_alloc ?_ _)); exact BK148.out) hb); clear hb hbox hg; have hnb56 := NB168_148.out; have hnc56 := NB148_168.out; obtain ⟨hcz57_0, hcz57_1, hfz57_0, hfz57_1⟩ := cL2 BK168) | ((with_reducible refine gate_dst (N := 62) rfl ?_); refine gsM (some 62) Tryd.func35 #[.agg #[.slice A167_0 ((rd_T59 l0_2 x57_2).f0).length c167_0, .int .i64 ((rd_T59 l0_2 x57_2).f1)]] ?_; (with_reducible refine (sys_alone.calls k2 _ _ ((rd_T59 l0_2 x57_2).f0) ((rd_T59 l0_2 x57_2).f1) t169 _ ?side1 ?side2 A41.out).mono ?_); (case side1 => exact Kd.C_below HR167_0.out (by repeat (first | (with_reducible first | exact HB.out | apply below_alloc | apply pw_below_drewN | apply below_drew1 | refine below_set ?_ GE148.out | refine below_set ?_ GE168.out) | exact HB.out))); (case side2 => exact HC167_0.out); rintro e w58 ⟨rfl, hb⟩; refine ⟨_, rfl, ?_⟩; replace HO_5 := Aside0.mk (Kd.R_below (by (with_reducible repeat (first | apply Kd.R_alloc | apply Kd.R_drewN | apply Kd.R_drew)); exact (Kd.R_mono (Kd.R_far (p := ⟨gb168, 1, none⟩) (Kd.R_far (p := ⟨gb168, 0, none⟩) (Kd.R_types HO_5.out BK168.out (by decide)) (fun _ hk => hk.2) (.slice A167_0 ((rd_T59 l0_2 x57_2).f0).length c167_0)) (fun _ hk => hk.2) (.int .i64 ((rd_T59 l0_2 x57_2).f1))) (fun _ h_ => h_.1))) hb); replace BK148 := Aside0.mk (blk_below (g := gb148) (o := .cells #[.int .i64 a0_0, .slice A0_1 l0_1.length c0_1, .slice (some ad167) l0_2.length c0_2] 24 (0, 0)) (by (with_reducible repeat (first | refine blk_drewN ?_ _ | refine blk_drew ?_ | refine blk_alloc ?_ _)); refine blk_far ?_ NB148_168.out _; (with_reducible repeat (first | refine blk_drewN ?_ _ | refine blk_drew ?_ | refine blk_alloc ?_ _)); refine blk_far ?_ NB148_168.out _; (with_reducible repeat (first | refine blk_drewN ?_ _ | refine blk_drew ?_ | refine blk_alloc ?_ _)); exact BK148.out) hb); replace BK168 := Aside0.mk (blk_below (g := gb168) (o := .cells #[.slice A167_0 ((rd_T59 l0_2 x57_2).f0).length c167_0, .int .i64 ((rd_T59 l0_2 x57_2).f1)] 59 (0, 0)) (by (with_reducible repeat (first | refine blk_drewN ?_ _ | refine blk_drew ?_ | refine blk_alloc ?_ _)); refine blk_put (cs := #[.slice A167_0 ((rd_T59 l0_2 x57_2).f0).length c167_0, .int .i64 0]) ?_ 1 _ rfl; (with_reducible repeat (first | refine blk_drewN ?_ _ | refine blk_drew ?_ | refine blk_alloc ?_ _)); refine blk_put (cs := #[.slice none 0 0, .int .i64 0]) ?_ 0 _ rfl; (with_reducible repeat (first | refine blk_drewN ?_ _ | refine blk_drew ?_ | refine blk_alloc ?_ _)); exact BK168.out) hb); replace HB := Aside0.mk (below_step (by repeat (first | (with_reducible first | exact HB.out | apply below_alloc | apply pw_below_drewN | apply below_drew1 | refine below_set ?_ GE148.out | refine below_set ?_ GE168.out) | exact HB.out)) hb); (try clear hb); (try clear hb2); (try clear hk); (try clear hi)))
                        go_roundg k2
                        case measure => have := HK1.out; have := HK2.out; omega
                        case rel => exact ⟨(x5_2), (wrap64 (x57_2 + 1)), (by first | rfl | (simp; done) | (simp [*]; done) | (simp [bne_nil_, beq_nil_]; done)), H', ⟨by have := HK1.out; have := HK2.out; omega⟩, ⟨by (with_reducible repeat (first | apply Kd.R_alloc | apply Kd.R_drewN | apply Kd.R_drew)); exact HO_5.out⟩, ⟨by (with_reducible repeat (first | refine blk_drewN ?_ _ | refine blk_drew ?_ | refine blk_alloc ?_ _)); exact BK148.out⟩, ⟨by repeat (first | (with_reducible first | exact HB.out | apply below_alloc | apply pw_below_drewN | apply below_drew1 | refine below_set ?_ GE148.out | refine below_set ?_ GE168.out) | exact HB.out)⟩⟩
                    · rw [if_neg c40] at H
                      exact absurd H (by simp)
                  · rw [if_neg c39] at H
                    exact absurd H (by simp)
                · rw [if_neg c38] at H
                  have c38b0 : decide (x57_2 < (l0_2.length : Int)) = false := decide_eq_false c38
                  clear c38
                  have H' := Aside0.mk H
                  clear H
                  obtain ⟨Ao59, co59, eo59⟩ := Kd.R_slice HO_5.out
                  subst eo59
                  go_wp2
                  go_loopg [2, 3, 79] k2 (fun kq v2 v3 v79 w' => ∃ (x2_3 : List Int) (x3_3 : List Int) (x79_3 : Int), v79 = .int .i64 x79_3 ∧ Aside0 (sys_Bounds.l2 kq x2_3 x3_3 x5_2 (x5_2.length : Int) x79_3 = some (r1, r2, r3)) ∧ Aside0 (kq ≤ k2) ∧ Aside0 (Kd.R (Kd.int .i64) 2 w' w.heap.size (fun k_ => some k_ ≠ (v3 : Value).ownBlock) v2 x2_3) ∧ Aside0 (Kd.R (Kd.int .i64) 2 w' w.heap.size (fun k_ => some k_ ≠ (v2 : Value).ownBlock) v3 x3_3) ∧ Aside0 (Kd.R k92 92 w' w.heap.size (fun _ => True) (.slice Ao59 x5_2.length co59) x5_2) ∧ Aside0 (w'.heap[gb148]? = some (.cells #[.int .i64 a0_0, (.slice A0_1 l0_1.length c0_1), (.slice A0_2 l0_2.length c0_2)] 24 (0, 0))) ∧ Aside0 (Below w.heap.size w w'))
                  case atStart => exact ⟨(([] : List Int)), (([] : List Int)), (0), (by first | rfl | (simp; done) | (simp [*]; done) | (simp [bne_nil_, beq_nil_]; done)), H', ⟨Nat.le_refl _⟩, ⟨nK⟩, ⟨nK⟩, ⟨by (with_reducible repeat (first | apply Kd.R_alloc | apply Kd.R_drewN | apply Kd.R_drew)); exact HO_5.out⟩, ⟨by (with_reducible repeat (first | refine blk_drewN ?_ _ | refine blk_drew ?_ | refine blk_alloc ?_ _)); exact BK148.out⟩, ⟨by repeat (first | (with_reducible first | exact HB.out | apply below_alloc | apply pw_below_drewN | apply below_drew1 | refine below_set ?_ GE148.out) | exact HB.out)⟩⟩
                  case round =>
                    clear H'
                    try clear c1
                    try clear p1
                    try clear q1
                    try clear hx1
                    try clear hf1
                    try clear c2
                    try clear p2
                    try clear q2
                    try clear hx2
                    try clear hf2
                    try clear c3
                    try clear c3b0
                    try clear c3b1
                    try clear c4
                    try clear c4b0
                    try clear c4b1
                    try clear p4
                    try clear q4
                    try clear hx4
                    try clear hf4
                    try clear c5
                    try clear p6
                    try clear c10
                    try clear c10b0
                    try clear c11
                    try clear c11b0
                    try clear c12
                    try clear c12b0
                    try clear c14
                    try clear c14b0
                    try clear c15
                    try clear c15b0
                    try clear p15
                    try clear q15
                    try clear hx15
                    try clear c16
                    try clear c16b0
                    try clear p16
                    try clear q16
                    try clear hx16
                    try clear c17
                    try clear p17
                    try clear q17
                    try clear hx17
                    try clear hf17
                    try clear c18
                    try clear c18b0
                    try clear c20
                    try clear p20
                    try clear q20
                    try clear hx20
                    try clear hf20
                    try clear c23
                    try clear c28
                    try clear c32
                    try clear c34
                    try clear c35
                    try clear c36
                    try clear c38
                    try clear c38b0
                    try clear c39
                    try clear c39b0
                    try clear c40
                    try clear c40b0
                    try clear c42
                    try clear c42b0
                    try clear c43
                    try clear c43b0
                    try clear c44
                    try clear c44b0
                    try clear c45
                    try clear p45
                    try clear q45
                    try clear hx45
                    try clear hf45
                    try clear c46
                    try clear c46b0
                    try clear c49
                    try clear c54
                    try clear c56
                    try clear hcz24_0
                    try clear hcz24_1
                    try clear hcz35_0
                    try clear hcz35_1
                    try clear hcz37_0
                    try clear hcz37_1
                    try clear hcz37_2
                    try clear hcz50_0
                    try clear hcz50_1
                    try clear hcz57_0
                    try clear hcz57_1
                    try clear hcz6_0
                    try clear hcz6_1
                    try clear hcz6_2
                    try clear hcz9_0
                    try clear hcz9_1
                    try clear hcz9_2
                    try clear hfz24_0
                    try clear hfz24_1
                    try clear hfz35_0
                    try clear hfz35_1
                    try clear hfz37_0
                    try clear hfz37_1
                    try clear hfz37_2
                    try clear hfz50_0
                    try clear hfz50_1
                    try clear hfz57_0
                    try clear hfz57_1
                    try clear hfz6_0
                    try clear hfz6_1
                    try clear hfz6_2
                    try clear hfz9_0
                    try clear hfz9_1
                    try clear hfz9_2
                    try clear hx152_0
                    try clear hx152_1
                    try clear hx155_0
                    try clear hx161_0
                    try clear hx167_0
                    try clear hx167_1
                    try clear hx170_0
                    try clear hx17_0
                    try clear hx17_1
                    try clear hx17_2
                    try clear hx17_3
                    try clear hx20_0
                    try clear hx20_1
                    try clear hx20_2
                    try clear hx20_3
                    try clear hx45_0
                    try clear hx45_1
                    try clear hx45_2
                    try clear hx45_3
                    try clear p1
                    try clear p15
                    try clear p152
                    try clear p155
                    try clear p16
                    try clear p161
                    try clear p167
                    try clear p17
                    try clear p170
                    try clear p2
                    try clear p20
                    try clear p45
                    try clear p6
                    try clear q1
                    try clear q15
                    try clear q152
                    try clear q155
                    try clear q16
                    try clear q161
                    try clear q167
                    try clear q17
                    try clear q170
                    try clear q2
                    try clear q20
                    try clear q45
                    obtain ⟨x2_3, x3_3, x79_3, rfl, HA, HK3, HO_2, HO_3, HO_77, BK148, HB⟩ := hrel
                    cases gk with
                    | zero => exact absurd HA.out (by simp [sys_Bounds.l2])
                    | succ k3 =>
                      have H := HA.out
                      clear HA
                      simp only [sys_Bounds.l2] at H
                      by_cases c60 : x79_3 < (x5_2.length : Int)
                      · rw [if_pos c60] at H
                        have c60b0 : decide (x79_3 < (x5_2.length : Int)) = true := decide_eq_true c60
                        clear c60
                        by_cases c61 : 0 ≤ x79_3
                        · rw [if_pos c61] at H
                          have c61b0 : decide (0 ≤ x79_3) = true := decide_eq_true c61
                          clear c61
                          by_cases c62 : x79_3 < (x5_2.length : Int)
                          · rw [if_pos c62] at H
                            have c62b0 : decide (x79_3 < (x5_2.length : Int)) = true := decide_eq_true c62
                            clear c62
                            obtain ⟨bq63, hbq63⟩ : ∃ b_ : Bool, b_ = ((rd_T92 x5_2 x79_3).f2) := ⟨_, rfl⟩
                            replace H : (if (bq63 = true) then (if ((rd_T92 x5_2 x79_3).f3 = true) then ((sys_far.f ((rd_T92 x5_2 x79_3).f0)).bind fun t178 => (if t178 = true then (some (([] : List Int), ([] : List Int), false)) else ((sys_far.f ((rd_T92 x5_2 x79_3).f1)).bind fun t179 => (if t179 = true then (some (([] : List Int), ([] : List Int), false)) else ((some (([(rd_T92 x5_2 x79_3).f0] : List Int) : List Int)).bind fun y180 => (if x2_3.length + y180.length < 17592186044416 then ((some (([(rd_T92 x5_2 x79_3).f1] : List Int) : List Int)).bind fun y186 => (if x3_3.length + y186.length < 17592186044416 then (sys_Bounds.l2 k3 (x2_3 ++ y180) (x3_3 ++ y186) x5_2 (x5_2.length : Int) (wrap64 (x79_3 + 1))) else (none))) else (none))))))) else (some (([] : List Int), ([] : List Int), false))) else (some (([] : List Int), ([] : List Int), false))) = some (r1, r2, r3) := by rw [← hbq63] at H; exact H
                            have Nbq63 := Aside0.mk hbq63
                            clear hbq63
                            by_cases c64 : (bq63 = true)
                            · subst c64
                              have H1 : (if ((rd_T92 x5_2 x79_3).f3 = true) then ((sys_far.f ((rd_T92 x5_2 x79_3).f0)).bind fun t178 => (if t178 = true then (some (([] : List Int), ([] : List Int), false)) else ((sys_far.f ((rd_T92 x5_2 x79_3).f1)).bind fun t179 => (if t179 = true then (some (([] : List Int), ([] : List Int), false)) else ((some (([(rd_T92 x5_2 x79_3).f0] : List Int) : List Int)).bind fun y180 => (if x2_3.length + y180.length < 17592186044416 then ((some (([(rd_T92 x5_2 x79_3).f1] : List Int) : List Int)).bind fun y186 => (if x3_3.length + y186.length < 17592186044416 then (sys_Bounds.l2 k3 (x2_3 ++ y180) (x3_3 ++ y186) x5_2 (x5_2.length : Int) (wrap64 (x79_3 + 1))) else (none))) else (none))))))) else (some (([] : List Int), ([] : List Int), false))) = some (r1, r2, r3) := by rw [if_pos rfl] at H; exact H
                              clear H
                              have H := H1
                              clear H1
                              obtain ⟨bq65, hbq65⟩ : ∃ b_ : Bool, b_ = ((rd_T92 x5_2 x79_3).f3) := ⟨_, rfl⟩
                              replace H : (if (bq65 = true) then ((sys_far.f ((rd_T92 x5_2 x79_3).f0)).bind fun t178 => (if t178 = true then (some (([] : List Int), ([] : List Int), false)) else ((sys_far.f ((rd_T92 x5_2 x79_3).f1)).bind fun t179 => (if t179 = true then (some (([] : List Int), ([] : List Int), false)) else ((some (([(rd_T92 x5_2 x79_3).f0] : List Int) : List Int)).bind fun y180 => (if x2_3.length + y180.length < 17592186044416 then ((some (([(rd_T92 x5_2 x79_3).f1] : List Int) : List Int)).bind fun y186 => (if x3_3.length + y186.length < 17592186044416 then (sys_Bounds.l2 k3 (x2_3 ++ y180) (x3_3 ++ y186) x5_2 (x5_2.length : Int) (wrap64 (x79_3 + 1))) else (none))) else (none))))))) else (some (([] : List Int), ([] : List Int), false))) = some (r1, r2, r3) := by rw [← hbq65] at H; exact H
                              have Nbq65 := Aside0.mk hbq65
                              clear hbq65
                              by_cases c66 : (bq65 = true)
                              · subst c66
                                have H1 : ((sys_far.f ((rd_T92 x5_2 x79_3).f0)).bind fun t178 => (if t178 = true then (some (([] : List Int), ([] : List Int), false)) else ((sys_far.f ((rd_T92 x5_2 x79_3).f1)).bind fun t179 => (if t179 = true then (some (([] : List Int), ([] : List Int), false)) else ((some (([(rd_T92 x5_2 x79_3).f0] : List Int) : List Int)).bind fun y180 => (if x2_3.length + y180.length < 17592186044416 then ((some (([(rd_T92 x5_2 x79_3).f1] : List Int) : List Int)).bind fun y186 => (if x3_3.length + y186.length < 17592186044416 then (sys_Bounds.l2 k3 (x2_3 ++ y180) (x3_3 ++ y186) x5_2 (x5_2.length : Int) (wrap64 (x79_3 + 1))) else (none))) else (none))))))) = some (r1, r2, r3) := by rw [if_pos rfl] at H; exact H
                                clear H
                                have H := H1
                                clear H1
                                replace H := Option.bind_eq_some_iff.mp H
                                obtain ⟨t178, A670, H⟩ := H
                                have A67 := Aside0.mk A670
                                clear A670
                                by_cases c68 : t178 = true
                                · subst c68
                                  have H1 : (some (([] : List Int), ([] : List Int), false)) = some (r1, r2, r3) := by rw [if_pos rfl] at H; exact H
                                  clear H
                                  have H := H1
                                  clear H1
                                  simp only [Option.some.injEq, Prod.mk.injEq] at H
                                  obtain ⟨rfl, rfl, rfl⟩ := H
                                  have p176 : 0 ≤ (x79_3 : Int) := of_decide_eq_true (by first | (with_reducible assumption) | assumption)
                                  have q176 : x79_3 < (x5_2.length : Int) := of_decide_eq_true (by first | (with_reducible assumption) | assumption)
                                  obtain ⟨ad176, e176, hx176_0, hx176_1, hx176_2, hx176_3⟩ := at_T92 (Kd.R_reads' HO_77.out).2.2 x79_3 p176 q176
                                  (try rw [← Nbq63.out] at hx176_2)
                                  (try rw [← Nbq65.out] at hx176_2)
                                  (try rw [← Nbq63.out] at hx176_3)
                                  (try rw [← Nbq65.out] at hx176_3)
                                  cases e176
                                  replace p176 := eq_true p176
                                  replace q176 := eq_true q176
                                  go_wp2_with (first | ((with_reducible refine gate_dst (N := 13) rfl ?_); refine bxE 13 #[.int .i64 0, .int .i64 0, .bool false, .bool false] 92 ?_; intro gb177 hg w69 hbox hb; replace HO_2 := Aside0.mk (Kd.R_below (by (with_reducible repeat (first | apply Kd.R_alloc | apply Kd.R_drewN | apply Kd.R_drew)); exact HO_2.out) hb); replace HO_3 := Aside0.mk (Kd.R_below (by (with_reducible repeat (first | apply Kd.R_alloc | apply Kd.R_drewN | apply Kd.R_drew)); exact HO_3.out) hb); replace HO_77 := Aside0.mk (Kd.R_below (Kd.R_elderB (by (with_reducible repeat (first | apply Kd.R_alloc | apply Kd.R_drewN | apply Kd.R_drew)); exact HO_77.out) gb177 (Nat.le_of_eq hg.symm)) hb); have BK177 := Aside0.mk (hbox); have GW177 := Aside0.mk ((by rw [hg]; exact (below_size (by repeat (first | (with_reducible first | exact HB.out | apply below_alloc | apply pw_below_drewN | apply below_drew1 | refine below_set ?_ GE148.out) | exact HB.out))) : w.heap.size ≤ gb177)); have GE177 := Aside0.mk ((by rw [hg]; exact (below_size (by repeat (first | (with_reducible first | exact HB.out | apply below_alloc | apply pw_below_drewN | apply below_drew1 | refine below_set ?_ GE148.out) | exact HB.out))) : w.heap.size ≤ gb177)); replace HB := Aside0.mk (below_step (by repeat (first | (with_reducible first | exact HB.out | apply below_alloc | apply pw_below_drewN | apply below_drew1 | refine below_set ?_ GE148.out) | exact HB.out)) hb); have NB148_177 := Aside0.mk ((by rw [hg]; exact Nat.ne_of_lt (blk_lt (g := gb148) (o := .cells #[.int .i64 a0_0, .slice A0_1 l0_1.length c0_1, .slice A0_2 l0_2.length c0_2] 24 (0, 0)) (by (with_reducible repeat (first | refine blk_drewN ?_ _ | refine blk_drew ?_ | refine blk_alloc ?_ _)); exact BK148.out)) : gb148 ≠ gb177)); have NB177_148 := Aside0.mk ((by rw [hg]; exact Nat.ne_of_gt (blk_lt (g := gb148) (o := .cells #[.int .i64 a0_0, .slice A0_1 l0_1.length c0_1, .slice A0_2 l0_2.length c0_2] 24 (0, 0)) (by (with_reducible repeat (first | refine blk_drewN ?_ _ | refine blk_drew ?_ | refine blk_alloc ?_ _)); exact BK148.out)) : gb177 ≠ gb148)); replace BK148 := Aside0.mk (blk_below (g := gb148) (o := .cells #[.int .i64 a0_0, .slice A0_1 l0_1.length c0_1, .slice A0_2 l0_2.length c0_2] 24 (0, 0)) (by (with_reducible repeat (first | refine blk_drewN ?_ _ | refine blk_drew ?_ | refine blk_alloc ?_ _)); exact BK148.out) hb); clear hb hbox hg; have hnb70 := NB177_148.out; have hnc70 := NB148_177.out; obtain ⟨hcz71_0, hcz71_1, hcz71_2, hcz71_3, hfz71_0, hfz71_1, hfz71_2, hfz71_3⟩ := cL4 BK177) | (go_at_call 37; (with_reducible refine (sys_far.calls ((rd_T92 x5_2 x79_3).f0) true _ A67.out).mono ?_); rintro e w' ⟨rfl, ⟨nd, rfl⟩⟩))
                                  go_ret3
                                  exact ⟨_, _, by first | rfl | (simp [errW_none, errW_some] <;> rfl) | (simp only [← hji2]; first | rfl | (simp [errW_none, errW_some] <;> rfl)) | (simp [*, errW_none, errW_some] <;> rfl), nK, nK, by repeat (first | (with_reducible first | exact HB.out | apply below_alloc | apply pw_below_drewN | apply below_drew1 | refine below_set ?_ GE148.out | refine below_set ?_ GE177.out) | exact HB.out)⟩
                                · replace c68 := Bool.eq_false_iff.mpr c68
                                  subst c68
                                  have H1 : ((sys_far.f ((rd_T92 x5_2 x79_3).f1)).bind fun t179 => (if t179 = true then (some (([] : List Int), ([] : List Int), false)) else ((some (([(rd_T92 x5_2 x79_3).f0] : List Int) : List Int)).bind fun y180 => (if x2_3.length + y180.length < 17592186044416 then ((some (([(rd_T92 x5_2 x79_3).f1] : List Int) : List Int)).bind fun y186 => (if x3_3.length + y186.length < 17592186044416 then (sys_Bounds.l2 k3 (x2_3 ++ y180) (x3_3 ++ y186) x5_2 (x5_2.length : Int) (wrap64 (x79_3 + 1))) else (none))) else (none))))) = some (r1, r2, r3) := by rw [if_neg (show ¬ (false = true) by decide)] at H; exact H
                                  clear H
                                  have H := H1
                                  clear H1
                                  replace H := Option.bind_eq_some_iff.mp H
                                  obtain ⟨t179, A720, H⟩ := H
                                  have A72 := Aside0.mk A720
                                  clear A720
                                  by_cases c73 : t179 = true
                                  · subst c73
                                    have H1 : (some (([] : List Int), ([] : List Int), false)) = some (r1, r2, r3) := by rw [if_pos rfl] at H; exact H
                                    clear H
                                    have H := H1
                                    clear H1
                                    simp only [Option.some.injEq, Prod.mk.injEq] at H
                                    obtain ⟨rfl, rfl, rfl⟩ := H
                                    have p176 : 0 ≤ (x79_3 : Int) := of_decide_eq_true (by first | (with_reducible assumption) | assumption)
                                    have q176 : x79_3 < (x5_2.length : Int) := of_decide_eq_true (by first | (with_reducible assumption) | assumption)
                                    obtain ⟨ad176, e176, hx176_0, hx176_1, hx176_2, hx176_3⟩ := at_T92 (Kd.R_reads' HO_77.out).2.2 x79_3 p176 q176
                                    (try rw [← Nbq63.out] at hx176_2)
                                    (try rw [← Nbq65.out] at hx176_2)
                                    (try rw [← Nbq63.out] at hx176_3)
                                    (try rw [← Nbq65.out] at hx176_3)
                                    cases e176
                                    replace p176 := eq_true p176
                                    replace q176 := eq_true q176
                                    go_wp2_with (first | ((with_reducible refine gate_dst (N := 13) rfl ?_); refine bxE 13 #[.int .i64 0, .int .i64 0, .bool false, .bool false] 92 ?_; intro gb177 hg w74 hbox hb; replace HO_2 := Aside0.mk (Kd.R_below (by (with_reducible repeat (first | apply Kd.R_alloc | apply Kd.R_drewN | apply Kd.R_drew)); exact HO_2.out) hb); replace HO_3 := Aside0.mk (Kd.R_below (by (with_reducible repeat (first | apply Kd.R_alloc | apply Kd.R_drewN | apply Kd.R_drew)); exact HO_3.out) hb); replace HO_77 := Aside0.mk (Kd.R_below (Kd.R_elderB (by (with_reducible repeat (first | apply Kd.R_alloc | apply Kd.R_drewN | apply Kd.R_drew)); exact HO_77.out) gb177 (Nat.le_of_eq hg.symm)) hb); have BK177 := Aside0.mk (hbox); have GW177 := Aside0.mk ((by rw [hg]; exact (below_size (by repeat (first | (with_reducible first | exact HB.out | apply below_alloc | apply pw_below_drewN | apply below_drew1 | refine below_set ?_ GE148.out) | exact HB.out))) : w.heap.size ≤ gb177)); have GE177 := Aside0.mk ((by rw [hg]; exact (below_size (by repeat (first | (with_reducible first | exact HB.out | apply below_alloc | apply pw_below_drewN | apply below_drew1 | refine below_set ?_ GE148.out) | exact HB.out))) : w.heap.size ≤ gb177)); replace HB := Aside0.mk (below_step (by repeat (first | (with_reducible first | exact HB.out | apply below_alloc | apply pw_below_drewN | apply below_drew1 | refine below_set ?_ GE148.out) | exact HB.out)) hb); have NB148_177 := Aside0.mk ((by rw [hg]; exact Nat.ne_of_lt (blk_lt (g := gb148) (o := .cells #[.int .i64 a0_0, .slice A0_1 l0_1.length c0_1, .slice A0_2 l0_2.length c0_2] 24 (0, 0)) (by (with_reducible repeat (first | refine blk_drewN ?_ _ | refine blk_drew ?_ | refine blk_alloc ?_ _)); exact BK148.out)) : gb148 ≠ gb177)); have NB177_148 := Aside0.mk ((by rw [hg]; exact Nat.ne_of_gt (blk_lt (g := gb148) (o := .cells #[.int .i64 a0_0, .slice A0_1 l0_1.length c0_1, .slice A0_2 l0_2.length c0_2] 24 (0, 0)) (by (with_reducible repeat (first | refine blk_drewN ?_ _ | refine blk_drew ?_ | refine blk_alloc ?_ _)); exact BK148.out)) : gb177 ≠ gb148)); replace BK148 := Aside0.mk (blk_below (g := gb148) (o := .cells #[.int .i64 a0_0, .slice A0_1 l0_1.length c0_1, .slice A0_2 l0_2.length c0_2] 24 (0, 0)) (by (with_reducible repeat (first | refine blk_drewN ?_ _ | refine blk_drew ?_ | refine blk_alloc ?_ _)); exact BK148.out) hb); clear hb hbox hg; have hnb75 := NB177_148.out; have hnc75 := NB148_177.out; obtain ⟨hcz76_0, hcz76_1, hcz76_2, hcz76_3, hfz76_0, hfz76_1, hfz76_2, hfz76_3⟩ := cL4 BK177) | (go_at_call 37; (with_reducible refine (sys_far.calls ((rd_T92 x5_2 x79_3).f0) false _ A67.out).mono ?_); rintro e w' ⟨rfl, ⟨nd, rfl⟩⟩) | (go_at_call 37; (with_reducible refine (sys_far.calls ((rd_T92 x5_2 x79_3).f1) true _ A72.out).mono ?_); rintro e w' ⟨rfl, ⟨nd, rfl⟩⟩))
                                    go_ret3
                                    exact ⟨_, _, by first | rfl | (simp [errW_none, errW_some] <;> rfl) | (simp only [← hji2]; first | rfl | (simp [errW_none, errW_some] <;> rfl)) | (simp [*, errW_none, errW_some] <;> rfl), nK, nK, by repeat (first | (with_reducible first | exact HB.out | apply below_alloc | apply pw_below_drewN | apply below_drew1 | refine below_set ?_ GE148.out | refine below_set ?_ GE177.out) | exact HB.out)⟩
                                  · replace c73 := Bool.eq_false_iff.mpr c73
                                    subst c73
                                    have H1 : ((some (([(rd_T92 x5_2 x79_3).f0] : List Int) : List Int)).bind fun y180 => (if x2_3.length + y180.length < 17592186044416 then ((some (([(rd_T92 x5_2 x79_3).f1] : List Int) : List Int)).bind fun y186 => (if x3_3.length + y186.length < 17592186044416 then (sys_Bounds.l2 k3 (x2_3 ++ y180) (x3_3 ++ y186) x5_2 (x5_2.length : Int) (wrap64 (x79_3 + 1))) else (none))) else (none))) = some (r1, r2, r3) := by rw [if_neg (show ¬ (false = true) by decide)] at H; exact H
                                    clear H
                                    have H := H1
                                    clear H1
                                    obtain ⟨y180, hy180⟩ : ∃ y_ : List Int, y_ = (([(rd_T92 x5_2 x79_3).f0] : List Int)) := ⟨_, rfl⟩
                                    replace H : (if x2_3.length + y180.length < 17592186044416 then ((some (([(rd_T92 x5_2 x79_3).f1] : List Int) : List Int)).bind fun y186 => (if x3_3.length + y186.length < 17592186044416 then (sys_Bounds.l2 k3 (x2_3 ++ y180) (x3_3 ++ y186) x5_2 (x5_2.length : Int) (wrap64 (x79_3 + 1))) else (none))) else (none)) = some (r1, r2, r3) := by first | (rw [hy180]; with_reducible exact H) | (have H2_ := (Option.bind_some _ _).symm.trans H; rw [hy180]; with_reducible exact H2_) | (have H2_ := (Option.bind_some _ _).symm.trans H; with_reducible exact H2_) | with_reducible exact H | (rw [hy180]; exact H) | exact H
                                    have Ny180 := Aside0.mk hy180
                                    clear hy180
                                    by_cases c77 : x2_3.length + y180.length < 17592186044416
                                    · rw [if_pos c77] at H
                                      have LMc77 := Aside0.mk c77
                                      clear c77
                                      obtain ⟨y183, hy183⟩ : ∃ y_ : List Int, y_ = (x2_3 ++ y180) := ⟨_, rfl⟩
                                      replace H : ((some (([(rd_T92 x5_2 x79_3).f1] : List Int) : List Int)).bind fun y186 => (if x3_3.length + y186.length < 17592186044416 then (sys_Bounds.l2 k3 y183 (x3_3 ++ y186) x5_2 (x5_2.length : Int) (wrap64 (x79_3 + 1))) else (none))) = some (r1, r2, r3) := by first | (rw [hy183]; with_reducible exact H) | (have H2_ := (Option.bind_some _ _).symm.trans H; rw [hy183]; with_reducible exact H2_) | (have H2_ := (Option.bind_some _ _).symm.trans H; with_reducible exact H2_) | with_reducible exact H | (rw [hy183]; exact H) | exact H
                                      have Ny183 := Aside0.mk hy183
                                      clear hy183
                                      obtain ⟨y186, hy186⟩ : ∃ y_ : List Int, y_ = (([(rd_T92 x5_2 x79_3).f1] : List Int)) := ⟨_, rfl⟩
                                      replace H : (if x3_3.length + y186.length < 17592186044416 then (sys_Bounds.l2 k3 y183 (x3_3 ++ y186) x5_2 (x5_2.length : Int) (wrap64 (x79_3 + 1))) else (none)) = some (r1, r2, r3) := by first | (rw [hy186]; with_reducible exact H) | (have H2_ := (Option.bind_some _ _).symm.trans H; rw [hy186]; with_reducible exact H2_) | (have H2_ := (Option.bind_some _ _).symm.trans H; with_reducible exact H2_) | with_reducible exact H | (rw [hy186]; exact H) | exact H
                                      have Ny186 := Aside0.mk hy186
                                      clear hy186
                                      by_cases c78 : x3_3.length + y186.length < 17592186044416
                                      · rw [if_pos c78] at H
                                        have LMc78 := Aside0.mk c78
                                        clear c78
                                        obtain ⟨y189, hy189⟩ : ∃ y_ : List Int, y_ = (x3_3 ++ y186) := ⟨_, rfl⟩
                                        replace H : (sys_Bounds.l2 k3 y183 y189 x5_2 (x5_2.length : Int) (wrap64 (x79_3 + 1))) = some (r1, r2, r3) := by first | (rw [hy189]; with_reducible exact H) | (have H2_ := (Option.bind_some _ _).symm.trans H; rw [hy189]; with_reducible exact H2_) | (have H2_ := (Option.bind_some _ _).symm.trans H; with_reducible exact H2_) | with_reducible exact H | (rw [hy189]; exact H) | exact H
                                        have Ny189 := Aside0.mk hy189
                                        clear hy189
                                        have H' := Aside0.mk H
                                        clear H
                                        have p176 : 0 ≤ (x79_3 : Int) := of_decide_eq_true (by first | (with_reducible assumption) | assumption)
                                        have q176 : x79_3 < (x5_2.length : Int) := of_decide_eq_true (by first | (with_reducible assumption) | assumption)
                                        obtain ⟨ad176, e176, hx176_0, hx176_1, hx176_2, hx176_3⟩ := at_T92 (Kd.R_reads' HO_77.out).2.2 x79_3 p176 q176
                                        (try rw [← Nbq63.out] at hx176_2)
                                        (try rw [← Nbq65.out] at hx176_2)
                                        (try rw [← Nbq63.out] at hx176_3)
                                        (try rw [← Nbq65.out] at hx176_3)
                                        cases e176
                                        replace p176 := eq_true p176
                                        replace q176 := eq_true q176
                                        try go_wp2_with (first | ((with_reducible refine gate_dst (N := 13) rfl ?_); refine bxE 13 #[.int .i64 0, .int .i64 0, .bool false, .bool false] 92 ?_; intro gb177 hg w79 hbox hb; replace HO_2 := Aside0.mk (Kd.R_below (by (with_reducible repeat (first | apply Kd.R_alloc | apply Kd.R_drewN | apply Kd.R_drew)); exact HO_2.out) hb); replace HO_3 := Aside0.mk (Kd.R_below (by (with_reducible repeat (first | apply Kd.R_alloc | apply Kd.R_drewN | apply Kd.R_drew)); exact HO_3.out) hb); replace HO_77 := Aside0.mk (Kd.R_below (Kd.R_elderB (by (with_reducible repeat (first | apply Kd.R_alloc | apply Kd.R_drewN | apply Kd.R_drew)); exact HO_77.out) gb177 (Nat.le_of_eq hg.symm)) hb); have BK177 := Aside0.mk (hbox); have GW177 := Aside0.mk ((by rw [hg]; exact (below_size (by repeat (first | (with_reducible first | exact HB.out | apply below_alloc | apply pw_below_drewN | apply below_drew1 | refine below_set ?_ GE148.out) | exact HB.out))) : w.heap.size ≤ gb177)); have GE177 := Aside0.mk ((by rw [hg]; exact (below_size (by repeat (first | (with_reducible first | exact HB.out | apply below_alloc | apply pw_below_drewN | apply below_drew1 | refine below_set ?_ GE148.out) | exact HB.out))) : w.heap.size ≤ gb177)); replace HB := Aside0.mk (below_step (by repeat (first | (with_reducible first | exact HB.out | apply below_alloc | apply pw_below_drewN | apply below_drew1 | refine below_set ?_ GE148.out) | exact HB.out)) hb); have NB148_177 := Aside0.mk ((by rw [hg]; exact Nat.ne_of_lt (blk_lt (g := gb148) (o := .cells #[.int .i64 a0_0, .slice A0_1 l0_1.length c0_1, .slice A0_2 l0_2.length c0_2] 24 (0, 0)) (by (with_reducible repeat (first | refine blk_drewN ?_ _ | refine blk_drew ?_ | refine blk_alloc ?_ _)); exact BK148.out)) : gb148 ≠ gb177)); have NB177_148 := Aside0.mk ((by rw [hg]; exact Nat.ne_of_gt (blk_lt (g := gb148) (o := .cells #[.int .i64 a0_0, .slice A0_1 l0_1.length c0_1, .slice A0_2 l0_2.length c0_2] 24 (0, 0)) (by (with_reducible repeat (first | refine blk_drewN ?_ _ | refine blk_drew ?_ | refine blk_alloc ?_ _)); exact BK148.out)) : gb177 ≠ gb148)); replace BK148 := Aside0.mk (blk_below (g := gb148) (o := .cells #[.int .i64 a0_0, .slice A0_1 l0_1.length c0_1, .slice A0_2 l0_2.length c0_2] 24 (0, 0)) (by (with_reducible repeat (first | refine blk_drewN ?_ _ | refine blk_drew ?_ | refine blk_alloc ?_ _)); exact BK148.out) hb); clear hb hbox hg; have hnb80 := NB177_148.out; have hnc80 := NB148_177.out; obtain ⟨hcz81_0, hcz81_1, hcz81_2, hcz81_3, hfz81_0, hfz81_1, hfz81_2, hfz81_3⟩ := cL4 BK177) | (go_at_call 37; (with_reducible refine (sys_far.calls ((rd_T92 x5_2 x79_3).f0) false _ A67.out).mono ?_); rintro e w' ⟨rfl, ⟨nd, rfl⟩⟩) | (go_at_call 37; (with_reducible refine (sys_far.calls ((rd_T92 x5_2 x79_3).f1) false _ A72.out).mono ?_); rintro e w' ⟨rfl, ⟨nd, rfl⟩⟩; obtain ⟨Ao82, co82, eo82⟩ := Kd.R_slice HO_2.out; subst eo82; obtain ⟨Ao83, co83, eo83⟩ := Kd.R_slice HO_3.out; subst eo83))
                                        have n0_ : Aside0 (Kd.R (Kd.int .i64) 2 ((((w79.setCell ⟨gb177, 0, none⟩ (.int .i64 ((rd_T92 x5_2 x79_3).f0))).setCell ⟨gb177, 1, none⟩ (.int .i64 ((rd_T92 x5_2 x79_3).f1))).setCell ⟨gb177, 2, none⟩ (.bool true)).setCell ⟨gb177, 3, none⟩ (.bool true)) w.heap.size (fun k_ => some k_ ≠ (.slice Ao83 x3_3.length co83 : Value).ownBlock) (.slice Ao82 x2_3.length co82) x2_3) := ⟨by (with_reducible repeat (first | apply Kd.R_alloc | apply Kd.R_drewN | apply Kd.R_drew)); exact Kd.R_mono (Kd.R_far (p := ⟨gb177, 3, none⟩) (Kd.R_far (p := ⟨gb177, 2, none⟩) (Kd.R_far (p := ⟨gb177, 1, none⟩) (Kd.R_far (p := ⟨gb177, 0, none⟩) (Kd.R_types HO_2.out BK177.out (by decide)) (fun _ hk => hk.2) (.int .i64 ((rd_T92 x5_2 x79_3).f0))) (fun _ hk => hk.2) (.int .i64 ((rd_T92 x5_2 x79_3).f1))) (fun _ hk => hk.2) (.bool true)) (fun _ hk => hk.2) (.bool true)) (fun _ hk => hk.1)⟩
                                        have n1_ : Aside0 (Kd.R (Kd.int .i64) 2 ((((w79.setCell ⟨gb177, 0, none⟩ (.int .i64 ((rd_T92 x5_2 x79_3).f0))).setCell ⟨gb177, 1, none⟩ (.int .i64 ((rd_T92 x5_2 x79_3).f1))).setCell ⟨gb177, 2, none⟩ (.bool true)).setCell ⟨gb177, 3, none⟩ (.bool true)) w.heap.size (fun k_ => some k_ ≠ (.slice Ao82 x2_3.length co82 : Value).ownBlock) (.slice Ao83 x3_3.length co83) x3_3) := ⟨by (with_reducible repeat (first | apply Kd.R_alloc | apply Kd.R_drewN | apply Kd.R_drew)); exact Kd.R_mono (Kd.R_far (p := ⟨gb177, 3, none⟩) (Kd.R_far (p := ⟨gb177, 2, none⟩) (Kd.R_far (p := ⟨gb177, 1, none⟩) (Kd.R_far (p := ⟨gb177, 0, none⟩) (Kd.R_types HO_3.out BK177.out (by decide)) (fun _ hk => hk.2) (.int .i64 ((rd_T92 x5_2 x79_3).f0))) (fun _ hk => hk.2) (.int .i64 ((rd_T92 x5_2 x79_3).f1))) (fun _ hk => hk.2) (.bool true)) (fun _ hk => hk.2) (.bool true)) (fun _ hk => hk.1)⟩
                                        have n2_ : Aside0 (Kd.R k92 92 ((((w79.setCell ⟨gb177, 0, none⟩ (.int .i64 ((rd_T92 x5_2 x79_3).f0))).setCell ⟨gb177, 1, none⟩ (.int .i64 ((rd_T92 x5_2 x79_3).f1))).setCell ⟨gb177, 2, none⟩ (.bool true)).setCell ⟨gb177, 3, none⟩ (.bool true)) w.heap.size (fun k_ => k_ ≠ gb177) (.slice (some ad176) x5_2.length co59) x5_2) := ⟨by (with_reducible repeat (first | apply Kd.R_alloc | apply Kd.R_drewN | apply Kd.R_drew)); exact Kd.R_mono (Kd.R_far (p := ⟨gb177, 3, none⟩) (Kd.R_far (p := ⟨gb177, 2, none⟩) (Kd.R_far (p := ⟨gb177, 1, none⟩) (Kd.R_far (p := ⟨gb177, 0, none⟩) (Kd.R_mono HO_77.out (fun k_ hk => (⟨hk, hk.2⟩ : _ ∧ k_ ≠ gb177))) (fun _ hk => hk.2) (.int .i64 ((rd_T92 x5_2 x79_3).f0))) (fun _ hk => hk.2) (.int .i64 ((rd_T92 x5_2 x79_3).f1))) (fun _ hk => hk.2) (.bool true)) (fun _ hk => hk.2) (.bool true)) (fun _ hk => hk.1.2)⟩
                                        have n3_ : Aside0 (((((w79.setCell ⟨gb177, 0, none⟩ (.int .i64 ((rd_T92 x5_2 x79_3).f0))).setCell ⟨gb177, 1, none⟩ (.int .i64 ((rd_T92 x5_2 x79_3).f1))).setCell ⟨gb177, 2, none⟩ (.bool true)).setCell ⟨gb177, 3, none⟩ (.bool true)).heap[gb148]? = some (.cells #[.int .i64 a0_0, .slice A0_1 l0_1.length c0_1, .slice A0_2 l0_2.length c0_2] 24 (0, 0))) := ⟨by (with_reducible repeat (first | refine blk_drewN ?_ _ | refine blk_drew ?_ | refine blk_alloc ?_ _)); refine blk_far ?_ NB148_177.out _; (with_reducible repeat (first | refine blk_drewN ?_ _ | refine blk_drew ?_ | refine blk_alloc ?_ _)); refine blk_far ?_ NB148_177.out _; (with_reducible repeat (first | refine blk_drewN ?_ _ | refine blk_drew ?_ | refine blk_alloc ?_ _)); refine blk_far ?_ NB148_177.out _; (with_reducible repeat (first | refine blk_drewN ?_ _ | refine blk_drew ?_ | refine blk_alloc ?_ _)); refine blk_far ?_ NB148_177.out _; (with_reducible repeat (first | refine blk_drewN ?_ _ | refine blk_drew ?_ | refine blk_alloc ?_ _)); exact BK148.out⟩
                                        have n4_ : Aside0 (((((w79.setCell ⟨gb177, 0, none⟩ (.int .i64 ((rd_T92 x5_2 x79_3).f0))).setCell ⟨gb177, 1, none⟩ (.int .i64 ((rd_T92 x5_2 x79_3).f1))).setCell ⟨gb177, 2, none⟩ (.bool true)).setCell ⟨gb177, 3, none⟩ (.bool true)).heap[gb177]? = some (.cells #[.int .i64 ((rd_T92 x5_2 x79_3).f0), .int .i64 ((rd_T92 x5_2 x79_3).f1), .bool true, .bool true] 92 (0, 0))) := ⟨by (with_reducible repeat (first | refine blk_drewN ?_ _ | refine blk_drew ?_ | refine blk_alloc ?_ _)); refine blk_put (cs := #[.int .i64 ((rd_T92 x5_2 x79_3).f0), .int .i64 ((rd_T92 x5_2 x79_3).f1), .bool true, .bool false]) ?_ 3 _ rfl; (with_reducible repeat (first | refine blk_drewN ?_ _ | refine blk_drew ?_ | refine blk_alloc ?_ _)); refine blk_put (cs := #[.int .i64 ((rd_T92 x5_2 x79_3).f0), .int .i64 ((rd_T92 x5_2 x79_3).f1), .bool false, .bool false]) ?_ 2 _ rfl; (with_reducible repeat (first | refine blk_drewN ?_ _ | refine blk_drew ?_ | refine blk_alloc ?_ _)); refine blk_put (cs := #[.int .i64 ((rd_T92 x5_2 x79_3).f0), .int .i64 0, .bool false, .bool false]) ?_ 1 _ rfl; (with_reducible repeat (first | refine blk_drewN ?_ _ | refine blk_drew ?_ | refine blk_alloc ?_ _)); refine blk_put (cs := #[.int .i64 0, .int .i64 0, .bool false, .bool false]) ?_ 0 _ rfl; (with_reducible repeat (first | refine blk_drewN ?_ _ | refine blk_drew ?_ | refine blk_alloc ?_ _)); exact BK177.out⟩
                                        have n5_ : Aside0 (Below w.heap.size w ((((w79.setCell ⟨gb177, 0, none⟩ (.int .i64 ((rd_T92 x5_2 x79_3).f0))).setCell ⟨gb177, 1, none⟩ (.int .i64 ((rd_T92 x5_2 x79_3).f1))).setCell ⟨gb177, 2, none⟩ (.bool true)).setCell ⟨gb177, 3, none⟩ (.bool true))) := ⟨by repeat (first | (with_reducible first | exact HB.out | apply below_alloc | apply pw_below_drewN | apply below_drew1 | refine below_set ?_ GE148.out | refine below_set ?_ GE177.out) | exact HB.out)⟩
                                        (try clear HO_2)
                                        (try clear HO_3)
                                        (try clear HO_77)
                                        (try clear BK148)
                                        (try clear BK177)
                                        (try clear HB)
                                        generalize ((((w79.setCell ⟨gb177, 0, none⟩ (.int .i64 ((rd_T92 x5_2 x79_3).f0))).setCell ⟨gb177, 1, none⟩ (.int .i64 ((rd_T92 x5_2 x79_3).f1))).setCell ⟨gb177, 2, none⟩ (.bool true)).setCell ⟨gb177, 3, none⟩ (.bool true)) = w84 at n0_ n1_ n2_ n3_ n4_ n5_ ⊢
                                        have HO_2 := n0_
                                        have HO_3 := n1_
                                        have HO_77 := n2_
                                        have BK148 := n3_
                                        have BK177 := n4_
                                        have HB := n5_
                                        clear n0_ n1_ n2_ n3_ n4_ n5_
                                        (try (rw [drewN_self w84]; generalize hq_ : World.drewN w84 _ = w84; have n0_ : Aside0 (Kd.R (Kd.int .i64) 2 w84 w.heap.size (fun k_ => some k_ ≠ (.slice Ao83 x3_3.length co83 : Value).ownBlock) (.slice Ao82 x2_3.length co82) x2_3) := ⟨by rw [← hq_]; exact (by (with_reducible repeat (first | apply Kd.R_alloc | apply Kd.R_drewN | apply Kd.R_drew)); exact HO_2.out)⟩; have n1_ : Aside0 (Kd.R (Kd.int .i64) 2 w84 w.heap.size (fun k_ => some k_ ≠ (.slice Ao82 x2_3.length co82 : Value).ownBlock) (.slice Ao83 x3_3.length co83) x3_3) := ⟨by rw [← hq_]; exact (by (with_reducible repeat (first | apply Kd.R_alloc | apply Kd.R_drewN | apply Kd.R_drew)); exact HO_3.out)⟩; have n2_ : Aside0 (Kd.R k92 92 w84 w.heap.size (fun k_ => k_ ≠ gb177) (.slice (some ad176) x5_2.length co59) x5_2) := ⟨by rw [← hq_]; exact (by (with_reducible repeat (first | apply Kd.R_alloc | apply Kd.R_drewN | apply Kd.R_drew)); exact HO_77.out)⟩; have n3_ : Aside0 (w84.heap[gb148]? = some (.cells #[.int .i64 a0_0, .slice A0_1 l0_1.length c0_1, .slice A0_2 l0_2.length c0_2] 24 (0, 0))) := ⟨by rw [← hq_]; exact (by (with_reducible repeat (first | refine blk_drewN ?_ _ | refine blk_drew ?_ | refine blk_alloc ?_ _)); exact BK148.out)⟩; have n4_ : Aside0 (w84.heap[gb177]? = some (.cells #[.int .i64 ((rd_T92 x5_2 x79_3).f0), .int .i64 ((rd_T92 x5_2 x79_3).f1), .bool true, .bool true] 92 (0, 0))) := ⟨by rw [← hq_]; exact (by (with_reducible repeat (first | refine blk_drewN ?_ _ | refine blk_drew ?_ | refine blk_alloc ?_ _)); exact BK177.out)⟩; have n5_ : Aside0 (Below w.heap.size w w84) := ⟨by rw [← hq_]; exact (by repeat (first | (with_reducible first | exact HB.out | apply below_alloc | apply pw_below_drewN | apply below_drew1 | refine below_set ?_ GE148.out | refine below_set ?_ GE177.out) | exact HB.out))⟩; clear HO_2 HO_3 HO_77 BK148 BK177 HB hq_; have HO_2 := n0_; have HO_3 := n1_; have HO_77 := n2_; have BK148 := n3_; have BK177 := n4_; have HB := n5_; clear n0_ n1_ n2_ n3_ n4_ n5_))
                                        replace HO_2 := Aside0.mk (Kd.R_drew HO_2.out)
                                        replace HO_3 := Aside0.mk (Kd.R_drew HO_3.out)
                                        replace HO_77 := Aside0.mk (Kd.R_drew HO_77.out)
                                        replace BK148 := Aside0.mk (blk_drew BK148.out)
                                        replace BK177 := Aside0.mk (blk_drew BK177.out)
                                        replace HB := Aside0.mk (below_drew1 HB.out)
                                        refine start_ (n := 12) (S := fun w' => w'.cell? ⟨gb177, 0, none⟩ = some (.int .i64 ((rd_T92 x5_2 x79_3).f0)) ∧ w'.cell? ⟨gb177, 1, none⟩ = some (.int .i64 ((rd_T92 x5_2 x79_3).f1)) ∧ w'.cell? ⟨gb177, 2, none⟩ = some (.bool true) ∧ w'.cell? ⟨gb177, 3, none⟩ = some (.bool true)) (ds := []) (bts 12 0) (by kernel_rfl) rfl rfl ⟨(blk_cell BK177.out 0).trans rfl, (blk_cell BK177.out 1).trans rfl, (blk_cell BK177.out 2).trans rfl, (blk_cell BK177.out 3).trans rfl⟩ (fun hHeld => ?_); refine with_tabW sys_Bounds.tab22 sys_Bounds.bits22 (fun HT_ HW_ => ?_)
                                        generalize w84.drew = w85 at HO_2 HO_3 HO_77 BK148 BK177 HB hHeld ⊢
                                        refine pA 0 (some 101) 0 12 1 HT_ ?_
                                        refine pA 1 (some 102) 1 12 3 HT_ ?_
                                        refine pA 5 (some 106) 3 12 35 HT_ ?_
                                        refine pA 6 (some 107) 35 12 99 HT_ ?_
                                        refine tA4 2 (some 103) 99 12 103 HT_ HW_ hHeld ?_
                                        refine tA4 7 (some 108) 103 12 231 HT_ HW_ hHeld ?_
                                        refine join_ (σ := Value × Value × Value) 3 (bts 12 511) (fun s_ => [(104, s_.1), (105, s_.2.1), (109, s_.2.2)]) (fun s_ w' => (w'.cell? ⟨gb177, 0, none⟩ = some (.int .i64 ((rd_T92 x5_2 x79_3).f0)) ∧ w'.cell? ⟨gb177, 1, none⟩ = some (.int .i64 ((rd_T92 x5_2 x79_3).f1)) ∧ w'.cell? ⟨gb177, 2, none⟩ = some (.bool true) ∧ w'.cell? ⟨gb177, 3, none⟩ = some (.bool true)) ∧ (Kd.R (Kd.int .i64) 2 w' w.heap.size (fun k_ => some k_ ≠ (s_.2.1 : Value).ownBlock ∧ some k_ ≠ (s_.2.2 : Value).ownBlock ∧ some k_ ≠ (.slice Ao83 x3_3.length co83 : Value).ownBlock) s_.1 y180) ∧ (Kd.R (Kd.int .i64) 2 w' w.heap.size (fun k_ => some k_ ≠ (s_.1 : Value).ownBlock ∧ some k_ ≠ (s_.2.2 : Value).ownBlock ∧ some k_ ≠ (.slice Ao83 x3_3.length co83 : Value).ownBlock) s_.2.1 y183) ∧ (Kd.R (Kd.int .i64) 2 w' w.heap.size (fun k_ => some k_ ≠ (s_.1 : Value).ownBlock ∧ some k_ ≠ (s_.2.1 : Value).ownBlock ∧ some k_ ≠ (.slice Ao83 x3_3.length co83 : Value).ownBlock) s_.2.2 y186) ∧ (Kd.R (Kd.int .i64) 2 w' w.heap.size (fun k_ => some k_ ≠ (s_.1 : Value).ownBlock ∧ some k_ ≠ (s_.2.1 : Value).ownBlock ∧ some k_ ≠ (s_.2.2 : Value).ownBlock) (.slice Ao83 x3_3.length co83) x3_3) ∧ (Kd.R k92 92 w' w.heap.size (fun k_ => k_ ≠ gb177) (.slice (some ad176) x5_2.length co59) x5_2) ∧ (w'.heap[gb148]? = some (.cells #[.int .i64 a0_0, .slice A0_1 l0_1.length c0_1, .slice A0_2 l0_2.length c0_2] 24 (0, 0))) ∧ (w'.heap[gb177]? = some (.cells #[.int .i64 ((rd_T92 x5_2 x79_3).f0), .int .i64 ((rd_T92 x5_2 x79_3).f1), .bool true, .bool true] 92 (0, 0))) ∧ (Below w.heap.size w w')) ?_ ?_
                                        rotate_left
                                        · intro hCont
                                          refine two_ (i := 3) (j := 8) (Ni := some 104) (Nj := some 109) (bts 12 239) (bts 12 487) rfl rfl rfl rfl (two_of HT_.out (by kernel_rfl)) (by decide) (by decide) (fun K hK => ?_) (fun K hK => ?_)
                                          · skip
                                            refine Kd.R_lit_step (Kd.int .i64) _ 2 ?hg (N := 104) ?hd (xs := ([(rd_T92 x5_2 x79_3).f0] : List Int)) (inner := [.int .i64 ((rd_T92 x5_2 x79_3).f0)]) (ok := fun _ => True) (okp := fun _ => True) ?hr ?hp (fun _ hk => hk) trivial (Below.refl _ _) (Nat.le_refl _) (by simp) ?_; (case hd => rfl); (case hg => rfl); (case hr => first | (go_simp; done) | (go_simp; rfl)); (case hp => exact (Reps.one (show Kd.M (Kd.int .i64) _ _ _ ((rd_T92 x5_2 x79_3).f0) [.int .i64 ((rd_T92 x5_2 x79_3).f0)] from rfl) (Reps.none _ _)))
                                            intro v181 w86 ho87 hb hg_ hnew_
                                            clear hg_ hnew_
                                            (first | rw [← Ny180.out] at ho87 | (simp only [Int.reduceToNat] at ho87; rw [← Ny180.out] at ho87))
                                            replace HO_77 := Aside0.mk (Kd.R_below (by (with_reducible repeat (first | apply Kd.R_alloc | apply Kd.R_drewN | apply Kd.R_drew)); exact HO_77.out) hb)
                                            have HO182 := Aside0.mk (Kd.R_lower (Kd.R_new' (Kd.R_new' ho87 (Kd.R_lt (by (with_reducible repeat (first | apply Kd.R_alloc | apply Kd.R_drewN | apply Kd.R_drew)); exact HO_2.out))) (Kd.R_lt (by (with_reducible repeat (first | apply Kd.R_alloc | apply Kd.R_drewN | apply Kd.R_drew)); exact HO_3.out))) (below_size (by repeat (first | (with_reducible first | exact HB.out | apply below_alloc | apply pw_below_drewN | apply below_drew1 | refine below_set ?_ GE148.out | refine below_set ?_ GE177.out) | exact HB.out))))
                                            replace HO_2 := Aside0.mk (Kd.R_elder' (by (with_reducible repeat (first | apply Kd.R_alloc | apply Kd.R_drewN | apply Kd.R_drew)); exact HO_2.out) (Kd.R_base ho87) hb)
                                            replace HO_3 := Aside0.mk (Kd.R_elder' (by (with_reducible repeat (first | apply Kd.R_alloc | apply Kd.R_drewN | apply Kd.R_drew)); exact HO_3.out) (Kd.R_base ho87) hb)
                                            replace BK148 := Aside0.mk (blk_below (g := gb148) (o := .cells #[.int .i64 a0_0, .slice A0_1 l0_1.length c0_1, .slice A0_2 l0_2.length c0_2] 24 (0, 0)) (by (with_reducible repeat (first | refine blk_drewN ?_ _ | refine blk_drew ?_ | refine blk_alloc ?_ _)); exact BK148.out) hb)
                                            replace BK177 := Aside0.mk (blk_below (g := gb177) (o := .cells #[.int .i64 ((rd_T92 x5_2 x79_3).f0), .int .i64 ((rd_T92 x5_2 x79_3).f1), .bool true, .bool true] 92 (0, 0)) (by (with_reducible repeat (first | refine blk_drewN ?_ _ | refine blk_drew ?_ | refine blk_alloc ?_ _)); exact BK177.out) hb)
                                            replace HB := Aside0.mk (below_step (by repeat (first | (with_reducible first | exact HB.out | apply below_alloc | apply pw_below_drewN | apply below_drew1 | refine below_set ?_ GE148.out | refine below_set ?_ GE177.out) | exact HB.out)) hb)
                                            clear hb ho87
                                            obtain ⟨Ao89, co89, eo89⟩ := Kd.R_slice HO182.out
                                            (first | subst eo89 | (injection eo89 with f1_ f2_ f3_; have f4_ := f1_.symm; have f5_ := f3_.symm; clear f1_ f2_ f3_; subst f4_; subst f5_))
                                            refine hK.out _ _ ⟨(blk_cell BK177.out 0).trans rfl, (blk_cell BK177.out 1).trans rfl, (blk_cell BK177.out 2).trans rfl, (blk_cell BK177.out 3).trans rfl⟩ (fun hHeld => ?_)
                                            clear hK K
                                            refine norm_ (a' := ?_) ?_ ?_
                                            rotate_left
                                            · show Act.put _ (some 104) _ = _
                                              simp only [Act.put, List.setIfInBounds_toArray, List.set_cons_zero, List.set_cons_succ, i64_w, i32_w]
                                              rfl
                                            refine two_ (i := 4) (j := 8) (Ni := some 105) (Nj := some 109) (bts 12 255) (bts 12 495) rfl rfl rfl rfl (two_of HT_.out (by kernel_rfl)) (by decide) (by decide) (fun K hK => ?_) (fun K hK => ?_)
                                            · skip
                                              refine Kd.R_append_rows_step (Kd.int .i64) (w0 := w) w.heap.size (by rfl) (.tmp 101) (.tmp 104) 44 2 (.int .i64 0) 8 rfl Tryd.underlying44 info2 rfl (by decide) (by omega) (.slice Ao82 x2_3.length co82) x2_3 y180 _ _ _ (fun k_ => some k_ ≠ (.slice Ao83 x3_3.length co83 : Value).ownBlock ∧ some k_ ≠ (.slice Ao89 y180.length co89 : Value).ownBlock) (fun _ => False) rfl rfl ?aO ?aR (fun _ _ h => h) (fun _ h => h.elim) ?aF ?aB ?aS ?aL ?_
                                              (case aR => exact uC ((Kd.R_reads' HO182.out).2.2))
                                              (case aB => exact (by repeat (first | (with_reducible first | exact HB.out | apply below_alloc | apply pw_below_drewN | apply below_drew1 | refine below_set ?_ GE148.out | refine below_set ?_ GE177.out) | exact HB.out)))
                                              (case aF => exact (fun k_ hk => ⟨Kd.fresh' (Kd.R_lt (by (with_reducible repeat (first | apply Kd.R_alloc | apply Kd.R_drewN | apply Kd.R_drew)); exact HO_3.out)) k_ hk, Kd.fresh' (Kd.R_lt (by (with_reducible repeat (first | apply Kd.R_alloc | apply Kd.R_drewN | apply Kd.R_drew)); exact HO182.out)) k_ hk⟩))
                                              (case aO => exact (by (with_reducible repeat (first | apply Kd.R_alloc | apply Kd.R_drewN | apply Kd.R_drew)); exact HO_2.out))
                                              (case aS => exact (below_size (by repeat (first | (with_reducible first | exact HB.out | apply below_alloc | apply pw_below_drewN | apply below_drew1 | refine below_set ?_ GE148.out | refine below_set ?_ GE177.out) | exact HB.out))))
                                              (case aL => have := LMc77.out; omega)
                                              intro v184 w88 ho hb hg hat
                                              rw [← Ny183.out] at ho
                                              have n0_ := Aside0.mk (Kd.R_after (ok := (fun k_ => some k_ ≠ (.slice Ao89 y180.length co89 : Value).ownBlock)) (by (with_reducible repeat (first | apply Kd.R_alloc | apply Kd.R_drewN | apply Kd.R_drew)); exact Kd.R_mono HO_3.out (fun _ hk => ⟨hk.2, hk.1⟩)) hg hat)
                                              have n1_ := Aside0.mk (Kd.R_over' (by (with_reducible repeat (first | apply Kd.R_alloc | apply Kd.R_drewN | apply Kd.R_drew)); exact HO_77.out) (Kd.R_typed (by (with_reducible repeat (first | apply Kd.R_alloc | apply Kd.R_drewN | apply Kd.R_drew)); exact HO_2.out)) (by decide) hg)
                                              have n2_ := Aside0.mk (blk_grown (g := gb148) (o := .cells #[.int .i64 a0_0, .slice A0_1 l0_1.length c0_1, .slice A0_2 l0_2.length c0_2] 24 (0, 0)) (by (with_reducible repeat (first | refine blk_drewN ?_ _ | refine blk_drew ?_ | refine blk_alloc ?_ _)); exact BK148.out) hg (Kd.R_ne HO_2.out BK148.out (by decide)))
                                              have n3_ := Aside0.mk (blk_grown (g := gb177) (o := .cells #[.int .i64 ((rd_T92 x5_2 x79_3).f0), .int .i64 ((rd_T92 x5_2 x79_3).f1), .bool true, .bool true] 92 (0, 0)) (by (with_reducible repeat (first | refine blk_drewN ?_ _ | refine blk_drew ?_ | refine blk_alloc ?_ _)); exact BK177.out) hg (Kd.R_ne HO_2.out BK177.out (by decide)))
                                              have n4_ := Aside0.mk (Kd.R_after (ok := (fun k_ => some k_ ≠ (.slice Ao83 x3_3.length co83 : Value).ownBlock)) (by (with_reducible repeat (first | apply Kd.R_alloc | apply Kd.R_drewN | apply Kd.R_drew)); exact Kd.R_mono HO182.out (fun _ hk => ⟨hk.2, hk.1.2⟩)) hg hat)
                                              have n5_ := Aside0.mk (hb)
                                              have n6_ := Aside0.mk (ho)
                                              clear HO_3
                                              clear HO_77
                                              clear BK148
                                              clear BK177
                                              clear HO182
                                              clear HB
                                              clear HO_2
                                              have HO_3 := n0_
                                              have HO_77 := n1_
                                              have BK148 := n2_
                                              have BK177 := n3_
                                              have HO182 := n4_
                                              have HB := n5_
                                              have HO185 := n6_
                                              clear n0_ n1_ n2_ n3_ n4_ n5_ n6_
                                              clear ho hb hg hat
                                              refine hK.out _ _ ⟨(blk_cell BK177.out 0).trans rfl, (blk_cell BK177.out 1).trans rfl, (blk_cell BK177.out 2).trans rfl, (blk_cell BK177.out 3).trans rfl⟩ (fun hHeld => ?_)
                                              clear hK K
                                              refine norm_ (a' := ?_) ?_ ?_
                                              rotate_left
                                              · show Act.put _ (some 105) _ = _
                                                simp only [Act.put, List.setIfInBounds_toArray, List.set_cons_zero, List.set_cons_succ, i64_w, i32_w]
                                                rfl
                                              refine one_ (i := 8) (N := some 109) (bts 12 511) rfl rfl (one_of HT_.out (by kernel_rfl)) (by decide) (fun K hK => ?_)
                                              refine Kd.R_lit_step (Kd.int .i64) _ 2 ?hg (N := 109) ?hd (xs := ([(rd_T92 x5_2 x79_3).f1] : List Int)) (inner := [.int .i64 ((rd_T92 x5_2 x79_3).f1)]) (ok := fun _ => True) (okp := fun _ => True) ?hr ?hp (fun _ hk => hk) trivial (Below.refl _ _) (Nat.le_refl _) (by simp) ?_; (case hd => rfl); (case hg => rfl); (case hr => first | (go_simp; done) | (go_simp; rfl)); (case hp => exact (Reps.one (show Kd.M (Kd.int .i64) _ _ _ ((rd_T92 x5_2 x79_3).f1) [.int .i64 ((rd_T92 x5_2 x79_3).f1)] from rfl) (Reps.none _ _)))
                                              intro v187 w90 ho91 hb hg_ hnew_
                                              clear hg_ hnew_
                                              (first | rw [← Ny186.out] at ho91 | (simp only [Int.reduceToNat] at ho91; rw [← Ny186.out] at ho91))
                                              replace HO_77 := Aside0.mk (Kd.R_below (by (with_reducible repeat (first | apply Kd.R_alloc | apply Kd.R_drewN | apply Kd.R_drew)); exact HO_77.out) hb)
                                              have HO188 := Aside0.mk (Kd.R_lower (Kd.R_new' (Kd.R_new' (Kd.R_new' ho91 (Kd.R_lt (by (with_reducible repeat (first | apply Kd.R_alloc | apply Kd.R_drewN | apply Kd.R_drew)); exact HO_3.out))) (Kd.R_lt (by (with_reducible repeat (first | apply Kd.R_alloc | apply Kd.R_drewN | apply Kd.R_drew)); exact HO182.out))) (Kd.R_lt (by (with_reducible repeat (first | apply Kd.R_alloc | apply Kd.R_drewN | apply Kd.R_drew)); exact HO185.out))) (below_size (by repeat (first | (with_reducible first | exact HB.out | apply below_alloc | apply pw_below_drewN | apply below_drew1 | refine below_set ?_ GE148.out | refine below_set ?_ GE177.out) | exact HB.out))))
                                              replace HO_3 := Aside0.mk (Kd.R_elder' (by (with_reducible repeat (first | apply Kd.R_alloc | apply Kd.R_drewN | apply Kd.R_drew)); exact HO_3.out) (Kd.R_base ho91) hb)
                                              replace HO182 := Aside0.mk (Kd.R_elder' (by (with_reducible repeat (first | apply Kd.R_alloc | apply Kd.R_drewN | apply Kd.R_drew)); exact HO182.out) (Kd.R_base ho91) hb)
                                              replace HO185 := Aside0.mk (Kd.R_elder' (by (with_reducible repeat (first | apply Kd.R_alloc | apply Kd.R_drewN | apply Kd.R_drew)); exact HO185.out) (Kd.R_base ho91) hb)
                                              replace BK148 := Aside0.mk (blk_below (g := gb148) (o := .cells #[.int .i64 a0_0, .slice A0_1 l0_1.length c0_1, .slice A0_2 l0_2.length c0_2] 24 (0, 0)) (by (with_reducible repeat (first | refine blk_drewN ?_ _ | refine blk_drew ?_ | refine blk_alloc ?_ _)); exact BK148.out) hb)
                                              replace BK177 := Aside0.mk (blk_below (g := gb177) (o := .cells #[.int .i64 ((rd_T92 x5_2 x79_3).f0), .int .i64 ((rd_T92 x5_2 x79_3).f1), .bool true, .bool true] 92 (0, 0)) (by (with_reducible repeat (first | refine blk_drewN ?_ _ | refine blk_drew ?_ | refine blk_alloc ?_ _)); exact BK177.out) hb)
                                              replace HB := Aside0.mk (below_step (by repeat (first | (with_reducible first | exact HB.out | apply below_alloc | apply pw_below_drewN | apply below_drew1 | refine below_set ?_ GE148.out | refine below_set ?_ GE177.out) | exact HB.out)) hb)
                                              clear hb ho91
                                              refine hK.out _ _ ⟨(blk_cell BK177.out 0).trans rfl, (blk_cell BK177.out 1).trans rfl, (blk_cell BK177.out 2).trans rfl, (blk_cell BK177.out 3).trans rfl⟩ (fun hHeld => ?_)
                                              clear hK K
                                              refine norm_ (a' := ?_) ?_ ?_
                                              rotate_left
                                              · show Act.put _ (some 109) _ = _
                                                simp only [Act.put, List.setIfInBounds_toArray, List.set_cons_zero, List.set_cons_succ, i64_w, i32_w]
                                                rfl
                                              exact norm_ (by first | (simp only [putAll, Act.put, List.setIfInBounds_toArray, List.set_cons_zero, List.set_cons_succ]; done) | (simp only [putAll, Act.put, List.setIfInBounds_toArray, List.set_cons_zero, List.set_cons_succ, *]; done)) (hCont (.slice Ao89 y180.length co89, v184, v187) _ ⟨hHeld, (by (with_reducible repeat (first | apply Kd.R_alloc | apply Kd.R_drewN | apply Kd.R_drew)); exact Kd.R_mono HO182.out (fun _ hk => ⟨hk.1.2, ⟨hk.2, hk.1.1⟩⟩)), (by (with_reducible repeat (first | apply Kd.R_alloc | apply Kd.R_drewN | apply Kd.R_drew)); exact Kd.R_mono HO185.out (fun _ hk => ⟨hk.1.2, ⟨hk.2, hk.1.1⟩⟩)), (by (with_reducible repeat (first | apply Kd.R_alloc | apply Kd.R_drewN | apply Kd.R_drew)); exact Kd.R_mono HO188.out (fun _ hk => ⟨hk.1.2, ⟨hk.2, hk.1.1.2⟩⟩)), (by (with_reducible repeat (first | apply Kd.R_alloc | apply Kd.R_drewN | apply Kd.R_drew)); exact Kd.R_mono HO_3.out (fun _ hk => ⟨hk.1.1, ⟨hk.1.2, hk.2⟩⟩)), (by (with_reducible repeat (first | apply Kd.R_alloc | apply Kd.R_drewN | apply Kd.R_drew)); exact HO_77.out), (by (with_reducible repeat (first | refine blk_drewN ?_ _ | refine blk_drew ?_ | refine blk_alloc ?_ _)); exact BK148.out), (by (with_reducible repeat (first | refine blk_drewN ?_ _ | refine blk_drew ?_ | refine blk_alloc ?_ _)); exact BK177.out), (by repeat (first | (with_reducible first | exact HB.out | apply below_alloc | apply pw_below_drewN | apply below_drew1 | refine below_set ?_ GE148.out | refine below_set ?_ GE177.out) | exact HB.out))⟩)
                                            · skip
                                              refine Kd.R_lit_step (Kd.int .i64) _ 2 ?hg (N := 109) ?hd (xs := ([(rd_T92 x5_2 x79_3).f1] : List Int)) (inner := [.int .i64 ((rd_T92 x5_2 x79_3).f1)]) (ok := fun _ => True) (okp := fun _ => True) ?hr ?hp (fun _ hk => hk) trivial (Below.refl _ _) (Nat.le_refl _) (by simp) ?_; (case hd => rfl); (case hg => rfl); (case hr => first | (go_simp; done) | (go_simp; rfl)); (case hp => exact (Reps.one (show Kd.M (Kd.int .i64) _ _ _ ((rd_T92 x5_2 x79_3).f1) [.int .i64 ((rd_T92 x5_2 x79_3).f1)] from rfl) (Reps.none _ _)))
                                              intro v187 w88 ho89 hb hg_ hnew_
                                              clear hg_ hnew_
                                              (first | rw [← Ny186.out] at ho89 | (simp only [Int.reduceToNat] at ho89; rw [← Ny186.out] at ho89))
                                              replace HO_77 := Aside0.mk (Kd.R_below (by (with_reducible repeat (first | apply Kd.R_alloc | apply Kd.R_drewN | apply Kd.R_drew)); exact HO_77.out) hb)
                                              have HO188 := Aside0.mk (Kd.R_lower (Kd.R_new' (Kd.R_new' (Kd.R_new' ho89 (Kd.R_lt (by (with_reducible repeat (first | apply Kd.R_alloc | apply Kd.R_drewN | apply Kd.R_drew)); exact HO_2.out))) (Kd.R_lt (by (with_reducible repeat (first | apply Kd.R_alloc | apply Kd.R_drewN | apply Kd.R_drew)); exact HO_3.out))) (Kd.R_lt (by (with_reducible repeat (first | apply Kd.R_alloc | apply Kd.R_drewN | apply Kd.R_drew)); exact HO182.out))) (below_size (by repeat (first | (with_reducible first | exact HB.out | apply below_alloc | apply pw_below_drewN | apply below_drew1 | refine below_set ?_ GE148.out | refine below_set ?_ GE177.out) | exact HB.out))))
                                              replace HO_2 := Aside0.mk (Kd.R_elder' (by (with_reducible repeat (first | apply Kd.R_alloc | apply Kd.R_drewN | apply Kd.R_drew)); exact HO_2.out) (Kd.R_base ho89) hb)
                                              replace HO_3 := Aside0.mk (Kd.R_elder' (by (with_reducible repeat (first | apply Kd.R_alloc | apply Kd.R_drewN | apply Kd.R_drew)); exact HO_3.out) (Kd.R_base ho89) hb)
                                              replace HO182 := Aside0.mk (Kd.R_elder' (by (with_reducible repeat (first | apply Kd.R_alloc | apply Kd.R_drewN | apply Kd.R_drew)); exact HO182.out) (Kd.R_base ho89) hb)
                                              replace BK148 := Aside0.mk (blk_below (g := gb148) (o := .cells #[.int .i64 a0_0, .slice A0_1 l0_1.length c0_1, .slice A0_2 l0_2.length c0_2] 24 (0, 0)) (by (with_reducible repeat (first | refine blk_drewN ?_ _ | refine blk_drew ?_ | refine blk_alloc ?_ _)); exact BK148.out) hb)
                                              replace BK177 := Aside0.mk (blk_below (g := gb177) (o := .cells #[.int .i64 ((rd_T92 x5_2 x79_3).f0), .int .i64 ((rd_T92 x5_2 x79_3).f1), .bool true, .bool true] 92 (0, 0)) (by (with_reducible repeat (first | refine blk_drewN ?_ _ | refine blk_drew ?_ | refine blk_alloc ?_ _)); exact BK177.out) hb)
                                              replace HB := Aside0.mk (below_step (by repeat (first | (with_reducible first | exact HB.out | apply below_alloc | apply pw_below_drewN | apply below_drew1 | refine below_set ?_ GE148.out | refine below_set ?_ GE177.out) | exact HB.out)) hb)
                                              clear hb ho89
                                              obtain ⟨Ao91, co91, eo91⟩ := Kd.R_slice HO182.out
                                              (first | subst eo91 | (injection eo91 with f1_ f2_ f3_; have f4_ := f1_.symm; have f5_ := f3_.symm; clear f1_ f2_ f3_; subst f4_; subst f5_))
                                              refine hK.out _ _ ⟨(blk_cell BK177.out 0).trans rfl, (blk_cell BK177.out 1).trans rfl, (blk_cell BK177.out 2).trans rfl, (blk_cell BK177.out 3).trans rfl⟩ (fun hHeld => ?_)
                                              clear hK K
                                              refine norm_ (a' := ?_) ?_ ?_
                                              rotate_left
                                              · show Act.put _ (some 109) _ = _
                                                simp only [Act.put, List.setIfInBounds_toArray, List.set_cons_zero, List.set_cons_succ, i64_w, i32_w]
                                                rfl
                                              refine one_ (i := 4) (N := some 105) (bts 12 511) rfl rfl (one_of HT_.out (by kernel_rfl)) (by decide) (fun K hK => ?_)
                                              refine Kd.R_append_rows_step (Kd.int .i64) (w0 := w) w.heap.size (by rfl) (.tmp 101) (.tmp 104) 44 2 (.int .i64 0) 8 rfl Tryd.underlying44 info2 rfl (by decide) (by omega) (.slice Ao82 x2_3.length co82) x2_3 y180 _ _ _ (fun k_ => some k_ ≠ (.slice Ao83 x3_3.length co83 : Value).ownBlock ∧ some k_ ≠ (.slice Ao91 y180.length co91 : Value).ownBlock ∧ some k_ ≠ (v187 : Value).ownBlock) (fun _ => False) rfl rfl ?aO ?aR (fun _ _ h => h) (fun _ h => h.elim) ?aF ?aB ?aS ?aL ?_
                                              (case aR => exact uC ((Kd.R_reads' HO182.out).2.2))
                                              (case aB => exact (by repeat (first | (with_reducible first | exact HB.out | apply below_alloc | apply pw_below_drewN | apply below_drew1 | refine below_set ?_ GE148.out | refine below_set ?_ GE177.out) | exact HB.out)))
                                              (case aF => exact (fun k_ hk => ⟨Kd.fresh' (Kd.R_lt (by (with_reducible repeat (first | apply Kd.R_alloc | apply Kd.R_drewN | apply Kd.R_drew)); exact HO_3.out)) k_ hk, Kd.fresh' (Kd.R_lt (by (with_reducible repeat (first | apply Kd.R_alloc | apply Kd.R_drewN | apply Kd.R_drew)); exact HO182.out)) k_ hk, Kd.fresh' (Kd.R_lt (by (with_reducible repeat (first | apply Kd.R_alloc | apply Kd.R_drewN | apply Kd.R_drew)); exact HO188.out)) k_ hk⟩))
                                              (case aO => exact (by (with_reducible repeat (first | apply Kd.R_alloc | apply Kd.R_drewN | apply Kd.R_drew)); exact Kd.R_mono HO_2.out (fun _ hk => ⟨hk.1.1, ⟨hk.1.2, hk.2⟩⟩)))
                                              (case aS => exact (below_size (by repeat (first | (with_reducible first | exact HB.out | apply below_alloc | apply pw_below_drewN | apply below_drew1 | refine below_set ?_ GE148.out | refine below_set ?_ GE177.out) | exact HB.out))))
                                              (case aL => have := LMc77.out; omega)
                                              intro v184 w90 ho hb hg hat
                                              rw [← Ny183.out] at ho
                                              have n0_ := Aside0.mk (Kd.R_after (ok := (fun k_ => some k_ ≠ (.slice Ao91 y180.length co91 : Value).ownBlock ∧ some k_ ≠ (v187 : Value).ownBlock)) (by (with_reducible repeat (first | apply Kd.R_alloc | apply Kd.R_drewN | apply Kd.R_drew)); exact Kd.R_mono HO_3.out (fun _ hk => ⟨⟨hk.1.2, hk.2⟩, hk.1.1⟩)) hg hat)
                                              have n1_ := Aside0.mk (Kd.R_over' (by (with_reducible repeat (first | apply Kd.R_alloc | apply Kd.R_drewN | apply Kd.R_drew)); exact HO_77.out) (Kd.R_typed (by (with_reducible repeat (first | apply Kd.R_alloc | apply Kd.R_drewN | apply Kd.R_drew)); exact HO_2.out)) (by decide) hg)
                                              have n2_ := Aside0.mk (blk_grown (g := gb148) (o := .cells #[.int .i64 a0_0, .slice A0_1 l0_1.length c0_1, .slice A0_2 l0_2.length c0_2] 24 (0, 0)) (by (with_reducible repeat (first | refine blk_drewN ?_ _ | refine blk_drew ?_ | refine blk_alloc ?_ _)); exact BK148.out) hg (Kd.R_ne HO_2.out BK148.out (by decide)))
                                              have n3_ := Aside0.mk (blk_grown (g := gb177) (o := .cells #[.int .i64 ((rd_T92 x5_2 x79_3).f0), .int .i64 ((rd_T92 x5_2 x79_3).f1), .bool true, .bool true] 92 (0, 0)) (by (with_reducible repeat (first | refine blk_drewN ?_ _ | refine blk_drew ?_ | refine blk_alloc ?_ _)); exact BK177.out) hg (Kd.R_ne HO_2.out BK177.out (by decide)))
                                              have n4_ := Aside0.mk (Kd.R_after (ok := (fun k_ => some k_ ≠ (.slice Ao83 x3_3.length co83 : Value).ownBlock ∧ some k_ ≠ (v187 : Value).ownBlock)) (by (with_reducible repeat (first | apply Kd.R_alloc | apply Kd.R_drewN | apply Kd.R_drew)); exact Kd.R_mono HO182.out (fun _ hk => ⟨⟨hk.1.2, hk.2⟩, hk.1.1.2⟩)) hg hat)
                                              have n5_ := Aside0.mk (Kd.R_after (ok := (fun k_ => some k_ ≠ (.slice Ao83 x3_3.length co83 : Value).ownBlock ∧ some k_ ≠ (.slice Ao91 y180.length co91 : Value).ownBlock)) (by (with_reducible repeat (first | apply Kd.R_alloc | apply Kd.R_drewN | apply Kd.R_drew)); exact Kd.R_mono HO188.out (fun _ hk => ⟨⟨hk.1.2, hk.2⟩, hk.1.1.2⟩)) hg hat)
                                              have n6_ := Aside0.mk (hb)
                                              have n7_ := Aside0.mk (ho)
                                              clear HO_3
                                              clear HO_77
                                              clear BK148
                                              clear BK177
                                              clear HO182
                                              clear HO188
                                              clear HB
                                              clear HO_2
                                              have HO_3 := n0_
                                              have HO_77 := n1_
                                              have BK148 := n2_
                                              have BK177 := n3_
                                              have HO182 := n4_
                                              have HO188 := n5_
                                              have HB := n6_
                                              have HO185 := n7_
                                              clear n0_ n1_ n2_ n3_ n4_ n5_ n6_ n7_
                                              clear ho hb hg hat
                                              refine hK.out _ _ ⟨(blk_cell BK177.out 0).trans rfl, (blk_cell BK177.out 1).trans rfl, (blk_cell BK177.out 2).trans rfl, (blk_cell BK177.out 3).trans rfl⟩ (fun hHeld => ?_)
                                              clear hK K
                                              refine norm_ (a' := ?_) ?_ ?_
                                              rotate_left
                                              · show Act.put _ (some 105) _ = _
                                                simp only [Act.put, List.setIfInBounds_toArray, List.set_cons_zero, List.set_cons_succ, i64_w, i32_w]
                                                rfl
                                              exact norm_ (by first | (simp only [putAll, Act.put, List.setIfInBounds_toArray, List.set_cons_zero, List.set_cons_succ]; done) | (simp only [putAll, Act.put, List.setIfInBounds_toArray, List.set_cons_zero, List.set_cons_succ, *]; done)) (hCont (.slice Ao91 y180.length co91, v184, v187) _ ⟨hHeld, (by (with_reducible repeat (first | apply Kd.R_alloc | apply Kd.R_drewN | apply Kd.R_drew)); exact Kd.R_mono HO182.out (fun _ hk => ⟨hk.2, ⟨hk.1.2, hk.1.1⟩⟩)), (by (with_reducible repeat (first | apply Kd.R_alloc | apply Kd.R_drewN | apply Kd.R_drew)); exact Kd.R_mono HO185.out (fun _ hk => ⟨hk.2.1, ⟨hk.2.2, hk.1⟩⟩)), (by (with_reducible repeat (first | apply Kd.R_alloc | apply Kd.R_drewN | apply Kd.R_drew)); exact Kd.R_mono HO188.out (fun _ hk => ⟨hk.1.2, ⟨hk.2, hk.1.1⟩⟩)), (by (with_reducible repeat (first | apply Kd.R_alloc | apply Kd.R_drewN | apply Kd.R_drew)); exact Kd.R_mono HO_3.out (fun _ hk => ⟨hk.1.1, ⟨hk.2, hk.1.2⟩⟩)), (by (with_reducible repeat (first | apply Kd.R_alloc | apply Kd.R_drewN | apply Kd.R_drew)); exact HO_77.out), (by (with_reducible repeat (first | refine blk_drewN ?_ _ | refine blk_drew ?_ | refine blk_alloc ?_ _)); exact BK148.out), (by (with_reducible repeat (first | refine blk_drewN ?_ _ | refine blk_drew ?_ | refine blk_alloc ?_ _)); exact BK177.out), (by repeat (first | (with_reducible first | exact HB.out | apply below_alloc | apply pw_below_drewN | apply below_drew1 | refine below_set ?_ GE148.out | refine below_set ?_ GE177.out) | exact HB.out))⟩)
                                          · skip
                                            refine Kd.R_lit_step (Kd.int .i64) _ 2 ?hg (N := 109) ?hd (xs := ([(rd_T92 x5_2 x79_3).f1] : List Int)) (inner := [.int .i64 ((rd_T92 x5_2 x79_3).f1)]) (ok := fun _ => True) (okp := fun _ => True) ?hr ?hp (fun _ hk => hk) trivial (Below.refl _ _) (Nat.le_refl _) (by simp) ?_; (case hd => rfl); (case hg => rfl); (case hr => first | (go_simp; done) | (go_simp; rfl)); (case hp => exact (Reps.one (show Kd.M (Kd.int .i64) _ _ _ ((rd_T92 x5_2 x79_3).f1) [.int .i64 ((rd_T92 x5_2 x79_3).f1)] from rfl) (Reps.none _ _)))
                                            intro v187 w86 ho87 hb hg_ hnew_
                                            clear hg_ hnew_
                                            (first | rw [← Ny186.out] at ho87 | (simp only [Int.reduceToNat] at ho87; rw [← Ny186.out] at ho87))
                                            replace HO_77 := Aside0.mk (Kd.R_below (by (with_reducible repeat (first | apply Kd.R_alloc | apply Kd.R_drewN | apply Kd.R_drew)); exact HO_77.out) hb)
                                            have HO188 := Aside0.mk (Kd.R_lower (Kd.R_new' (Kd.R_new' ho87 (Kd.R_lt (by (with_reducible repeat (first | apply Kd.R_alloc | apply Kd.R_drewN | apply Kd.R_drew)); exact HO_2.out))) (Kd.R_lt (by (with_reducible repeat (first | apply Kd.R_alloc | apply Kd.R_drewN | apply Kd.R_drew)); exact HO_3.out))) (below_size (by repeat (first | (with_reducible first | exact HB.out | apply below_alloc | apply pw_below_drewN | apply below_drew1 | refine below_set ?_ GE148.out | refine below_set ?_ GE177.out) | exact HB.out))))
                                            replace HO_2 := Aside0.mk (Kd.R_elder' (by (with_reducible repeat (first | apply Kd.R_alloc | apply Kd.R_drewN | apply Kd.R_drew)); exact HO_2.out) (Kd.R_base ho87) hb)
                                            replace HO_3 := Aside0.mk (Kd.R_elder' (by (with_reducible repeat (first | apply Kd.R_alloc | apply Kd.R_drewN | apply Kd.R_drew)); exact HO_3.out) (Kd.R_base ho87) hb)
                                            replace BK148 := Aside0.mk (blk_below (g := gb148) (o := .cells #[.int .i64 a0_0, .slice A0_1 l0_1.length c0_1, .slice A0_2 l0_2.length c0_2] 24 (0, 0)) (by (with_reducible repeat (first | refine blk_drewN ?_ _ | refine blk_drew ?_ | refine blk_alloc ?_ _)); exact BK148.out) hb)
                                            replace BK177 := Aside0.mk (blk_below (g := gb177) (o := .cells #[.int .i64 ((rd_T92 x5_2 x79_3).f0), .int .i64 ((rd_T92 x5_2 x79_3).f1), .bool true, .bool true] 92 (0, 0)) (by (with_reducible repeat (first | refine blk_drewN ?_ _ | refine blk_drew ?_ | refine blk_alloc ?_ _)); exact BK177.out) hb)
                                            replace HB := Aside0.mk (below_step (by repeat (first | (with_reducible first | exact HB.out | apply below_alloc | apply pw_below_drewN | apply below_drew1 | refine below_set ?_ GE148.out | refine below_set ?_ GE177.out) | exact HB.out)) hb)
                                            clear hb ho87
                                            refine hK.out _ _ ⟨(blk_cell BK177.out 0).trans rfl, (blk_cell BK177.out 1).trans rfl, (blk_cell BK177.out 2).trans rfl, (blk_cell BK177.out 3).trans rfl⟩ (fun hHeld => ?_)
                                            clear hK K
                                            refine norm_ (a' := ?_) ?_ ?_
                                            rotate_left
                                            · show Act.put _ (some 109) _ = _
                                              simp only [Act.put, List.setIfInBounds_toArray, List.set_cons_zero, List.set_cons_succ, i64_w, i32_w]
                                              rfl
                                            refine one_ (i := 3) (N := some 104) (bts 12 495) rfl rfl (one_of HT_.out (by kernel_rfl)) (by decide) (fun K hK => ?_)
                                            refine Kd.R_lit_step (Kd.int .i64) _ 2 ?hg (N := 104) ?hd (xs := ([(rd_T92 x5_2 x79_3).f0] : List Int)) (inner := [.int .i64 ((rd_T92 x5_2 x79_3).f0)]) (ok := fun _ => True) (okp := fun _ => True) ?hr ?hp (fun _ hk => hk) trivial (Below.refl _ _) (Nat.le_refl _) (by simp) ?_; (case hd => rfl); (case hg => rfl); (case hr => first | (go_simp; done) | (go_simp; rfl)); (case hp => exact (Reps.one (show Kd.M (Kd.int .i64) _ _ _ ((rd_T92 x5_2 x79_3).f0) [.int .i64 ((rd_T92 x5_2 x79_3).f0)] from rfl) (Reps.none _ _)))
                                            intro v181 w88 ho89 hb hg_ hnew_
                                            clear hg_ hnew_
                                            (first | rw [← Ny180.out] at ho89 | (simp only [Int.reduceToNat] at ho89; rw [← Ny180.out] at ho89))
                                            replace HO_77 := Aside0.mk (Kd.R_below (by (with_reducible repeat (first | apply Kd.R_alloc | apply Kd.R_drewN | apply Kd.R_drew)); exact HO_77.out) hb)
                                            have HO182 := Aside0.mk (Kd.R_lower (Kd.R_new' (Kd.R_new' (Kd.R_new' ho89 (Kd.R_lt (by (with_reducible repeat (first | apply Kd.R_alloc | apply Kd.R_drewN | apply Kd.R_drew)); exact HO_2.out))) (Kd.R_lt (by (with_reducible repeat (first | apply Kd.R_alloc | apply Kd.R_drewN | apply Kd.R_drew)); exact HO_3.out))) (Kd.R_lt (by (with_reducible repeat (first | apply Kd.R_alloc | apply Kd.R_drewN | apply Kd.R_drew)); exact HO188.out))) (below_size (by repeat (first | (with_reducible first | exact HB.out | apply below_alloc | apply pw_below_drewN | apply below_drew1 | refine below_set ?_ GE148.out | refine below_set ?_ GE177.out) | exact HB.out))))
                                            replace HO_2 := Aside0.mk (Kd.R_elder' (by (with_reducible repeat (first | apply Kd.R_alloc | apply Kd.R_drewN | apply Kd.R_drew)); exact HO_2.out) (Kd.R_base ho89) hb)
                                            replace HO_3 := Aside0.mk (Kd.R_elder' (by (with_reducible repeat (first | apply Kd.R_alloc | apply Kd.R_drewN | apply Kd.R_drew)); exact HO_3.out) (Kd.R_base ho89) hb)
                                            replace HO188 := Aside0.mk (Kd.R_elder' (by (with_reducible repeat (first | apply Kd.R_alloc | apply Kd.R_drewN | apply Kd.R_drew)); exact HO188.out) (Kd.R_base ho89) hb)
                                            replace BK148 := Aside0.mk (blk_below (g := gb148) (o := .cells #[.int .i64 a0_0, .slice A0_1 l0_1.length c0_1, .slice A0_2 l0_2.length c0_2] 24 (0, 0)) (by (with_reducible repeat (first | refine blk_drewN ?_ _ | refine blk_drew ?_ | refine blk_alloc ?_ _)); exact BK148.out) hb)
                                            replace BK177 := Aside0.mk (blk_below (g := gb177) (o := .cells #[.int .i64 ((rd_T92 x5_2 x79_3).f0), .int .i64 ((rd_T92 x5_2 x79_3).f1), .bool true, .bool true] 92 (0, 0)) (by (with_reducible repeat (first | refine blk_drewN ?_ _ | refine blk_drew ?_ | refine blk_alloc ?_ _)); exact BK177.out) hb)
                                            replace HB := Aside0.mk (below_step (by repeat (first | (with_reducible first | exact HB.out | apply below_alloc | apply pw_below_drewN | apply below_drew1 | refine below_set ?_ GE148.out | refine below_set ?_ GE177.out) | exact HB.out)) hb)
                                            clear hb ho89
                                            obtain ⟨Ao91, co91, eo91⟩ := Kd.R_slice HO182.out
                                            (first | subst eo91 | (injection eo91 with f1_ f2_ f3_; have f4_ := f1_.symm; have f5_ := f3_.symm; clear f1_ f2_ f3_; subst f4_; subst f5_))
                                            refine hK.out _ _ ⟨(blk_cell BK177.out 0).trans rfl, (blk_cell BK177.out 1).trans rfl, (blk_cell BK177.out 2).trans rfl, (blk_cell BK177.out 3).trans rfl⟩ (fun hHeld => ?_)
                                            clear hK K
                                            refine norm_ (a' := ?_) ?_ ?_
                                            rotate_left
                                            · show Act.put _ (some 104) _ = _
                                              simp only [Act.put, List.setIfInBounds_toArray, List.set_cons_zero, List.set_cons_succ, i64_w, i32_w]
                                              rfl
                                            refine one_ (i := 4) (N := some 105) (bts 12 511) rfl rfl (one_of HT_.out (by kernel_rfl)) (by decide) (fun K hK => ?_)
                                            refine Kd.R_append_rows_step (Kd.int .i64) (w0 := w) w.heap.size (by rfl) (.tmp 101) (.tmp 104) 44 2 (.int .i64 0) 8 rfl Tryd.underlying44 info2 rfl (by decide) (by omega) (.slice Ao82 x2_3.length co82) x2_3 y180 _ _ _ (fun k_ => some k_ ≠ (.slice Ao83 x3_3.length co83 : Value).ownBlock ∧ some k_ ≠ (v187 : Value).ownBlock ∧ some k_ ≠ (.slice Ao91 y180.length co91 : Value).ownBlock) (fun _ => False) rfl rfl ?aO ?aR (fun _ _ h => h) (fun _ h => h.elim) ?aF ?aB ?aS ?aL ?_
                                            (case aR => exact uC ((Kd.R_reads' HO182.out).2.2))
                                            (case aB => exact (by repeat (first | (with_reducible first | exact HB.out | apply below_alloc | apply pw_below_drewN | apply below_drew1 | refine below_set ?_ GE148.out | refine below_set ?_ GE177.out) | exact HB.out)))
                                            (case aF => exact (fun k_ hk => ⟨Kd.fresh' (Kd.R_lt (by (with_reducible repeat (first | apply Kd.R_alloc | apply Kd.R_drewN | apply Kd.R_drew)); exact HO_3.out)) k_ hk, Kd.fresh' (Kd.R_lt (by (with_reducible repeat (first | apply Kd.R_alloc | apply Kd.R_drewN | apply Kd.R_drew)); exact HO188.out)) k_ hk, Kd.fresh' (Kd.R_lt (by (with_reducible repeat (first | apply Kd.R_alloc | apply Kd.R_drewN | apply Kd.R_drew)); exact HO182.out)) k_ hk⟩))
                                            (case aO => exact (by (with_reducible repeat (first | apply Kd.R_alloc | apply Kd.R_drewN | apply Kd.R_drew)); exact Kd.R_mono HO_2.out (fun _ hk => ⟨hk.1.1, ⟨hk.1.2, hk.2⟩⟩)))
                                            (case aS => exact (below_size (by repeat (first | (with_reducible first | exact HB.out | apply below_alloc | apply pw_below_drewN | apply below_drew1 | refine below_set ?_ GE148.out | refine below_set ?_ GE177.out) | exact HB.out))))
                                            (case aL => have := LMc77.out; omega)
                                            intro v184 w90 ho hb hg hat
                                            rw [← Ny183.out] at ho
                                            have n0_ := Aside0.mk (Kd.R_after (ok := (fun k_ => some k_ ≠ (v187 : Value).ownBlock ∧ some k_ ≠ (.slice Ao91 y180.length co91 : Value).ownBlock)) (by (with_reducible repeat (first | apply Kd.R_alloc | apply Kd.R_drewN | apply Kd.R_drew)); exact Kd.R_mono HO_3.out (fun _ hk => ⟨⟨hk.1.2, hk.2⟩, hk.1.1⟩)) hg hat)
                                            have n1_ := Aside0.mk (Kd.R_over' (by (with_reducible repeat (first | apply Kd.R_alloc | apply Kd.R_drewN | apply Kd.R_drew)); exact HO_77.out) (Kd.R_typed (by (with_reducible repeat (first | apply Kd.R_alloc | apply Kd.R_drewN | apply Kd.R_drew)); exact HO_2.out)) (by decide) hg)
                                            have n2_ := Aside0.mk (blk_grown (g := gb148) (o := .cells #[.int .i64 a0_0, .slice A0_1 l0_1.length c0_1, .slice A0_2 l0_2.length c0_2] 24 (0, 0)) (by (with_reducible repeat (first | refine blk_drewN ?_ _ | refine blk_drew ?_ | refine blk_alloc ?_ _)); exact BK148.out) hg (Kd.R_ne HO_2.out BK148.out (by decide)))
                                            have n3_ := Aside0.mk (blk_grown (g := gb177) (o := .cells #[.int .i64 ((rd_T92 x5_2 x79_3).f0), .int .i64 ((rd_T92 x5_2 x79_3).f1), .bool true, .bool true] 92 (0, 0)) (by (with_reducible repeat (first | refine blk_drewN ?_ _ | refine blk_drew ?_ | refine blk_alloc ?_ _)); exact BK177.out) hg (Kd.R_ne HO_2.out BK177.out (by decide)))
                                            have n4_ := Aside0.mk (Kd.R_after (ok := (fun k_ => some k_ ≠ (.slice Ao83 x3_3.length co83 : Value).ownBlock ∧ some k_ ≠ (.slice Ao91 y180.length co91 : Value).ownBlock)) (by (with_reducible repeat (first | apply Kd.R_alloc | apply Kd.R_drewN | apply Kd.R_drew)); exact Kd.R_mono HO188.out (fun _ hk => ⟨⟨hk.1.2, hk.2⟩, hk.1.1.2⟩)) hg hat)
                                            have n5_ := Aside0.mk (Kd.R_after (ok := (fun k_ => some k_ ≠ (.slice Ao83 x3_3.length co83 : Value).ownBlock ∧ some k_ ≠ (v187 : Value).ownBlock)) (by (with_reducible repeat (first | apply Kd.R_alloc | apply Kd.R_drewN | apply Kd.R_drew)); exact Kd.R_mono HO182.out (fun _ hk => ⟨⟨hk.1.2, hk.2⟩, hk.1.1.2⟩)) hg hat)
                                            have n6_ := Aside0.mk (hb)
                                            have n7_ := Aside0.mk (ho)
                                            clear HO_3
                                            clear HO_77
                                            clear BK148
                                            clear BK177
                                            clear HO188
                                            clear HO182
                                            clear HB
                                            clear HO_2
                                            have HO_3 := n0_
                                            have HO_77 := n1_
                                            have BK148 := n2_
                                            have BK177 := n3_
                                            have HO188 := n4_
                                            have HO182 := n5_
                                            have HB := n6_
                                            have HO185 := n7_
                                            clear n0_ n1_ n2_ n3_ n4_ n5_ n6_ n7_
                                            clear ho hb hg hat
                                            refine hK.out _ _ ⟨(blk_cell BK177.out 0).trans rfl, (blk_cell BK177.out 1).trans rfl, (blk_cell BK177.out 2).trans rfl, (blk_cell BK177.out 3).trans rfl⟩ (fun hHeld => ?_)
                                            clear hK K
                                            refine norm_ (a' := ?_) ?_ ?_
                                            rotate_left
                                            · show Act.put _ (some 105) _ = _
                                              simp only [Act.put, List.setIfInBounds_toArray, List.set_cons_zero, List.set_cons_succ, i64_w, i32_w]
                                              rfl
                                            exact norm_ (by first | (simp only [putAll, Act.put, List.setIfInBounds_toArray, List.set_cons_zero, List.set_cons_succ]; done) | (simp only [putAll, Act.put, List.setIfInBounds_toArray, List.set_cons_zero, List.set_cons_succ, *]; done)) (hCont (.slice Ao91 y180.length co91, v184, v187) _ ⟨hHeld, (by (with_reducible repeat (first | apply Kd.R_alloc | apply Kd.R_drewN | apply Kd.R_drew)); exact Kd.R_mono HO182.out (fun _ hk => ⟨hk.2, ⟨hk.1.2, hk.1.1⟩⟩)), (by (with_reducible repeat (first | apply Kd.R_alloc | apply Kd.R_drewN | apply Kd.R_drew)); exact Kd.R_mono HO185.out (fun _ hk => ⟨hk.2.2, ⟨hk.2.1, hk.1⟩⟩)), (by (with_reducible repeat (first | apply Kd.R_alloc | apply Kd.R_drewN | apply Kd.R_drew)); exact Kd.R_mono HO188.out (fun _ hk => ⟨hk.1.2, ⟨hk.2, hk.1.1⟩⟩)), (by (with_reducible repeat (first | apply Kd.R_alloc | apply Kd.R_drewN | apply Kd.R_drew)); exact Kd.R_mono HO_3.out (fun _ hk => ⟨hk.1.2, ⟨hk.2, hk.1.1⟩⟩)), (by (with_reducible repeat (first | apply Kd.R_alloc | apply Kd.R_drewN | apply Kd.R_drew)); exact HO_77.out), (by (with_reducible repeat (first | refine blk_drewN ?_ _ | refine blk_drew ?_ | refine blk_alloc ?_ _)); exact BK148.out), (by (with_reducible repeat (first | refine blk_drewN ?_ _ | refine blk_drew ?_ | refine blk_alloc ?_ _)); exact BK177.out), (by repeat (first | (with_reducible first | exact HB.out | apply below_alloc | apply pw_below_drewN | apply below_drew1 | refine below_set ?_ GE148.out | refine below_set ?_ GE177.out) | exact HB.out))⟩)
                                        rintro ⟨v181, v184, v187⟩ w92 ⟨hS_, h0_, h1_, h2_, h3_, h4_, h5_, h6_, h7_⟩
                                        have n0_ : Aside0 (Kd.R (Kd.int .i64) 2 w92 w.heap.size (fun k_ => some k_ ≠ (v184 : Value).ownBlock ∧ some k_ ≠ (v187 : Value).ownBlock ∧ some k_ ≠ (.slice Ao83 x3_3.length co83 : Value).ownBlock) v181 y180) := ⟨h0_⟩
                                        have n1_ : Aside0 (Kd.R (Kd.int .i64) 2 w92 w.heap.size (fun k_ => some k_ ≠ (v181 : Value).ownBlock ∧ some k_ ≠ (v187 : Value).ownBlock ∧ some k_ ≠ (.slice Ao83 x3_3.length co83 : Value).ownBlock) v184 y183) := ⟨h1_⟩
                                        have n2_ : Aside0 (Kd.R (Kd.int .i64) 2 w92 w.heap.size (fun k_ => some k_ ≠ (v181 : Value).ownBlock ∧ some k_ ≠ (v184 : Value).ownBlock ∧ some k_ ≠ (.slice Ao83 x3_3.length co83 : Value).ownBlock) v187 y186) := ⟨h2_⟩
                                        have n3_ : Aside0 (Kd.R (Kd.int .i64) 2 w92 w.heap.size (fun k_ => some k_ ≠ (v181 : Value).ownBlock ∧ some k_ ≠ (v184 : Value).ownBlock ∧ some k_ ≠ (v187 : Value).ownBlock) (.slice Ao83 x3_3.length co83) x3_3) := ⟨h3_⟩
                                        have n4_ : Aside0 (Kd.R k92 92 w92 w.heap.size (fun k_ => k_ ≠ gb177) (.slice (some ad176) x5_2.length co59) x5_2) := ⟨h4_⟩
                                        have n5_ : Aside0 (w92.heap[gb148]? = some (.cells #[.int .i64 a0_0, .slice A0_1 l0_1.length c0_1, .slice A0_2 l0_2.length c0_2] 24 (0, 0))) := ⟨h5_⟩
                                        have n6_ : Aside0 (w92.heap[gb177]? = some (.cells #[.int .i64 ((rd_T92 x5_2 x79_3).f0), .int .i64 ((rd_T92 x5_2 x79_3).f1), .bool true, .bool true] 92 (0, 0))) := ⟨h6_⟩
                                        have n7_ : Aside0 (Below w.heap.size w w92) := ⟨h7_⟩
                                        clear HO_2
                                        clear HO_3
                                        clear HO_77
                                        clear BK148
                                        clear BK177
                                        clear HB
                                        clear h0_ h1_ h2_ h3_ h4_ h5_ h6_ h7_
                                        have HO182 := n0_
                                        have HO185 := n1_
                                        have HO188 := n2_
                                        have HO_3 := n3_
                                        have HO_77 := n4_
                                        have BK148 := n5_
                                        have BK177 := n6_
                                        have HB := n7_
                                        clear n0_ n1_ n2_ n3_ n4_ n5_ n6_ n7_
                                        have hHeld : w92.cell? ⟨gb177, 0, none⟩ = some (.int .i64 ((rd_T92 x5_2 x79_3).f0)) ∧ w92.cell? ⟨gb177, 1, none⟩ = some (.int .i64 ((rd_T92 x5_2 x79_3).f1)) ∧ w92.cell? ⟨gb177, 2, none⟩ = some (.bool true) ∧ w92.cell? ⟨gb177, 3, none⟩ = some (.bool true) := hS_
                                        obtain ⟨Ao94, co94, eo94⟩ := Kd.R_slice HO188.out
                                        (first | subst eo94 | (injection eo94 with f1_ f2_ f3_; have f4_ := f1_.symm; have f5_ := f3_.symm; clear f1_ f2_ f3_; subst f4_; subst f5_))
                                        refine norm_ (a' := ?_) ?_ ?_
                                        rotate_left
                                        · simp only [putAll, Act.put, List.setIfInBounds_toArray, List.set_cons_zero, List.set_cons_succ]
                                          rfl
                                        refine one_ (i := 9) (N := some 110) (bts 12 1023) rfl rfl (one_of HT_.out (by kernel_rfl)) (by decide) (fun K hK => ?_)
                                        refine Kd.R_append_rows_step (Kd.int .i64) (w0 := w) w.heap.size (by rfl) (.tmp 106) (.tmp 109) 44 2 (.int .i64 0) 8 rfl Tryd.underlying44 info2 rfl (by decide) (by omega) (.slice Ao83 x3_3.length co83) x3_3 y186 _ _ _ (fun k_ => some k_ ≠ (v181 : Value).ownBlock ∧ some k_ ≠ (v184 : Value).ownBlock ∧ some k_ ≠ (.slice Ao94 y186.length co94 : Value).ownBlock) (fun _ => False) rfl rfl ?aO ?aR (fun _ _ h => h) (fun _ h => h.elim) ?aF ?aB ?aS ?aL ?_
                                        (case aR => exact uC ((Kd.R_reads' HO188.out).2.2))
                                        (case aB => exact (by repeat (first | (with_reducible first | exact HB.out | apply below_alloc | apply pw_below_drewN | apply below_drew1 | refine below_set ?_ GE148.out | refine below_set ?_ GE177.out) | exact HB.out)))
                                        (case aF => exact (fun k_ hk => ⟨Kd.fresh' (Kd.R_lt (by (with_reducible repeat (first | apply Kd.R_alloc | apply Kd.R_drewN | apply Kd.R_drew)); exact HO182.out)) k_ hk, Kd.fresh' (Kd.R_lt (by (with_reducible repeat (first | apply Kd.R_alloc | apply Kd.R_drewN | apply Kd.R_drew)); exact HO185.out)) k_ hk, Kd.fresh' (Kd.R_lt (by (with_reducible repeat (first | apply Kd.R_alloc | apply Kd.R_drewN | apply Kd.R_drew)); exact HO188.out)) k_ hk⟩))
                                        (case aO => exact (by (with_reducible repeat (first | apply Kd.R_alloc | apply Kd.R_drewN | apply Kd.R_drew)); exact HO_3.out))
                                        (case aS => exact (below_size (by repeat (first | (with_reducible first | exact HB.out | apply below_alloc | apply pw_below_drewN | apply below_drew1 | refine below_set ?_ GE148.out | refine below_set ?_ GE177.out) | exact HB.out))))
                                        (case aL => have := LMc78.out; omega)
                                        intro v190 w93 ho hb hg hat
                                        rw [← Ny189.out] at ho
                                        have n0_ := Aside0.mk (Kd.R_over' (by (with_reducible repeat (first | apply Kd.R_alloc | apply Kd.R_drewN | apply Kd.R_drew)); exact HO_77.out) (Kd.R_typed (by (with_reducible repeat (first | apply Kd.R_alloc | apply Kd.R_drewN | apply Kd.R_drew)); exact HO_3.out)) (by decide) hg)
                                        have n1_ := Aside0.mk (blk_grown (g := gb148) (o := .cells #[.int .i64 a0_0, .slice A0_1 l0_1.length c0_1, .slice A0_2 l0_2.length c0_2] 24 (0, 0)) (by (with_reducible repeat (first | refine blk_drewN ?_ _ | refine blk_drew ?_ | refine blk_alloc ?_ _)); exact BK148.out) hg (Kd.R_ne HO_3.out BK148.out (by decide)))
                                        have n2_ := Aside0.mk (blk_grown (g := gb177) (o := .cells #[.int .i64 ((rd_T92 x5_2 x79_3).f0), .int .i64 ((rd_T92 x5_2 x79_3).f1), .bool true, .bool true] 92 (0, 0)) (by (with_reducible repeat (first | refine blk_drewN ?_ _ | refine blk_drew ?_ | refine blk_alloc ?_ _)); exact BK177.out) hg (Kd.R_ne HO_3.out BK177.out (by decide)))
                                        have n3_ := Aside0.mk (Kd.R_after (ok := (fun k_ => some k_ ≠ (v184 : Value).ownBlock ∧ some k_ ≠ (.slice Ao94 y186.length co94 : Value).ownBlock)) (by (with_reducible repeat (first | apply Kd.R_alloc | apply Kd.R_drewN | apply Kd.R_drew)); exact Kd.R_mono HO182.out (fun _ hk => ⟨⟨hk.1, hk.2.1⟩, hk.2.2⟩)) hg hat)
                                        have n4_ := Aside0.mk (Kd.R_after (ok := (fun k_ => some k_ ≠ (v181 : Value).ownBlock ∧ some k_ ≠ (.slice Ao94 y186.length co94 : Value).ownBlock)) (by (with_reducible repeat (first | apply Kd.R_alloc | apply Kd.R_drewN | apply Kd.R_drew)); exact Kd.R_mono HO185.out (fun _ hk => ⟨⟨hk.1, hk.2.1⟩, hk.2.2⟩)) hg hat)
                                        have n5_ := Aside0.mk (Kd.R_after (ok := (fun k_ => some k_ ≠ (v181 : Value).ownBlock ∧ some k_ ≠ (v184 : Value).ownBlock)) (by (with_reducible repeat (first | apply Kd.R_alloc | apply Kd.R_drewN | apply Kd.R_drew)); exact Kd.R_mono HO188.out (fun _ hk => ⟨⟨hk.1, hk.2.1⟩, hk.2.2⟩)) hg hat)
                                        have n6_ := Aside0.mk (hb)
                                        have n7_ := Aside0.mk (ho)
                                        clear HO_77
                                        clear BK148
                                        clear BK177
                                        clear HO182
                                        clear HO185
                                        clear HO188
                                        clear HB
                                        clear HO_3
                                        have HO_77 := n0_
                                        have BK148 := n1_
                                        have BK177 := n2_
                                        have HO182 := n3_
                                        have HO185 := n4_
                                        have HO188 := n5_
                                        have HB := n6_
                                        have HO191 := n7_
                                        clear n0_ n1_ n2_ n3_ n4_ n5_ n6_ n7_
                                        clear ho hb hg hat
                                        refine hK.out _ _ ⟨(blk_cell BK177.out 0).trans rfl, (blk_cell BK177.out 1).trans rfl, (blk_cell BK177.out 2).trans rfl, (blk_cell BK177.out 3).trans rfl⟩ (fun hHeld => ?_)
                                        clear hK K
                                        refine norm_ (a' := ?_) ?_ ?_
                                        rotate_left
                                        · show Act.put _ (some 110) _ = _
                                          simp only [Act.put, List.setIfInBounds_toArray, List.set_cons_zero, List.set_cons_succ, i64_w, i32_w]
                                          rfl
                                        refine pA 10 (some 2) 1023 12 2047 HT_ ?_
                                        refine pA 11 (some 3) 2047 12 4095 HT_ ?_
                                        refine done_ (done_of HT_.out (by kernel_rfl)) ?_
                                        try go_wp2
                                        go_roundg k3
                                        case measure => have := HK1.out; have := HK2.out; have := HK3.out; omega
                                        case rel => exact ⟨(y183), (y189), (wrap64 (x79_3 + 1)), (by first | rfl | (simp; done) | (simp [*]; done) | (simp [bne_nil_, beq_nil_]; done)), H', ⟨by have := HK1.out; have := HK2.out; have := HK3.out; omega⟩, ⟨by (with_reducible repeat (first | apply Kd.R_alloc | apply Kd.R_drewN | apply Kd.R_drew)); exact Kd.R_mono HO185.out (fun _ hk => hk.2)⟩, ⟨by (with_reducible repeat (first | apply Kd.R_alloc | apply Kd.R_drewN | apply Kd.R_drew)); exact Kd.R_mono HO191.out (fun _ hk => hk.2.1)⟩, ⟨by (with_reducible repeat (first | apply Kd.R_alloc | apply Kd.R_drewN | apply Kd.R_drew)); exact Kd.R_mono HO_77.out (fun _ hk => trivial)⟩, ⟨by (with_reducible repeat (first | refine blk_drewN ?_ _ | refine blk_drew ?_ | refine blk_alloc ?_ _)); exact BK148.out⟩, ⟨by repeat (first | (with_reducible first | exact HB.out | apply below_alloc | apply pw_below_drewN | apply below_drew1 | refine below_set ?_ GE148.out | refine below_set ?_ GE177.out) | exact HB.out)⟩⟩
                                      · rw [if_neg c78] at H
                                        exact absurd H (by simp)
                                    · rw [if_neg c77] at H
                                      exact absurd H (by simp)
                              · replace c66 := Bool.eq_false_iff.mpr c66
                                subst c66
                                have H1 : (some (([] : List Int), ([] : List Int), false)) = some (r1, r2, r3) := by rw [if_neg (show ¬ (false = true) by decide)] at H; exact H
                                clear H
                                have H := H1
                                clear H1
                                simp only [Option.some.injEq, Prod.mk.injEq] at H
                                obtain ⟨rfl, rfl, rfl⟩ := H
                                have p176 : 0 ≤ (x79_3 : Int) := of_decide_eq_true (by first | (with_reducible assumption) | assumption)
                                have q176 : x79_3 < (x5_2.length : Int) := of_decide_eq_true (by first | (with_reducible assumption) | assumption)
                                obtain ⟨ad176, e176, hx176_0, hx176_1, hx176_2, hx176_3⟩ := at_T92 (Kd.R_reads' HO_77.out).2.2 x79_3 p176 q176
                                (try rw [← Nbq63.out] at hx176_2)
                                (try rw [← Nbq65.out] at hx176_2)
                                (try rw [← Nbq63.out] at hx176_3)
                                (try rw [← Nbq65.out] at hx176_3)
                                cases e176
                                replace p176 := eq_true p176
                                replace q176 := eq_true q176
                                go_wp2_with (first | ((with_reducible refine gate_dst (N := 13) rfl ?_); refine bxE 13 #[.int .i64 0, .int .i64 0, .bool false, .bool false] 92 ?_; intro gb177 hg w95 hbox hb; replace HO_2 := Aside0.mk (Kd.R_below (by (with_reducible repeat (first | apply Kd.R_alloc | apply Kd.R_drewN | apply Kd.R_drew)); exact HO_2.out) hb); replace HO_3 := Aside0.mk (Kd.R_below (by (with_reducible repeat (first | apply Kd.R_alloc | apply Kd.R_drewN | apply Kd.R_drew)); exact HO_3.out) hb); replace HO_77 := Aside0.mk (Kd.R_below (Kd.R_elderB (by (with_reducible repeat (first | apply Kd.R_alloc | apply Kd.R_drewN | apply Kd.R_drew)); exact HO_77.out) gb177 (Nat.le_of_eq hg.symm)) hb); have BK177 := Aside0.mk (hbox); have GW177 := Aside0.mk ((by rw [hg]; exact (below_size (by repeat (first | (with_reducible first | exact HB.out | apply below_alloc | apply pw_below_drewN | apply below_drew1 | refine below_set ?_ GE148.out) | exact HB.out))) : w.heap.size ≤ gb177)); have GE177 := Aside0.mk ((by rw [hg]; exact (below_size (by repeat (first | (with_reducible first | exact HB.out | apply below_alloc | apply pw_below_drewN | apply below_drew1 | refine below_set ?_ GE148.out) | exact HB.out))) : w.heap.size ≤ gb177)); replace HB := Aside0.mk (below_step (by repeat (first | (with_reducible first | exact HB.out | apply below_alloc | apply pw_below_drewN | apply below_drew1 | refine below_set ?_ GE148.out) | exact HB.out)) hb); have NB148_177 := Aside0.mk ((by rw [hg]; exact Nat.ne_of_lt (blk_lt (g := gb148) (o := .cells #[.int .i64 a0_0, .slice A0_1 l0_1.length c0_1, .slice A0_2 l0_2.length c0_2] 24 (0, 0)) (by (with_reducible repeat (first | refine blk_drewN ?_ _ | refine blk_drew ?_ | refine blk_alloc ?_ _)); exact BK148.out)) : gb148 ≠ gb177)); have NB177_148 := Aside0.mk ((by rw [hg]; exact Nat.ne_of_gt (blk_lt (g := gb148) (o := .cells #[.int .i64 a0_0, .slice A0_1 l0_1.length c0_1, .slice A0_2 l0_2.length c0_2] 24 (0, 0)) (by (with_reducible repeat (first | refine blk_drewN ?_ _ | refine blk_drew ?_ | refine blk_alloc ?_ _)); exact BK148.out)) : gb177 ≠ gb148)); replace BK148 := Aside0.mk (blk_below (g := gb148) (o := .cells #[.int .i64 a0_0, .slice A0_1 l0_1.length c0_1, .slice A0_2 l0_2.length c0_2] 24 (0, 0)) (by (with_reducible repeat (first | refine blk_drewN ?_ _ | refine blk_drew ?_ | refine blk_alloc ?_ _)); exact BK148.out) hb); clear hb hbox hg; have hnb96 := NB177_148.out; have hnc96 := NB148_177.out; obtain ⟨hcz97_0, hcz97_1, hcz97_2, hcz97_3, hfz97_0, hfz97_1, hfz97_2, hfz97_3⟩ := cL4 BK177))
                                go_ret3
                                exact ⟨_, _, by first | rfl | (simp [errW_none, errW_some] <;> rfl) | (simp only [← hji2]; first | rfl | (simp [errW_none, errW_some] <;> rfl)) | (simp [*, errW_none, errW_some] <;> rfl), nK, nK, by repeat (first | (with_reducible first | exact HB.out | apply below_alloc | apply pw_below_drewN | apply below_drew1 | refine below_set ?_ GE148.out | refine below_set ?_ GE177.out) | exact HB.out)⟩
                            · replace c64 := Bool.eq_false_iff.mpr c64
                              subst c64
                              have H1 : (some (([] : List Int), ([] : List Int), false)) = some (r1, r2, r3) := by rw [if_neg (show ¬ (false = true) by decide)] at H; exact H
                              clear H
                              have H := H1
                              clear H1
                              simp only [Option.some.injEq, Prod.mk.injEq] at H
                              obtain ⟨rfl, rfl, rfl⟩ := H
                              have p176 : 0 ≤ (x79_3 : Int) := of_decide_eq_true (by first | (with_reducible assumption) | assumption)
                              have q176 : x79_3 < (x5_2.length : Int) := of_decide_eq_true (by first | (with_reducible assumption) | assumption)
                              obtain ⟨ad176, e176, hx176_0, hx176_1, hx176_2, hx176_3⟩ := at_T92 (Kd.R_reads' HO_77.out).2.2 x79_3 p176 q176
                              (try rw [← Nbq63.out] at hx176_2)
                              (try rw [← Nbq63.out] at hx176_3)
                              cases e176
                              replace p176 := eq_true p176
                              replace q176 := eq_true q176
                              go_wp2_with (first | ((with_reducible refine gate_dst (N := 13) rfl ?_); refine bxE 13 #[.int .i64 0, .int .i64 0, .bool false, .bool false] 92 ?_; intro gb177 hg w98 hbox hb; replace HO_2 := Aside0.mk (Kd.R_below (by (with_reducible repeat (first | apply Kd.R_alloc | apply Kd.R_drewN | apply Kd.R_drew)); exact HO_2.out) hb); replace HO_3 := Aside0.mk (Kd.R_below (by (with_reducible repeat (first | apply Kd.R_alloc | apply Kd.R_drewN | apply Kd.R_drew)); exact HO_3.out) hb); replace HO_77 := Aside0.mk (Kd.R_below (Kd.R_elderB (by (with_reducible repeat (first | apply Kd.R_alloc | apply Kd.R_drewN | apply Kd.R_drew)); exact HO_77.out) gb177 (Nat.le_of_eq hg.symm)) hb); have BK177 := Aside0.mk (hbox); have GW177 := Aside0.mk ((by rw [hg]; exact (below_size (by repeat (first | (with_reducible first | exact HB.out | apply below_alloc | apply pw_below_drewN | apply below_drew1 | refine below_set ?_ GE148.out) | exact HB.out))) : w.heap.size ≤ gb177)); have GE177 := Aside0.mk ((by rw [hg]; exact (below_size (by repeat (first | (with_reducible first | exact HB.out | apply below_alloc | apply pw_below_drewN | apply below_drew1 | refine below_set ?_ GE148.out) | exact HB.out))) : w.heap.size ≤ gb177)); replace HB := Aside0.mk (below_step (by repeat (first | (with_reducible first | exact HB.out | apply below_alloc | apply pw_below_drewN | apply below_drew1 | refine below_set ?_ GE148.out) | exact HB.out)) hb); have NB148_177 := Aside0.mk ((by rw [hg]; exact Nat.ne_of_lt (blk_lt (g := gb148) (o := .cells #[.int .i64 a0_0, .slice A0_1 l0_1.length c0_1, .slice A0_2 l0_2.length c0_2] 24 (0, 0)) (by (with_reducible repeat (first | refine blk_drewN ?_ _ | refine blk_drew ?_ | refine blk_alloc ?_ _)); exact BK148.out)) : gb148 ≠ gb177)); have NB177_148 := Aside0.mk ((by rw [hg]; exact Nat.ne_of_gt (blk_lt (g := gb148) (o := .cells #[.int .i64 a0_0, .slice A0_1 l0_1.length c0_1, .slice A0_2 l0_2.length c0_2] 24 (0, 0)) (by (with_reducible repeat (first | refine blk_drewN ?_ _ | refine blk_drew ?_ | refine blk_alloc ?_ _)); exact BK148.out)) : gb177 ≠ gb148)); replace BK148 := Aside0.mk (blk_below (g := gb148) (o := .cells #[.int .i64 a0_0, .slice A0_1 l0_1.length c0_1, .slice A0_2 l0_2.length c0_2] 24 (0, 0)) (by (with_reducible repeat (first | refine blk_drewN ?_ _ | refine blk_drew ?_ | refine blk_alloc ?_ _)); exact BK148.out) hb); clear hb hbox hg; have hnb99 := NB177_148.out; have hnc99 := NB148_177.out; obtain ⟨hcz100_0, hcz100_1, hcz100_2, hcz100_3, hfz100_0, hfz100_1, hfz100_2, hfz100_3⟩ := cL4 BK177))
                              go_ret3
                              exact ⟨_, _, by first | rfl | (simp [errW_none, errW_some] <;> rfl) | (simp only [← hji2]; first | rfl | (simp [errW_none, errW_some] <;> rfl)) | (simp [*, errW_none, errW_some] <;> rfl), nK, nK, by repeat (first | (with_reducible first | exact HB.out | apply below_alloc | apply pw_below_drewN | apply below_drew1 | refine below_set ?_ GE148.out | refine below_set ?_ GE177.out) | exact HB.out)⟩
                          · rw [if_neg c62] at H
                            exact absurd H (by simp)
                        · rw [if_neg c61] at H
                          exact absurd H (by simp)
                      · rw [if_neg c60] at H
                        have c60b0 : decide (x79_3 < (x5_2.length : Int)) = false := decide_eq_false c60
                        clear c60
                        simp only [Option.some.injEq, Prod.mk.injEq] at H
                        obtain ⟨rfl, rfl, rfl⟩ := H
                        go_wp2
                        go_ret3
                        exact ⟨_, _, by first | rfl | (simp [errW_none, errW_some] <;> rfl) | (simp only [← hji2]; first | rfl | (simp [errW_none, errW_some] <;> rfl)) | (simp [*, errW_none, errW_some] <;> rfl), by (with_reducible repeat (first | apply Kd.R_alloc | apply Kd.R_drewN | apply Kd.R_drew)); exact HO_2.out, by (with_reducible repeat (first | apply Kd.R_alloc | apply Kd.R_drewN | apply Kd.R_drew)); exact HO_3.out, by repeat (first | (with_reducible first | exact HB.out | apply below_alloc | apply pw_below_drewN | apply below_drew1 | refine below_set ?_ GE148.out) | exact HB.out)⟩
    · rw [if_neg c4] at H
      exact absurd H (by simp)
  · rw [if_neg c3] at H
    exact absurd H (by simp)

end Go.Proofs.YtkkpgjkjkcmcbaaDoor.H
