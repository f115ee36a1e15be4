-- PRINTED by print.py (a twelfth state) out of the translation. Not trusted: Lean checks it.
import Derived.Test.YtkkpgjkjkcmcbaaDoorXx0
namespace Go.Proofs.YtkkpgjkjkcmcbaaDoor.X
open Go.Proofs.YtkkpgjkjkcmcbaaDoor.Flt Go.Proofs.YtkkpgjkjkcmcbaaDoor.H Go.RowKit Go.Proofs.YtkkpgjkjkcmcbaaDoorW.PrintWords Go.Proofs.YtkkpgjkjkcmcbaaDoorW.PrintLast Go.Proofs.YtkkpgjkjkcmcbaaDoorW.PrintMore
attribute [local go_sem] max2_int min2_int max_two min_two max_three min_three max_four min_four   -- for this text's walks alone
set_option linter.unusedVariables false
set_option linter.unusedSimpArgs false

/-! ### furrowref4_Size: function 67 -/
def furrowref4_Size.f (a0 : Int) : Option (Int) := if a0 < 0 then (some (IntKind.u64.wrap (-(IntKind.u64.wrap (a0))))) else (some (IntKind.u64.wrap (a0)))
set_option maxHeartbeats 8000000 in
set_option maxRecDepth 100000 in
theorem furrowref4_Size.calls (a0 : Int) (r : Int) (w : World) (h : furrowref4_Size.f a0 = some r) :
  Calls Tryd.prog 67 #[.int .i64 a0] w fun e w' => e = .returned (.int .u64 r) ∧ Drawn0 w w' := by
 have H : (if a0 < 0 then (some (IntKind.u64.wrap (-(IntKind.u64.wrap (a0))))) else (some (IntKind.u64.wrap (a0)))) = some r := h
 clear h
 by_cases c2 : a0 < 0
 ·rw [if_pos c2] at H
  have c2b0 := decide_eq_true c2; clear c2; obtain rfl := Option.some.inj H; go_enter Tryd.func67, Tryd.ntmps67; go_wp2; go_ret; exact ⟨eK, by repeat (first | exact Drawn0.refl _ | apply Drawn0.step)⟩
 ·rw [if_neg c2] at H
  have c2b0 := decide_eq_false c2; clear c2; obtain rfl := Option.some.inj H; go_enter Tryd.func67, Tryd.ntmps67; go_wp2; go_ret; exact ⟨eK, by repeat (first | exact Drawn0.refl _ | apply Drawn0.step)⟩

/-! ### furrowref4_Gcd: function 56 -/
def furrowref4_Gcd.l0 : Nat → Int → Int → Option (Int)
 | 0, _, _ => none
 | k + 1, x5, x6 => if x6 = 0 then (some x5) else (furrowref4_Gcd.l0 k x6 (Int.tmod x5 x6))
def furrowref4_Gcd.f (k : Nat) (a0 : Int) (a1 : Int) : Option (Int) := (furrowref4_Size.f a0).bind fun t369 => ((furrowref4_Size.f a1).bind fun t370 => (furrowref4_Gcd.l0 k t369 t370))
theorem furrowref4_Gcd.mono_l : ∀ k, (∀ y0 y1, LeO (furrowref4_Gcd.l0 k y0 y1) (furrowref4_Gcd.l0 (k + 1) y0 y1))
 | 0 => fun _ _ r h => by simp [furrowref4_Gcd.l0] at h
 | k + 1 => by
  have ih0 := furrowref4_Gcd.mono_l k
  ·intro y0 y1
   unfold furrowref4_Gcd.l0
   repeat' first
   | (with_reducible exact ih0 _ _)
   | (with_reducible exact LeO.refl _)
   | (with_reducible exact LeO.none _)
   | (with_reducible refine LeO.ite ?_ ?_)
   | (with_reducible refine LeO.bind ?_ (fun _ => ?_))
   | exact ih0 _ _
   | exact LeO.none _
   | refine LeO.ite ?_ ?_
   | refine LeO.bind ?_ (fun _ => ?_)
theorem furrowref4_Gcd.mono : ∀ a0 a1 k, LeO (furrowref4_Gcd.f k a0 a1) (furrowref4_Gcd.f (k + 1) a0 a1) := by
 intro a0 a1 k
 have ih0 := furrowref4_Gcd.mono_l k
 unfold furrowref4_Gcd.f
 repeat' first
   | (with_reducible exact ih0 _ _)
   | (with_reducible exact LeO.refl _)
   | (with_reducible exact LeO.none _)
   | (with_reducible refine LeO.ite ?_ ?_)
   | (with_reducible refine LeO.bind ?_ (fun _ => ?_))
   | exact ih0 _ _
   | exact LeO.none _
   | refine LeO.ite ?_ ?_
   | refine LeO.bind ?_ (fun _ => ?_)
set_option maxHeartbeats 8000000 in
set_option maxRecDepth 100000 in
theorem furrowref4_Gcd.calls (k : Nat) (a0 : Int) (a1 : Int) (r : Int) (w : World) (h : furrowref4_Gcd.f k a0 a1 = some r) :
  Calls Tryd.prog 56 #[.int .i64 a0, .int .i64 a1] w fun e w' => e = .returned (.int .u64 r) ∧ Drawn0 w w' := by
 have H : ((furrowref4_Size.f a0).bind fun t369 => ((furrowref4_Size.f a1).bind fun t370 => (furrowref4_Gcd.l0 k t369 t370))) = some r := h
 clear h
 replace H := Option.bind_eq_some_iff.mp H
 obtain ⟨t369, A30, H⟩ := H
 have A3 := mk0 A30
 clear A30
 replace H := Option.bind_eq_some_iff.mp H
 obtain ⟨t370, A40, H⟩ := H
 have A4 := mk0 A40
 clear A40
 have H' := mk0 H
 clear H
 go_enter Tryd.func56, Tryd.ntmps56
 go_wp2_with (first | ((with_reducible refine gate_dst (N := 9) rfl ?_); refine gsM (some 9) Tryd.func67 #[.int .i64 a0] ?_; (with_reducible refine (furrowref4_Size.calls a0 t369 _ A3.out).mono ?_); rintro e w' ⟨rfl, ⟨nd, rfl⟩⟩; refine ⟨_, rfl, ?_⟩) | ((with_reducible refine gate_dst (N := 11) rfl ?_); refine gsM (some 11) Tryd.func67 #[.int .i64 a1] ?_; (with_reducible refine (furrowref4_Size.calls a1 t370 _ A4.out).mono ?_); rintro e w' ⟨rfl, ⟨nd, rfl⟩⟩; refine ⟨_, rfl, ?_⟩))
 go_loopg [5, 6] k (fun kq v5 v6 w' => ∃ (x5_1 : Int) (x6_1 : Int), v5 = .int .u64 x5_1 ∧ v6 = .int .u64 x6_1 ∧ Aside0 (furrowref4_Gcd.l0 kq x5_1 x6_1 = some r) ∧ Aside0 (kq ≤ k) ∧ Drawn0 w w')
 case atStart => exact ⟨(t369), (t370), eK, eK, H', ⟨Nat.le_refl _⟩, by repeat (first | exact Drawn0.refl _ | apply Drawn0.step)⟩
 case round =>
  clear H'; obtain ⟨x5_1, x6_1, rfl, rfl, HA, HK1, ⟨m1, rfl⟩⟩ := hrel
  cases gk with
  | zero => exact absurd HA.out (by simp [furrowref4_Gcd.l0])
  | succ k1 =>
   have H := HA.out; clear HA; simp only [furrowref4_Gcd.l0] at H
   by_cases c5 : x6_1 = 0
   ·rw [if_pos c5] at H
    have c5b0 : (x6_1 == 0) = true := beq_iff_eq.mpr c5; have c5b1 : (x6_1 != 0) = false := bne_eq_false_iff_eq.mpr c5; clear c5; obtain rfl := Option.some.inj H; go_wp2; go_ret; exact ⟨eK, by repeat (first | exact Drawn0.refl _ | apply Drawn0.step)⟩
   ·rw [if_neg c5] at H
    have c5b0 : (x6_1 == 0) = false := beq_eq_false_iff_ne.mpr c5; have c5b1 : (x6_1 != 0) = true := bne_iff_ne.mpr c5; have H' := mk0 H; clear H; go_wp2
    go_roundg k1
    case measure => have := HK1.out; omega
    case rel => exact ⟨(x6_1), (Int.tmod x5_1 x6_1), eK, eK, H', ⟨by have := HK1.out; omega⟩, by repeat (first | exact Drawn0.refl _ | apply Drawn0.step)⟩

/-! ### furrowref20_gcd: function 32 -/
def furrowref20_gcd.l0 : Nat → Int → Int → List Int → Int → Option (Int)
 | 0, _, _, _, _ => none
 | k + 1, x3, x4, x372000, x372001 => if x4 < (x372000.length : Int) then (if 0 ≤ x4 then ((furrowref4_Gcd.f k (wrap64 (x3)) (rd x372000 x4)).bind fun t373 => (furrowref20_gcd.l0 k t373 (wrap64 (x4 + 1)) x372000 x372001)) else (none)) else (some (wrap64 (x3)))
def furrowref20_gcd.f (k : Nat) (l0_0 : List Int) (a0_1 : Int) : Option (Int) := furrowref20_gcd.l0 k 0 0 l0_0 a0_1
theorem furrowref20_gcd.mono_l : ∀ k, (∀ y0 y1 y2 y3, LeO (furrowref20_gcd.l0 k y0 y1 y2 y3) (furrowref20_gcd.l0 (k + 1) y0 y1 y2 y3))
 | 0 => fun _ _ _ _ r h => by simp [furrowref20_gcd.l0] at h
 | k + 1 => by
  have ih0 := furrowref20_gcd.mono_l k
  ·intro y0 y1 y2 y3
   unfold furrowref20_gcd.l0
   repeat' first
   | (with_reducible exact ih0 _ _ _ _)
   | (with_reducible exact furrowref4_Gcd.mono _ _ _)
   | (with_reducible exact LeO.refl _)
   | (with_reducible exact LeO.none _)
   | (with_reducible refine LeO.ite ?_ ?_)
   | (with_reducible refine LeO.bind ?_ (fun _ => ?_))
   | exact ih0 _ _ _ _
   | exact furrowref4_Gcd.mono _ _ _
   | exact LeO.none _
   | refine LeO.ite ?_ ?_
   | refine LeO.bind ?_ (fun _ => ?_)
theorem furrowref20_gcd.mono : ∀ a0 a1 k, LeO (furrowref20_gcd.f k a0 a1) (furrowref20_gcd.f (k + 1) a0 a1) := by
 intro a0 a1 k
 have ih0 := furrowref20_gcd.mono_l k
 unfold furrowref20_gcd.f
 repeat' first
   | (with_reducible exact ih0 _ _ _ _)
   | (with_reducible exact furrowref4_Gcd.mono _ _ _)
   | (with_reducible exact LeO.refl _)
   | (with_reducible exact LeO.none _)
   | (with_reducible refine LeO.ite ?_ ?_)
   | (with_reducible refine LeO.bind ?_ (fun _ => ?_))
   | exact ih0 _ _ _ _
   | exact furrowref4_Gcd.mono _ _ _
   | exact LeO.none _
   | refine LeO.ite ?_ ?_
   | refine LeO.bind ?_ (fun _ => ?_)
set_option maxHeartbeats 8000000 in
set_option maxRecDepth 100000 in
theorem furrowref20_gcd.calls (k : Nat) (A0_0 : Option Addr) (c0_0 : Nat) (l0_0 : List Int) (a0_1 : Int) (r : Int) (w : World) (hr0_0 : Kd.C (Kd.int .i64) w A0_0 l0_0.length l0_0) (hc0_0 : l0_0.length ≤ c0_0) (h : furrowref20_gcd.f k l0_0 a0_1 = some r) :
  Calls Tryd.prog 32 #[.agg #[.slice A0_0 l0_0.length c0_0, .int .i64 a0_1]] w fun e w' => e = .returned (.int .i64 r) ∧ Below w.heap.size w w' := by
 have hu65 := Tryd.underlying65
 have ai := mk0 hr0_0
 have am := mk0 hc0_0
 clear hr0_0 hc0_0
 have HB := mk0 (Below.refl w.heap.size w)
 have H : (furrowref20_gcd.l0 k 0 0 l0_0 a0_1) = some r := h
 clear h
 have H' := mk0 H
 clear H
 go_enter Tryd.func32, Tryd.ntmps32
 go_wp2_with (first | ((with_reducible refine gate_dst (N := 1) rfl ?_); refine bxE 1 #[.slice A0_0 l0_0.length c0_0, .int .i64 a0_1] 65 ?_; intro aj hg w2 hbox hb; have aa := mk0 (hbox); have ao := gE (uL HB.out) hg; have ap := gE (uL HB.out) hg; replace HB := hbB (uL HB.out) hb; clear hb hbox hg))
 go_loopg [3, 4] k (fun kq v3 v4 w' => ∃ (x3_1 : Int) (x4_1 : Int), v3 = .int .u64 x3_1 ∧ v4 = .int .i64 x4_1 ∧ Aside0 (furrowref20_gcd.l0 kq x3_1 x4_1 l0_0 a0_1 = some r) ∧ Aside0 (kq ≤ k) ∧ Aside0 (w'.heap[aj]? = some (.cells #[(.slice A0_0 l0_0.length c0_0), .int .i64 a0_1] 65 (0, 0))) ∧ Aside0 (Below w.heap.size w w'))
 case atStart => exact ⟨(0), (0), eK, eK, H', ⟨Nat.le_refl _⟩, ⟨uB aa.out⟩, ⟨bH⟩⟩
 case round =>
  clear H'; obtain ⟨x3_1, x4_1, rfl, rfl, HA, af, aa, HB⟩ := hrel
  cases gk with
  | zero => exact absurd HA.out (by simp [furrowref20_gcd.l0])
  | succ k1 =>
   have H := HA.out; clear HA; simp only [furrowref20_gcd.l0] at H
   by_cases c3 : x4_1 < (l0_0.length : Int)
   ·rw [if_pos c3] at H
    have ak := decide_eq_true c3; clear c3
    by_cases c4 : 0 ≤ x4_1
    ·rw [if_pos c4] at H
     have aq := decide_eq_true c4; clear c4; obtain ⟨ag, A5, H⟩ := oB H; have H' := mk0 H; clear H; obtain ⟨ar, au, av, aw⟩ := cL2 aa; have ac : 0 ≤ (x4_1 : Int) := dY; have ae : x4_1 < (l0_0.length : Int) := dY; obtain ⟨ax, al, ah⟩ := Kd.at_int ai.out x4_1 ac ae
     cases al
     replace ah := oC HB ah; replace ac := eq_true ac; replace ae := eq_true ae
     go_wp2_with (first | ((with_reducible refine gate_dst (N := 19) rfl ?_); refine gsM (some 19) Tryd.func56 #[.int .i64 (wrap64 (x3_1)), .int .i64 (rd l0_0 x4_1)] ?_; (with_reducible refine (furrowref4_Gcd.calls k1 (wrap64 (x3_1)) (rd l0_0 x4_1) ag _ A5.out).mono ?_); rintro e w' ⟨rfl, ⟨nd, rfl⟩⟩; refine ⟨_, rfl, ?_⟩))
     go_roundg k1
     case measure => have := af.out; omega
     case rel => exact ⟨(ag), (wrap64 (x4_1 + 1)), eK, eK, H', ⟨by have := af.out; omega⟩, ⟨uB aa.out⟩, ⟨bH⟩⟩
    ·exact nO H c4
   ·rw [if_neg c3] at H
    have ak := decide_eq_false c3; clear c3; obtain rfl := Option.some.inj H; obtain ⟨ay, az, aA, aC⟩ := cL2 aa; go_wp2; go_ret; exact ⟨rE, bH⟩

/-! ### furrowref14_Const: function 57 -/
def furrowref14_Const.f (a0 : Int) (a1 : Int) : Option (List Int × Int) := if a0 < 0 then (if 0 ≤ 35184372088832 then (some ((List.replicate 0 0), a1)) else (none)) else (if 0 ≤ a0 then (if (a0 : Int).toNat ≤ 35184372088832 then (some ((List.replicate (a0 : Int).toNat 0), a1)) else (none)) else (none))
set_option maxHeartbeats 8000000 in
set_option maxRecDepth 100000 in
theorem furrowref14_Const.calls (a0 : Int) (a1 : Int) (r1 : List Int) (r2 : Int) (w : World) (h : furrowref14_Const.f a0 a1 = some (r1, r2)) :
  Calls Tryd.prog 57 #[.int .i64 a0, .int .i64 a1] w fun e w' => ∃ v0_ : Value, e = .returned (.agg #[v0_, .int .i64 r2]) ∧ Kd.R (Kd.int .i64) 2 w' w.heap.size (fun _ => True) v0_ r1 ∧ Below w.heap.size w w' := by
 have hu65 := Tryd.underlying65
 have HB := mk0 (Below.refl w.heap.size w)
 have H : (if a0 < 0 then (if 0 ≤ 35184372088832 then (some ((List.replicate 0 0), a1)) else (none)) else (if 0 ≤ a0 then (if (a0 : Int).toNat ≤ 35184372088832 then (some ((List.replicate (a0 : Int).toNat 0), a1)) else (none)) else (none))) = some (r1, r2) := h
 clear h
 by_cases c3 : a0 < 0
 ·rw [if_pos c3] at H
  have av := decide_eq_true c3; clear c3
  by_cases c4 : 0 ≤ 35184372088832
  ·rw [if_pos c4] at H
   have aA := eq_true c4; have aC := decide_eq_true c4; clear c4; obtain ⟨ag, ah⟩ : ∃ y_ : List Int, y_ = (List.replicate 0 0) := ⟨_, rfl⟩; (replace H : (some (ag, a1)) = some (r1, r2) := by (try rw [ah]); first | with_reducible exact H | with_reducible exact oN H | exact H); have ak := mk0 ah; clear ah; simp only [Option.some.injEq, Prod.mk.injEq] at H; obtain ⟨rfl, rfl⟩ := H; go_enter Tryd.func57, Tryd.ntmps57
   go_wp2_with (first | ((with_reducible refine gate_dst (N := 4) rfl ?_); refine bxE 4 #[.slice none 0 0, .int .i64 0] 65 ?_; intro ac hg w5 hbox hb; have aa := mk0 (hbox); have aw := gE (uL HB.out) hg; have ax := gE (uL HB.out) hg; replace HB := hbB (uL HB.out) hb; clear hb hbox hg) | ((with_reducible refine gate_dst (N := 8) rfl ?_); refine Kd.R_make (Kd.int .i64) _ 2 rfl (N := 8) rfl 44 _ _ rfl 0 rfl rfl Tryd.underlying44 (.int .i64 0) 8 info2 rfl (by decide) (by omega) 0 (ok := fun _ => True) (okp := fun _ => True) rfl (fun _ hk => hk) trivial (by omega) (by omega) (Below.refl _ _) (Nat.le_refl _) ?_; intro aD w6 ho7 hb hg_ hnew_; clear hg_ hnew_; (first | rw [← ak.out] at ho7 | (simp only [Int.reduceToNat] at ho7; rw [← ak.out] at ho7)); have al := mk0 (Kd.R_lower ho7 (below_size bH)); replace aa := bB aa hb; replace HB := hbB bH hb; clear hb ho7; obtain ⟨am, ao, ay⟩ := Kd.R_slice al.out; subst ay; obtain ⟨aE, aG, aH, aI⟩ := cL2 aa))
   refine bodyPost_ret (results_cell_row rfl _ _ ac 65 #[.slice am ag.length ao, .int .i64 a1] (0, 0) _ rfl (kB) Tryd.underlying65 rfl (by kernel_rfl)) rfl ?_; exact ⟨_, rE, uR (Kd.R_mono (Kd.R_far (p := ⟨ac, 1, none⟩) (Kd.R_far (p := ⟨ac, 0, none⟩) (Kd.R_types al.out aa.out (by decide)) (fun _ hk => hk.2) (.slice am ag.length ao)) (fun _ hk => hk.2) (.int .i64 a1)) (fun _ hk => trivial)), bH⟩
  ·exact nO H c4
 ·rw [if_neg c3] at H
  have av := decide_eq_false c3; clear c3
  by_cases ae : 0 ≤ a0
  ·rw [if_pos ae] at H
   have aJ := eq_true ae; have aK := decide_eq_true ae; clear ae
   by_cases af : (a0 : Int).toNat ≤ 35184372088832
   ·rw [if_pos af] at H
    have aM := eq_true af; have aN := decide_eq_true af; clear af; obtain ⟨ai, aj⟩ : ∃ y_ : List Int, y_ = (List.replicate (a0 : Int).toNat 0) := ⟨_, rfl⟩; (replace H : (some (ai, a1)) = some (r1, r2) := by (try rw [aj]); first | with_reducible exact H | with_reducible exact oN H | exact H); have ap := mk0 aj; clear aj; simp only [Option.some.injEq, Prod.mk.injEq] at H; obtain ⟨rfl, rfl⟩ := H; go_enter Tryd.func57, Tryd.ntmps57
    go_wp2_with (first | ((with_reducible refine gate_dst (N := 4) rfl ?_); refine bxE 4 #[.slice none 0 0, .int .i64 0] 65 ?_; intro ac hg aQ hbox hb; have aa := mk0 (hbox); have aw := gE (uL HB.out) hg; have ax := gE (uL HB.out) hg; replace HB := hbB (uL HB.out) hb; clear hb hbox hg) | ((with_reducible refine gate_dst (N := 8) rfl ?_); refine Kd.R_make (Kd.int .i64) _ 2 rfl (N := 8) rfl 44 _ _ rfl a0 rfl rfl Tryd.underlying44 (.int .i64 0) 8 info2 rfl (by decide) (by omega) 0 (ok := fun _ => True) (okp := fun _ => True) rfl (fun _ hk => hk) trivial (dY) (Nat.le_trans (Nat.mul_le_mul_right _ (dY : a0.toNat ≤ 35184372088832)) (by omega)) (Below.refl _ _) (Nat.le_refl _) ?_; intro aT aU ho14 hb hg_ hnew_; clear hg_ hnew_; (first | rw [← ap.out] at ho14 | (simp only [Int.reduceToNat] at ho14; rw [← ap.out] at ho14)); have aq := mk0 (Kd.R_lower ho14 (below_size bH)); replace aa := bB aa hb; replace HB := hbB bH hb; clear hb ho14; obtain ⟨ar, au, az⟩ := Kd.R_slice aq.out; subst az; obtain ⟨aV, aW, aX, aY⟩ := cL2 aa))
    refine bodyPost_ret (results_cell_row rfl _ _ ac 65 #[.slice ar ai.length au, .int .i64 a1] (0, 0) _ rfl (kB) Tryd.underlying65 rfl (by kernel_rfl)) rfl ?_; exact ⟨_, rE, uR (Kd.R_mono (Kd.R_far (p := ⟨ac, 1, none⟩) (Kd.R_far (p := ⟨ac, 0, none⟩) (Kd.R_types aq.out aa.out (by decide)) (fun _ hk => hk.2) (.slice ar ai.length au)) (fun _ hk => hk.2) (.int .i64 a1)) (fun _ hk => trivial)), bH⟩
   ·exact nO H af
  ·exact nO H ae


/-! ### furrowref20_less: function 33 -/
def furrowref20_less.l0 : Nat → Int → Int → List Int → Int → List Int → Int → Option (List Int × Int)
 | 0, _, _, _, _, _, _ => none
 | k + 1, x1, x8, x382000, x382001, x388000, x388001 => if x8 < (x382000.length : Int) then (if 0 ≤ x8 then (if x1 = 0 then (none) else (if x8 < (x388000.length : Int) then (furrowref20_less.l0 k x1 (wrap64 (x8 + 1)) x382000 x382001 (x388000.set (x8 : Int).toNat (wrap64 (Int.tdiv (rd x382000 x8) x1))) x388001) else (none))) else (none)) else (some (x388000, x388001))
def furrowref20_less.f (k : Nat) (l0_0 : List Int) (a0_1 : Int) (a1 : Int) (a2 : Int) : Option (List Int × Int) := (furrowref14_Const.f (l0_0.length : Int) a2).bind fun bt383 => (furrowref20_less.l0 k a1 0 l0_0 a0_1 bt383.1 bt383.2)
theorem furrowref20_less.mono_l : ∀ k, (∀ y0 y1 y2 y3 y4 y5, LeO (furrowref20_less.l0 k y0 y1 y2 y3 y4 y5) (furrowref20_less.l0 (k + 1) y0 y1 y2 y3 y4 y5))
 | 0 => fun _ _ _ _ _ _ r h => by simp [furrowref20_less.l0] at h
 | k + 1 => by
  have ih0 := furrowref20_less.mono_l k
  ·intro y0 y1 y2 y3 y4 y5
   unfold furrowref20_less.l0
   repeat' first
   | (with_reducible exact ih0 _ _ _ _ _ _)
   | (with_reducible exact LeO.refl _)
   | (with_reducible exact LeO.none _)
   | (with_reducible refine LeO.ite ?_ ?_)
   | (with_reducible refine LeO.bind ?_ (fun _ => ?_))
   | exact ih0 _ _ _ _ _ _
   | exact LeO.none _
   | refine LeO.ite ?_ ?_
   | refine LeO.bind ?_ (fun _ => ?_)
theorem furrowref20_less.mono : ∀ a0 a1 a2 a3 k, LeO (furrowref20_less.f k a0 a1 a2 a3) (furrowref20_less.f (k + 1) a0 a1 a2 a3) := by
 intro a0 a1 a2 a3 k
 have ih0 := furrowref20_less.mono_l k
 unfold furrowref20_less.f
 repeat' first
   | (with_reducible exact ih0 _ _ _ _ _ _)
   | (with_reducible exact LeO.refl _)
   | (with_reducible exact LeO.none _)
   | (with_reducible refine LeO.ite ?_ ?_)
   | (with_reducible refine LeO.bind ?_ (fun _ => ?_))
   | exact ih0 _ _ _ _ _ _
   | exact LeO.none _
   | refine LeO.ite ?_ ?_
   | refine LeO.bind ?_ (fun _ => ?_)
def furrowref20_less.T5 : Bool × List (List Nat × List Nat) := (true, [([], []), ([0], [0]), ([], []), ([], []), ([3], [3]), ([], []), ([4, 5], [4, 5]), ([6], [6]), ([], []), ([7, 8], [7, 8]), ([1, 2, 0, 1, 2, 3, 4, 5, 6, 7, 8, 9], [1, 2]), ([10, 9, 0, 1, 2, 3, 4, 5, 6, 7, 8, 9], [9, 10])])
def furrowref20_less.B5 : List Nat := [0, 1, 0, 0, 8, 0, 56, 120, 0, 504, 1023, 2047]
theorem furrowref20_less.tab5 : rtab .any (opsOf Tryd.f33 5) = furrowref20_less.T5 := by kernel_rfl
theorem furrowref20_less.bits5 : waitsOk furrowref20_less.T5.2 furrowref20_less.B5 = true := by kernel_rfl
set_option maxHeartbeats 8000000 in
set_option maxRecDepth 100000 in
theorem furrowref20_less.calls (k : Nat) (A0_0 : Option Addr) (c0_0 : Nat) (l0_0 : List Int) (a0_1 : Int) (a1 : Int) (a2 : Int) (r1 : List Int) (r2 : Int) (w : World) (hr0_0 : Kd.C (Kd.int .i64) w A0_0 l0_0.length l0_0) (hc0_0 : l0_0.length ≤ c0_0) (h : furrowref20_less.f k l0_0 a0_1 a1 a2 = some (r1, r2)) :
  Calls Tryd.prog 33 #[.agg #[.slice A0_0 l0_0.length c0_0, .int .i64 a0_1], .int .i64 a1, .int .i64 a2] w fun e w' => ∃ v0_ : Value, e = .returned (.agg #[v0_, .int .i64 r2]) ∧ Kd.R (Kd.int .i64) 2 w' w.heap.size (fun _ => True) v0_ r1 ∧ Below w.heap.size w w' := by
 have hu65 := Tryd.underlying65
 have a_ := mk0 hr0_0
 have bv := mk0 hc0_0
 clear hr0_0 hc0_0
 have HB := mk0 (Below.refl w.heap.size w)
 have H : ((furrowref14_Const.f (l0_0.length : Int) a2).bind fun aI => (furrowref20_less.l0 k a1 0 l0_0 a0_1 aI.1 aI.2)) = some (r1, r2) := h
 clear h
 replace H := Option.bind_eq_some_iff.mp H
 obtain ⟨⟨ak, ah⟩, aJ, H⟩ := H
 dsimp only at H
 have A4 := mk0 aJ
 clear aJ
 have H' := mk0 H
 clear H
 go_enter Tryd.func33, Tryd.ntmps33
 go_wp2_with (first | ((with_reducible refine gate_dst (N := 3) rfl ?_); refine bxE 3 #[.slice A0_0 l0_0.length c0_0, .int .i64 a0_1] 65 ?_; intro au hg w5 hbox hb; have aa := mk0 (hbox); have bw := gE (uL HB.out) hg; have ba := gE (uL HB.out) hg; replace HB := hbB (uL HB.out) hb; clear hb hbox hg) | ((with_reducible refine gate_dst (N := 6) rfl ?_); refine bxE 6 #[.slice none 0 0, .int .i64 0] 65 ?_; intro al hg w6 hbox hb; have ac := mk0 (hbox); have bx := gE bH hg; have bb := gE bH hg; replace HB := hbB bH hb; have av := nL aa hg; have aw := nG aa hg; replace aa := bB aa hb; clear hb hbox hg; have bz := av.out; have bC := aw.out; obtain ⟨bc, bd, bf, bg⟩ := cL2 aa) | ((with_reducible refine gate_dst (N := 13) rfl ?_); refine gsM (some 13) Tryd.func57 #[.int .i64 (l0_0.length : Int), .int .i64 a2] ?_; (with_reducible refine (furrowref14_Const.calls (l0_0.length : Int) a2 ak ah _ A4.out).mono ?_); rintro e w9 ⟨bE, rfl, ho0, hb⟩; refine ⟨_, rfl, ?_⟩; have am := mk0 (Kd.R_lower ho0 (below_size bH)); replace aa := bB aa hb; replace ac := bB ac hb; replace HB := hbB bH hb; (try clear hb ho0)) | ((with_reducible refine gate_dst (N := 7) rfl ?_); refine bxE 7 #[.slice none 0 0, .int .i64 0] 65 ?_; intro aj hg bF hbox hb; replace am := rB am hb; have ae := mk0 (hbox); have bG := gE bH hg; have bh := gE bH hg; replace HB := hbB bH hb; have ax := nL aa hg; have ay := nG aa hg; replace aa := bB aa hb; have aK := nL ac hg; have aM := nG ac hg; replace ac := bB ac hb; clear hb hbox hg; obtain ⟨aN, aQ, bi⟩ := Kd.R_slice am.out; subst bi; have bI := ay.out; have bJ := ax.out; have bK := aM.out; have bL := aK.out; obtain ⟨bj, bk, bl, bm⟩ := cL2 ae))
 go_loopg [8] k (fun kq v8 w' => ∃ (x8_1 : Int) (ag : List Int) (az : Value), v8 = .int .i64 x8_1 ∧ Aside0 (furrowref20_less.l0 kq a1 x8_1 l0_0 a0_1 ag ah = some (r1, r2)) ∧ Aside0 (kq ≤ k) ∧ Aside0 (Kd.R (Kd.int .i64) 2 w' w.heap.size (fun _ => True) az ag) ∧ Aside0 (w'.heap[au]? = some (.cells #[(.slice A0_0 l0_0.length c0_0), .int .i64 a0_1] 65 (0, 0))) ∧ Aside0 (w'.heap[al]? = some (.cells #[(.slice none 0 0), .int .i64 0] 65 (0, 0))) ∧ Aside0 (w'.heap[aj]? = some (.cells #[az, .int .i64 ah] 65 (0, 0))) ∧ Aside0 (Below w.heap.size w w'))
 case atStart => exact ⟨(0), (ak), (.slice aN ak.length aQ), eK, H', ⟨Nat.le_refl _⟩, ⟨uR (Kd.R_mono (Kd.R_far (p := ⟨aj, 1, none⟩) (Kd.R_far (p := ⟨aj, 0, none⟩) (Kd.R_types am.out ae.out (by decide)) (fun _ hk => hk.2) (.slice aN ak.length aQ)) (fun _ hk => hk.2) (.int .i64 ah)) (fun _ hk => trivial))⟩, ⟨kB⟩, ⟨kB⟩, ⟨kB⟩, ⟨bH⟩⟩
 case round =>
  clear H'; (try clear bj bk bc bd bl bm bf bg); obtain ⟨x8_1, ag, az, rfl, HA, aT, af, aa, ac, ae, HB⟩ := hrel
  cases gk with
  | zero => exact absurd HA.out (by simp [furrowref20_less.l0])
  | succ k1 =>
   have H := HA.out; clear HA; simp only [furrowref20_less.l0] at H
   by_cases ai : x8_1 < (l0_0.length : Int)
   ·rw [if_pos ai] at H
    have bn := decide_eq_true ai; clear ai
    by_cases ao : 0 ≤ x8_1
    ·rw [if_pos ao] at H
     have bM := decide_eq_true ao; clear ao
     by_cases ap : a1 = 0
     ·exact nI H ap
     ·rw [if_neg ap] at H
      have bO : (a1 == 0) = false := beq_eq_false_iff_ne.mpr ap; have bP : (a1 != 0) = true := bne_iff_ne.mpr ap
      by_cases aq : x8_1 < (ag.length : Int)
      ·rw [if_pos aq] at H
       have bQ := decide_eq_true aq; clear aq; obtain ⟨aU, aA⟩ : ∃ y_ : List Int, y_ = (ag.set (x8_1 : Int).toNat (wrap64 (Int.tdiv (rd l0_0 x8_1) a1))) := ⟨_, rfl⟩; (replace H : (furrowref20_less.l0 k1 a1 (wrap64 (x8_1 + 1)) l0_0 a0_1 aU ah) = some (r1, r2) := by (try rw [aA]); first | with_reducible exact H | with_reducible exact oN H | exact H); have bo := mk0 aA; clear aA; have H' := mk0 H; clear H; have bR := av.out; have bT := aw.out; have bU := ax.out; have bV := ay.out; obtain ⟨bW, bX, bY, bZ⟩ := cL2 aa; (try go_wp2); replace af := mk0 (Kd.R_drew af.out); replace aa := mk0 (blk_drew aa.out); replace ac := mk0 (blk_drew ac.out); replace ae := mk0 (blk_drew ae.out); replace HB := mk0 (below_drew1 HB.out); have aC : 0 ≤ (x8_1 : Int) := dY; have aD : x8_1 < (l0_0.length : Int) := dY; obtain ⟨aV, bp, ar⟩ := Kd.at_int a_.out x8_1 aC aD; have hw388_0 := ar
       cases bp
       replace ar := oC HB ar; replace aC := eq_true aC; replace aD := eq_true aD; have aE : 0 ≤ (x8_1 : Int) := dY; have aG : (x8_1 : Int) < ((ag.length : Int) : Int) := dY; obtain ⟨aW, aX, aY, aZ, gl19, cl19, a6⟩ := Kd.R_form af.out (by omega); (first | cases aY | (injection aY with ea_ en_ ec_; (first | subst ea_ | (injection ea_ with ea_; subst ea_)); subst ec_; clear en_)); have bq := mk0 aZ; have GG19 := mk0 a6; clear aZ gl19 a6; obtain ⟨br, bs⟩ := Kd.R_celln 0 af.out (x8_1 : Int) aE aG; replace aE := eq_true aE; replace aG := eq_true aG; have aH := Kd.R_putn af.out (x8_1 : Int) (wrap64 (Int.tdiv (rd l0_0 x8_1) a1)); rw [← bo.out] at aH; have a7 := mk0 aH; clear aH; refine start_ (n := 12) (S := fun w' => w'.cell? ⟨aj, 0, none⟩ = some (.slice (some ⟨aW, 0, none⟩) ag.length aX) ∧ w'.cell? ⟨aj, 1, none⟩ = some (.int .i64 ah) ∧ w'.cell? ⟨au, 0, none⟩ = some (.slice (some aV) l0_0.length c0_0) ∧ w'.cell? ⟨au, 1, none⟩ = some (.int .i64 a0_1) ∧ w'.cell? (aV.add (x8_1).toNat) = some (.int .i64 (rd l0_0 x8_1))) (ds := [11]) (bts 12 0) (by kernel_rfl) rfl rfl ⟨(blk_cell ae.out 0).trans rfl, (blk_cell ae.out 1).trans rfl, (blk_cell aa.out 0).trans rfl, (blk_cell aa.out 1).trans rfl, ((HB.out.cell (World.block_lt_of_cell? w _ hw388_0)).trans hw388_0)⟩ (fun hHeld => ?_); refine with_tabW furrowref20_less.tab5 furrowref20_less.bits5 (fun HT_ HW_ => ?_); generalize wr.drew = b3 at af aa ac ae HB GG19 a7 bs br ar hHeld ⊢; refine qA 0 1 ?_; refine qA 2 5 ?_; refine qA 3 13 ?_; refine qA 5 45 ?_; refine qA 8 301 ?_; refine qT5 1 303 ?_; refine qT5 4 319 ?_; refine qA 6 383 ?_; refine qT5 7 511 ?_; refine qA 9 1023 ?_; refine qA 10 2047 ?_; refine last_ (i := 11) (N := none) (bts 12 4095) rfl rfl (one_of HT_.out (by kernel_rfl)) (by decide) (fun K hK => ?_); refine skip_ (w1 := ?_) (by rfl) rfl ?_ ?_; rotate_left
       ·go_simp
        rfl
       refine hK.out _ _ ?_; clear hK K; refine done_ (done_of HT_.out (by kernel_rfl)) ?_; (try go_wp2)
       go_roundg k1
       case measure => have := aT.out; omega
       case rel => exact ⟨(wrap64 (x8_1 + 1)), (aU), (.slice (some ⟨aW, 0, none⟩) ag.length aX), eK, H', ⟨by have := aT.out; omega⟩, ⟨uR a7.out⟩, ⟨by (repeat refine lay ?_); refine blk_far ?_ (by have h_ := Kd.R_ne af.out aa.out (by decide); intro e_; exact h_ (by rw [e_]; rfl)) _; (repeat refine lay ?_); exact aa.out⟩, ⟨by (repeat refine lay ?_); refine blk_far ?_ (by have h_ := Kd.R_ne af.out ac.out (by decide); intro e_; exact h_ (by rw [e_]; rfl)) _; (repeat refine lay ?_); exact ac.out⟩, ⟨by (repeat refine lay ?_); refine blk_far ?_ (by have h_ := Kd.R_ne af.out ae.out (by decide); intro e_; exact h_ (by rw [e_]; rfl)) _; (repeat refine lay ?_); exact ae.out⟩, ⟨by repeat (first | (with_reducible first | exact HB.out | apply below_alloc | apply pw_below_drewN | apply below_drew1 | refine below_set ?_ bq.out | refine below_set ?_ ba.out | refine below_set ?_ bb.out | refine below_set ?_ bh.out) | exact HB.out)⟩⟩
      ·exact nO H aq
    ·exact nO H ao
   ·rw [if_neg ai] at H
    have bn := decide_eq_false ai; clear ai; simp only [Option.some.injEq, Prod.mk.injEq] at H; obtain ⟨rfl, rfl⟩ := H; have b4 := av.out; have b5 := aw.out; have b6 := ax.out; have b7 := ay.out; obtain ⟨b8, b9, ca, cd⟩ := cL2 aa; have ce := aM.out; have cf := aK.out; obtain ⟨cg, ch, cj, ck⟩ := cL2 ae; obtain ⟨a8, a9, bu⟩ := Kd.R_slice af.out; subst bu; obtain ⟨cl, cm, cn, cp⟩ := cL2 ac; go_wp2; refine bodyPost_ret (results_cell_row rfl _ _ al 65 #[.slice a8 ag.length a9, .int .i64 ah] (0, 0) _ rfl (kB) Tryd.underlying65 rfl (by kernel_rfl)) rfl ?_; exact ⟨_, rE, uR (Kd.R_mono (Kd.R_far (p := ⟨al, 1, none⟩) (Kd.R_far (p := ⟨al, 0, none⟩) (Kd.R_types af.out ac.out (by decide)) (fun _ hk => hk.2) (.slice a8 ag.length a9)) (fun _ hk => hk.2) (.int .i64 ah)) (fun _ hk => trivial)), bH⟩

/-! ### furrowref4_Floor: function 34 -/
def furrowref4_Floor.j0 : Nat → Int → Int → Bool → Option (Int × Bool)
 | 0, _, _, _ => none
 | k + 1, x0, x1, x16 => if x16 = true then (some (0, false)) else (if x1 = 0 then (none) else (if (Int.tmod x0 x1) = 0 then (some (wrap64 (Int.tdiv x0 x1), true)) else (if ((decide (x0 < 0)) != (decide (x1 < 0))) = true then (some (wrap64 ((wrap64 (Int.tdiv x0 x1)) - 1), true)) else (some (wrap64 (Int.tdiv x0 x1), true)))))
def furrowref4_Floor.f (k : Nat) (a0 : Int) (a1 : Int) : Option (Int × Bool) := if a1 = 0 then (furrowref4_Floor.j0 k a0 a1 true) else (if a0 = (-9223372036854775808) then (furrowref4_Floor.j0 k a0 a1 (a1 == (-1))) else (furrowref4_Floor.j0 k a0 a1 false))
theorem furrowref4_Floor.mono_l : ∀ k, (∀ y0 y1 y2, LeO (furrowref4_Floor.j0 k y0 y1 y2) (furrowref4_Floor.j0 (k + 1) y0 y1 y2))
 | 0 => fun _ _ _ r h => by simp [furrowref4_Floor.j0] at h
 | k + 1 => by
  have ih0 := furrowref4_Floor.mono_l k
  ·intro y0 y1 y2
   unfold furrowref4_Floor.j0
   repeat' first
   | (with_reducible exact ih0 _ _ _)
   | (with_reducible exact LeO.refl _)
   | (with_reducible exact LeO.none _)
   | (with_reducible refine LeO.ite ?_ ?_)
   | (with_reducible refine LeO.bind ?_ (fun _ => ?_))
   | exact ih0 _ _ _
   | exact LeO.none _
   | refine LeO.ite ?_ ?_
   | refine LeO.bind ?_ (fun _ => ?_)
theorem furrowref4_Floor.mono : ∀ a0 a1 k, LeO (furrowref4_Floor.f k a0 a1) (furrowref4_Floor.f (k + 1) a0 a1) := by
 intro a0 a1 k
 have ih0 := furrowref4_Floor.mono_l k
 unfold furrowref4_Floor.f
 repeat' first
   | (with_reducible exact ih0 _ _ _)
   | (with_reducible exact LeO.refl _)
   | (with_reducible exact LeO.none _)
   | (with_reducible refine LeO.ite ?_ ?_)
   | (with_reducible refine LeO.bind ?_ (fun _ => ?_))
   | exact ih0 _ _ _
   | exact LeO.none _
   | refine LeO.ite ?_ ?_
   | refine LeO.bind ?_ (fun _ => ?_)
set_option maxHeartbeats 8000000 in
set_option maxRecDepth 100000 in
theorem furrowref4_Floor.calls (k : Nat) (a0 : Int) (a1 : Int) (r1 : Int) (r2 : Bool) (w : World) (h : furrowref4_Floor.f k a0 a1 = some (r1, r2)) :
  Calls Tryd.prog 34 #[.int .i64 a0, .int .i64 a1] w fun e w' => e = .returned (.tuple #[.int .i64 r1, .bool r2]) ∧ Drawn0 w w' := by
 have H : (if a1 = 0 then (furrowref4_Floor.j0 k a0 a1 true) else (if a0 = (-9223372036854775808) then (furrowref4_Floor.j0 k a0 a1 (a1 == (-1))) else (furrowref4_Floor.j0 k a0 a1 false))) = some (r1, r2) := h
 clear h
 have HC3 := mk0 H
 clear H
 go_enter Tryd.func34, Tryd.ntmps34
 go_upto_region 1 with (fail)
 go_cut [16] (fun v16 wc => ∃ (kq : Nat) (x16_2 : Bool), v16 = .bool x16_2 ∧ Aside0 (furrowref4_Floor.j0 kq a0 a1 x16_2 = some (r1, r2)) ∧ Aside0 (kq ≤ k) ∧ Drawn0 w wc)
 case first =>
  have H := HC3.out; clear HC3
  by_cases c4 : a1 = 0
  ·rw [if_pos c4] at H
   have c4b0 : (a1 == 0) = true := beq_iff_eq.mpr c4; have c4b1 : (a1 != 0) = false := bne_eq_false_iff_eq.mpr c4; clear c4; (first | rw [c4b0] | (simp only [i64_w, i32_w]; rw [c4b0]) | skip); have H' := mk0 H; clear H; go_wp2
   go_meet
   case rel => exact ⟨_, (true), eK, H', ⟨by first | omega | exact Nat.le_refl _⟩, by repeat (first | exact Drawn0.refl _ | apply Drawn0.step)⟩
  ·rw [if_neg c4] at H
   have c4b0 : (a1 == 0) = false := beq_eq_false_iff_ne.mpr c4; have c4b1 : (a1 != 0) = true := bne_iff_ne.mpr c4; (first | rw [c4b0] | (simp only [i64_w, i32_w]; rw [c4b0]) | skip)
   by_cases c5 : a0 = (-9223372036854775808)
   ·rw [if_pos c5] at H
    have c5b0 : (a0 == (-9223372036854775808)) = true := beq_iff_eq.mpr c5; have c5b1 : (a0 != (-9223372036854775808)) = false := bne_eq_false_iff_eq.mpr c5; clear c5; have H' := mk0 H; clear H; go_wp2
    go_meet
    case rel => exact ⟨_, ((a1 == (-1))), eK, H', ⟨by first | omega | exact Nat.le_refl _⟩, by repeat (first | exact Drawn0.refl _ | apply Drawn0.step)⟩
   ·rw [if_neg c5] at H
    have c5b0 : (a0 == (-9223372036854775808)) = false := beq_eq_false_iff_ne.mpr c5; have c5b1 : (a0 != (-9223372036854775808)) = true := bne_iff_ne.mpr c5; have H' := mk0 H; clear H; go_wp2
    go_meet
    case rel => exact ⟨_, (false), eK, H', ⟨by first | omega | exact Nat.le_refl _⟩, by repeat (first | exact Drawn0.refl _ | apply Drawn0.step)⟩
 case rest =>
  clear HC3; obtain ⟨kq, x16_2, rfl, HA, HJ2, ⟨mc2, rfl⟩⟩ := hcut
  cases kq with
  | zero => exact absurd HA.out (by simp [furrowref4_Floor.j0])
  | succ kj2 =>
   have H := HA.out; clear HA; simp only [furrowref4_Floor.j0] at H
   by_cases c6 : x16_2 = true
   ·subst c6
    replace H := iT H; simp only [Option.some.injEq, Prod.mk.injEq] at H; obtain ⟨rfl, rfl⟩ := H; go_wp2
    go_ret2
    exact ⟨eK, by repeat (first | exact Drawn0.refl _ | apply Drawn0.step)⟩
   ·replace c6 := Bool.eq_false_iff.mpr c6
    subst c6; replace H := iF H
    by_cases c7 : a1 = 0
    ·exact nI H c7
    ·rw [if_neg c7] at H
     have c7b0 : (a1 == 0) = false := beq_eq_false_iff_ne.mpr c7; have c7b1 : (a1 != 0) = true := bne_iff_ne.mpr c7
     by_cases c8 : (Int.tmod a0 a1) = 0
     ·rw [if_pos c8] at H
      have c8b0 : ((Int.tmod a0 a1) == 0) = true := beq_iff_eq.mpr c8; have c8b1 : ((Int.tmod a0 a1) != 0) = false := bne_eq_false_iff_eq.mpr c8; clear c8; simp only [Option.some.injEq, Prod.mk.injEq] at H; obtain ⟨rfl, rfl⟩ := H; go_wp2
      go_ret2
      exact ⟨eK, by repeat (first | exact Drawn0.refl _ | apply Drawn0.step)⟩
     ·rw [if_neg c8] at H
      have c8b0 : ((Int.tmod a0 a1) == 0) = false := beq_eq_false_iff_ne.mpr c8; have c8b1 : ((Int.tmod a0 a1) != 0) = true := bne_iff_ne.mpr c8
      by_cases c9 : ((decide (a0 < 0)) != (decide (a1 < 0))) = true
      ·rw [if_pos c9] at H
       have c9b0 : ((decide (a0 < 0)) != (decide (a1 < 0))) = true := c9; (try (have c9b1 : decide ((decide (a0 < 0)) = (decide (a1 < 0))) = false := by (revert c9; generalize ((decide (a0 < 0))) = p_; generalize ((decide (a1 < 0))) = q_; revert p_ q_; decide))); (try (have c9b2 : ((decide (a0 < 0)) == (decide (a1 < 0))) = false := by (revert c9; generalize ((decide (a0 < 0))) = p_; generalize ((decide (a1 < 0))) = q_; revert p_ q_; decide))); (try (have c9b3 : ¬ ((decide (a0 < 0)) = (decide (a1 < 0))) := by (revert c9; generalize ((decide (a0 < 0))) = p_; generalize ((decide (a1 < 0))) = q_; revert p_ q_; decide))); clear c9; simp only [Option.some.injEq, Prod.mk.injEq] at H; obtain ⟨rfl, rfl⟩ := H; go_wp2
       all_goals (try (exfalso; rename_i h_; rw [c9b2] at h_; revert h_; decide))
       go_ret2
       exact ⟨eK, by repeat (first | exact Drawn0.refl _ | apply Drawn0.step)⟩
      ·rw [if_neg c9] at H
       (have c9b0 : ((decide (a0 < 0)) != (decide (a1 < 0))) = false := by simpa using c9); (try (have c9b1 : decide ((decide (a0 < 0)) = (decide (a1 < 0))) = true := by (revert c9; generalize ((decide (a0 < 0))) = p_; generalize ((decide (a1 < 0))) = q_; revert p_ q_; decide))); (try (have c9b2 : ((decide (a0 < 0)) == (decide (a1 < 0))) = true := by (revert c9; generalize ((decide (a0 < 0))) = p_; generalize ((decide (a1 < 0))) = q_; revert p_ q_; decide))); clear c9; simp only [Option.some.injEq, Prod.mk.injEq] at H; obtain ⟨rfl, rfl⟩ := H; go_wp2
       all_goals (try (exfalso; rename_i h_; rw [c9b2] at h_; revert h_; decide))
       go_ret2
       exact ⟨eK, by repeat (first | exact Drawn0.refl _ | apply Drawn0.step)⟩

end Go.Proofs.YtkkpgjkjkcmcbaaDoor.X
