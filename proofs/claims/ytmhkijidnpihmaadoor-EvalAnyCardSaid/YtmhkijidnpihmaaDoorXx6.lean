-- PRINTED by print.py (a twelfth state) out of the translation. Not trusted: Lean checks it.
import Derived.Test.YtmhkijidnpihmaaDoorXx0
namespace Go.Proofs.YtmhkijidnpihmaaDoor.X
open Go.Proofs.YtmhkijidnpihmaaDoor.Flt Go.Proofs.YtmhkijidnpihmaaDoor.H Go.RowKit Go.Proofs.YtmhkijidnpihmaaDoorW.PrintWords Go.Proofs.YtmhkijidnpihmaaDoorW.PrintLast Go.Proofs.YtmhkijidnpihmaaDoorW.PrintMore
attribute [local go_sem] max2_int min2_int max_two min_two max_three min_three max_four min_four   -- for this text's walks alone
set_option linter.unusedVariables false
set_option linter.unusedSimpArgs false

/-! ### furrowref4_IsKey: function 38 -/
def furrowref4_IsKey.l0 : Nat → ByteArray → List ByteArray → Int → Option (Bool)
 | 0, _, _, _ => none
 | k + 1, x0, x3, x4 => if x4 < (x3.length : Int) then (if 0 ≤ x4 then (if (rdOf ByteArray.empty x3 x4).toList = x0.toList then (some true) else (furrowref4_IsKey.l0 k x0 x3 (wrap64 (x4 + 1)))) else (none)) else (some false)
def furrowref4_IsKey.f (k : Nat) (a0 : ByteArray) : Option (Bool) := furrowref4_IsKey.l0 k a0 (([(⟨#[105, 110, 116, 101, 103, 101, 114]⟩ : ByteArray), (⟨#[100, 111]⟩ : ByteArray), (⟨#[101, 110, 100]⟩ : ByteArray), (⟨#[105, 102]⟩ : ByteArray), (⟨#[116, 104, 101, 110]⟩ : ByteArray), (⟨#[101, 108, 115, 101]⟩ : ByteArray), (⟨#[114, 101, 97, 100]⟩ : ByteArray), (⟨#[112, 114, 105, 110, 116]⟩ : ByteArray)] : List ByteArray)) 0
theorem furrowref4_IsKey.mono_l : ∀ k, (∀ y0 y1 y2, LeO (furrowref4_IsKey.l0 k y0 y1 y2) (furrowref4_IsKey.l0 (k + 1) y0 y1 y2))
 | 0 => fun _ _ _ r h => by simp [furrowref4_IsKey.l0] at h
 | k + 1 => by
  have ih0 := furrowref4_IsKey.mono_l k
  ·intro y0 y1 y2
   unfold furrowref4_IsKey.l0
   repeat' first
   | (with_reducible exact ih0 _ _ _)
   | (with_reducible exact LeO.refl _)
   | (with_reducible exact LeO.none _)
   | (with_reducible refine LeO.ite ?_ ?_)
   | (with_reducible refine LeO.bind ?_ (fun _ => ?_))
   | exact ih0 _ _ _
   | exact LeO.none _
   | refine LeO.ite ?_ ?_
   | refine LeO.bind ?_ (fun _ => ?_)
theorem furrowref4_IsKey.mono : ∀ a0 k, LeO (furrowref4_IsKey.f k a0) (furrowref4_IsKey.f (k + 1) a0) := by
 intro a0 k
 have ih0 := furrowref4_IsKey.mono_l k
 unfold furrowref4_IsKey.f
 repeat' first
   | (with_reducible exact ih0 _ _ _)
   | (with_reducible exact LeO.refl _)
   | (with_reducible exact LeO.none _)
   | (with_reducible refine LeO.ite ?_ ?_)
   | (with_reducible refine LeO.bind ?_ (fun _ => ?_))
   | exact ih0 _ _ _
   | exact LeO.none _
   | refine LeO.ite ?_ ?_
   | refine LeO.bind ?_ (fun _ => ?_)
set_option maxHeartbeats 8000000 in
set_option maxRecDepth 100000 in
theorem furrowref4_IsKey.calls (k : Nat) (a0 : ByteArray) (r : Bool) (w : World) (h : furrowref4_IsKey.f k a0 = some r) :
  Calls Tryd.prog 38 #[.string a0] w fun e w' => e = .returned (.bool r) ∧ Below w.heap.size w w' := by
 have HB := mk0 (Below.refl w.heap.size w)
 have H : (furrowref4_IsKey.l0 k a0 (([(⟨#[105, 110, 116, 101, 103, 101, 114]⟩ : ByteArray), (⟨#[100, 111]⟩ : ByteArray), (⟨#[101, 110, 100]⟩ : ByteArray), (⟨#[105, 102]⟩ : ByteArray), (⟨#[116, 104, 101, 110]⟩ : ByteArray), (⟨#[101, 108, 115, 101]⟩ : ByteArray), (⟨#[114, 101, 97, 100]⟩ : ByteArray), (⟨#[112, 114, 105, 110, 116]⟩ : ByteArray)] : List ByteArray)) 0) = some r := h
 clear h
 obtain ⟨aa, af⟩ : ∃ y_ : List ByteArray, y_ = (([(⟨#[105, 110, 116, 101, 103, 101, 114]⟩ : ByteArray), (⟨#[100, 111]⟩ : ByteArray), (⟨#[101, 110, 100]⟩ : ByteArray), (⟨#[105, 102]⟩ : ByteArray), (⟨#[116, 104, 101, 110]⟩ : ByteArray), (⟨#[101, 108, 115, 101]⟩ : ByteArray), (⟨#[114, 101, 97, 100]⟩ : ByteArray), (⟨#[112, 114, 105, 110, 116]⟩ : ByteArray)] : List ByteArray)) := ⟨_, rfl⟩
 replace H : (furrowref4_IsKey.l0 k a0 aa 0) = some r := by first | (rw [af]; with_reducible exact H) | (have H2_ := (Option.bind_some _ _).symm.trans H; rw [af]; with_reducible exact H2_) | (have H2_ := (Option.bind_some _ _).symm.trans H; with_reducible exact H2_) | with_reducible exact H | (rw [af]; exact H) | exact H
 have ah := mk0 af
 clear af
 have H' := mk0 H
 clear H
 go_enter Tryd.func38, Tryd.ntmps38
 go_wp2_with (first | ((with_reducible refine gate_dst (N := 5) rfl ?_); refine Kd.R_lit Kd.string _ 9 ?hg (N := 5) ?hd (xs := ([(⟨#[105, 110, 116, 101, 103, 101, 114]⟩ : ByteArray), (⟨#[100, 111]⟩ : ByteArray), (⟨#[101, 110, 100]⟩ : ByteArray), (⟨#[105, 102]⟩ : ByteArray), (⟨#[116, 104, 101, 110]⟩ : ByteArray), (⟨#[101, 108, 115, 101]⟩ : ByteArray), (⟨#[114, 101, 97, 100]⟩ : ByteArray), (⟨#[112, 114, 105, 110, 116]⟩ : ByteArray)] : List ByteArray)) (inner := [.string (⟨#[105, 110, 116, 101, 103, 101, 114]⟩ : ByteArray), .string (⟨#[100, 111]⟩ : ByteArray), .string (⟨#[101, 110, 100]⟩ : ByteArray), .string (⟨#[105, 102]⟩ : ByteArray), .string (⟨#[116, 104, 101, 110]⟩ : ByteArray), .string (⟨#[101, 108, 115, 101]⟩ : ByteArray), .string (⟨#[114, 101, 97, 100]⟩ : ByteArray), .string (⟨#[112, 114, 105, 110, 116]⟩ : ByteArray)]) (ok := fun _ => True) (okp := fun _ => True) ?hr ?hp (fun _ hk => hk) trivial (Below.refl _ _) (Nat.le_refl _) (by simp) ?_; (case hd => rfl); (case hg => rfl); (case hr => first | (go_simp; done) | (go_simp; rfl)); (case hp => exact (Reps.one (show Kd.M Kd.string _ _ _ (⟨#[105, 110, 116, 101, 103, 101, 114]⟩ : ByteArray) [.string (⟨#[105, 110, 116, 101, 103, 101, 114]⟩ : ByteArray)] from rfl) (Reps.one (show Kd.M Kd.string _ _ _ (⟨#[100, 111]⟩ : ByteArray) [.string (⟨#[100, 111]⟩ : ByteArray)] from rfl) (Reps.one (show Kd.M Kd.string _ _ _ (⟨#[101, 110, 100]⟩ : ByteArray) [.string (⟨#[101, 110, 100]⟩ : ByteArray)] from rfl) (Reps.one (show Kd.M Kd.string _ _ _ (⟨#[105, 102]⟩ : ByteArray) [.string (⟨#[105, 102]⟩ : ByteArray)] from rfl) (Reps.one (show Kd.M Kd.string _ _ _ (⟨#[116, 104, 101, 110]⟩ : ByteArray) [.string (⟨#[116, 104, 101, 110]⟩ : ByteArray)] from rfl) (Reps.one (show Kd.M Kd.string _ _ _ (⟨#[101, 108, 115, 101]⟩ : ByteArray) [.string (⟨#[101, 108, 115, 101]⟩ : ByteArray)] from rfl) (Reps.one (show Kd.M Kd.string _ _ _ (⟨#[114, 101, 97, 100]⟩ : ByteArray) [.string (⟨#[114, 101, 97, 100]⟩ : ByteArray)] from rfl) (Reps.one (show Kd.M Kd.string _ _ _ (⟨#[112, 114, 105, 110, 116]⟩ : ByteArray) [.string (⟨#[112, 114, 105, 110, 116]⟩ : ByteArray)] from rfl) (Reps.none _ _)))))))))); intro aj w2 ho3 hb hg_ hnew_; clear hg_ hnew_; (first | rw [← ah.out] at ho3 | (simp only [Int.reduceToNat] at ho3; rw [← ah.out] at ho3)); have ak := mk0 (Kd.R_lower ho3 (below_size (uL HB.out))); replace HB := hbB (uL HB.out) hb; clear hb ho3))
 go_loopg [4] k (fun kq v4 w' => ∃ (x4_1 : Int), v4 = .int .i64 x4_1 ∧ Aside0 (furrowref4_IsKey.l0 kq a0 aa x4_1 = some r) ∧ Aside0 (kq ≤ k) ∧ Aside0 (Kd.R Kd.string 9 w' w.heap.size (fun _ => True) aj aa) ∧ Aside0 (Below w.heap.size w w'))
 case atStart => exact ⟨(0), eK, H', ⟨Nat.le_refl _⟩, ⟨uR ak.out⟩, ⟨uL HB.out⟩⟩
 case round =>
  clear H'; obtain ⟨x4_1, rfl, HA, ai, ae, HB⟩ := hrel
  cases gk with
  | zero => exact absurd HA.out (by simp [furrowref4_IsKey.l0])
  | succ k1 =>
   have H := HA.out; clear HA; simp only [furrowref4_IsKey.l0] at H
   by_cases c4 : x4_1 < (aa.length : Int)
   ·rw [if_pos c4] at H
    have al := decide_eq_true c4; clear c4
    by_cases c5 : 0 ≤ x4_1
    ·rw [if_pos c5] at H
     have aw := decide_eq_true c5; clear c5
     by_cases c6 : (rdOf ByteArray.empty aa x4_1).toList = a0.toList
     ·rw [if_pos c6] at H
      have am : ((rdOf ByteArray.empty aa x4_1).toList == a0.toList) = true := beq_iff_eq.mpr c6; have ao : ((rdOf ByteArray.empty aa x4_1).toList != a0.toList) = false := bne_eq_false_iff_eq.mpr c6; clear c6; obtain rfl := Option.some.inj H; obtain ⟨ax, ay, ap⟩ := Kd.R_slice ae.out; subst ap; have ab : 0 ≤ (x4_1 : Int) := dY; have ac : x4_1 < (aa.length : Int) := dY; obtain ⟨aq, ag, ar⟩ := Kd.at_string (Kd.R_reads' ae.out).2.2 x4_1 ab ac
      cases ag
      replace ab := eq_true ab; replace ac := eq_true ac; go_wp2; go_ret; exact ⟨rE, uL HB.out⟩
     ·rw [if_neg c6] at H
      have am : ((rdOf ByteArray.empty aa x4_1).toList == a0.toList) = false := beq_eq_false_iff_ne.mpr c6; have ao : ((rdOf ByteArray.empty aa x4_1).toList != a0.toList) = true := bne_iff_ne.mpr c6; have H' := mk0 H; clear H; obtain ⟨az, aA, au⟩ := Kd.R_slice ae.out; subst au; have ab : 0 ≤ (x4_1 : Int) := dY; have ac : x4_1 < (aa.length : Int) := dY; obtain ⟨aq, ag, ar⟩ := Kd.at_string (Kd.R_reads' ae.out).2.2 x4_1 ab ac
      cases ag
      replace ab := eq_true ab; replace ac := eq_true ac; go_wp2
      go_roundg k1
      case measure => have := ai.out; omega
      case rel => exact ⟨(wrap64 (x4_1 + 1)), eK, H', ⟨by have := ai.out; omega⟩, ⟨uR ae.out⟩, ⟨uL HB.out⟩⟩
    ·exact nO H c5
   ·rw [if_neg c4] at H
    have al := decide_eq_false c4; clear c4; obtain rfl := Option.some.inj H; obtain ⟨aC, aD, av⟩ := Kd.R_slice ae.out; subst av; go_wp2; go_ret; exact ⟨rE, uL HB.out⟩

/-! ### furrowref4_number: function 40 -/
def furrowref4_number.l0 : Nat → ByteArray → Int → Int → Option (Int × Bool)
 | 0, _, _, _ => none
 | k + 1, x0, x4, x5 => if x5 < (x0.size : Int) then (if 0 ≤ x5 then (if x4 > ((9223372036854775807 - (((bt x0 x5) - 48) % 256)) / 10) then (some (0, false)) else (furrowref4_number.l0 k x0 (IntKind.u64.wrap ((IntKind.u64.wrap (10 * x4)) + (((bt x0 x5) - 48) % 256))) (wrap64 (x5 + 1)))) else (none)) else (some (wrap64 (x4), true))
def furrowref4_number.f (k : Nat) (a0 : ByteArray) : Option (Int × Bool) := furrowref4_number.l0 k a0 0 0
theorem furrowref4_number.mono_l : ∀ k, (∀ y0 y1 y2, LeO (furrowref4_number.l0 k y0 y1 y2) (furrowref4_number.l0 (k + 1) y0 y1 y2))
 | 0 => fun _ _ _ r h => by simp [furrowref4_number.l0] at h
 | k + 1 => by
  have ih0 := furrowref4_number.mono_l k
  ·intro y0 y1 y2
   unfold furrowref4_number.l0
   repeat' first
   | (with_reducible exact ih0 _ _ _)
   | (with_reducible exact LeO.refl _)
   | (with_reducible exact LeO.none _)
   | (with_reducible refine LeO.ite ?_ ?_)
   | (with_reducible refine LeO.bind ?_ (fun _ => ?_))
   | exact ih0 _ _ _
   | exact LeO.none _
   | refine LeO.ite ?_ ?_
   | refine LeO.bind ?_ (fun _ => ?_)
theorem furrowref4_number.mono : ∀ a0 k, LeO (furrowref4_number.f k a0) (furrowref4_number.f (k + 1) a0) := by
 intro a0 k
 have ih0 := furrowref4_number.mono_l k
 unfold furrowref4_number.f
 repeat' first
   | (with_reducible exact ih0 _ _ _)
   | (with_reducible exact LeO.refl _)
   | (with_reducible exact LeO.none _)
   | (with_reducible refine LeO.ite ?_ ?_)
   | (with_reducible refine LeO.bind ?_ (fun _ => ?_))
   | exact ih0 _ _ _
   | exact LeO.none _
   | refine LeO.ite ?_ ?_
   | refine LeO.bind ?_ (fun _ => ?_)
set_option maxHeartbeats 8000000 in
set_option maxRecDepth 100000 in
theorem furrowref4_number.calls (k : Nat) (a0 : ByteArray) (r1 : Int) (r2 : Bool) (w : World) (h : furrowref4_number.f k a0 = some (r1, r2)) :
  Calls Tryd.prog 40 #[.string a0] w fun e w' => e = .returned (.tuple #[.int .i64 r1, .bool r2]) ∧ Drawn0 w w' := by
 have H : (furrowref4_number.l0 k a0 0 0) = some (r1, r2) := h
 clear h
 have H' := mk0 H
 clear H
 go_enter Tryd.func40, Tryd.ntmps40
 go_wp2
 go_loopg [4, 5] k (fun kq v4 v5 w' => ∃ (x4_1 : Int) (x5_1 : Int), v4 = .int .u64 x4_1 ∧ v5 = .int .i64 x5_1 ∧ Aside0 (furrowref4_number.l0 kq a0 x4_1 x5_1 = some (r1, r2)) ∧ Aside0 (kq ≤ k) ∧ Drawn0 w w')
 case atStart => exact ⟨(0), (0), eK, eK, H', ⟨Nat.le_refl _⟩, by repeat (first | exact Drawn0.refl _ | apply Drawn0.step)⟩
 case round =>
  clear H'; obtain ⟨x4_1, x5_1, rfl, rfl, HA, HK1, ⟨m1, rfl⟩⟩ := hrel
  cases gk with
  | zero => exact absurd HA.out (by simp [furrowref4_number.l0])
  | succ k1 =>
   have H := HA.out; clear HA; simp only [furrowref4_number.l0] at H
   by_cases c2 : x5_1 < (a0.size : Int)
   ·rw [if_pos c2] at H
    have c2b0 := decide_eq_true c2; clear c2
    by_cases c3 : 0 ≤ x5_1
    ·rw [if_pos c3] at H
     have c3b0 := decide_eq_true c3; clear c3
     by_cases c5 : x4_1 > ((9223372036854775807 - (((bt a0 x5_1) - 48) % 256)) / 10)
     ·rw [if_pos c5] at H
      have c5b0 := decide_eq_true c5; clear c5; simp only [Option.some.injEq, Prod.mk.injEq] at H; obtain ⟨rfl, rfl⟩ := H; have p4 : 0 ≤ (x5_1 : Int) := dY; have q4 : x5_1 < (a0.size : Int) := dY; have hx4 := bt_at a0 x5_1; replace p4 := eq_true p4; replace q4 := eq_true q4; go_wp2
      go_ret2
      exact ⟨eK, by repeat (first | exact Drawn0.refl _ | apply Drawn0.step)⟩
     ·rw [if_neg c5] at H
      have c5b0 := decide_eq_false c5; clear c5; have H' := mk0 H; clear H; have p4 : 0 ≤ (x5_1 : Int) := dY; have q4 : x5_1 < (a0.size : Int) := dY; have hx4 := bt_at a0 x5_1; replace p4 := eq_true p4; replace q4 := eq_true q4; go_wp2
      go_roundg k1
      case measure => have := HK1.out; omega
      case rel => exact ⟨(IntKind.u64.wrap ((IntKind.u64.wrap (10 * x4_1)) + (((bt a0 x5_1) - 48) % 256))), (wrap64 (x5_1 + 1)), eK, eK, H', ⟨by have := HK1.out; omega⟩, by repeat (first | exact Drawn0.refl _ | apply Drawn0.step)⟩
    ·exact nO H c3
   ·rw [if_neg c2] at H
    have c2b0 := decide_eq_false c2; clear c2; simp only [Option.some.injEq, Prod.mk.injEq] at H; obtain ⟨rfl, rfl⟩ := H; go_wp2
    go_ret2
    exact ⟨eK, by repeat (first | exact Drawn0.refl _ | apply Drawn0.step)⟩

end Go.Proofs.YtmhkijidnpihmaaDoor.X
