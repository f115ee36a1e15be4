-- PRINTED by print.py (a twelfth state) out of the translation. Not trusted: Lean checks it.
import Derived.Test.YtmhkijidnpihmaaDoorXx0
import Derived.Test.YtmhkijidnpihmaaDoorXx4
import Derived.Test.YtmhkijidnpihmaaDoorXx5
import Derived.Test.YtmhkijidnpihmaaDoorXx6
import Derived.Test.YtmhkijidnpihmaaDoorXx7
namespace Go.Proofs.YtmhkijidnpihmaaDoor.X
open Go.Proofs.YtmhkijidnpihmaaDoor.Flt Go.Proofs.YtmhkijidnpihmaaDoor.H Go.RowKit Go.Proofs.YtmhkijidnpihmaaDoorW.PrintWords Go.Proofs.YtmhkijidnpihmaaDoorW.PrintLast Go.Proofs.YtmhkijidnpihmaaDoorW.PrintMore
attribute [local go_sem] max2_int min2_int max_two min_two max_three min_three max_four min_four   -- for this text's walks alone
set_option linter.unusedVariables false
set_option linter.unusedSimpArgs false

/-! ### furrowref4_Toks: function 29 -/
mutual
def furrowref4_Toks.l0 : Nat → ByteArray → List (S91) → Int → Option ((List (S91)) × (List (S83)) × Int)
 | 0, _, _, _ => none
 | k + 1, x0, x4, x5 => if x5 < (x0.size : Int) then (if 0 ≤ x5 then (if (bt x0 x5) = 32 then (furrowref4_Toks.j1 k x0 x4 x5 x5 true) else (furrowref4_Toks.j1 k x0 x4 x5 x5 ((bt x0 x5) == 9))) else (none)) else (some (x4, ([] : List (S83)), 0))
def furrowref4_Toks.j1 : Nat → ByteArray → List (S91) → Int → Int → Bool → Option ((List (S91)) × (List (S83)) × Int)
 | 0, _, _, _, _, _ => none
 | k + 1, x0, x4, x5, x6, x35 => if x35 = true then (furrowref4_Toks.l0 k x0 x4 (wrap64 (x5 + 1))) else (if 0 ≤ x5 then (if x5 < (x0.size : Int) then ((furrowref4_letter.f (bt x0 x5)).bind fun t239 => (if t239 = true then (furrowref4_Toks.l1 k x0 x4 x5 x6) else ((furrowref4_digit.f (bt x0 x5)).bind fun t256 => (if t256 = true then (furrowref4_Toks.l2 k x0 x4 x5 x6) else ((furrowref4_sign.f k x0 x5).bind fun t275 => (if t275 = 0 then ((furrowref4_At.f (⟨#[119, 111, 114, 100]⟩ : ByteArray) x5 3).bind fun bt276 => (some (([] : List (S91)), bt276.1, bt276.2))) else (if 0 ≤ x6 then (if x6 ≤ (wrap64 (x5 + t275)) then (if (wrap64 (x5 + t275)) ≤ (x0.size : Int) then (if x4.length < 3518437208883 then (furrowref4_Toks.l0 k x0 (x4 ++ [(⟨3, x0.extract (x6 : Int).toNat ((wrap64 (x5 + t275)) : Int).toNat, x6, 0⟩ : S91)]) (wrap64 (x5 + t275))) else (none)) else (none)) else (none)) else (none)))))))) else (none)) else (none))
def furrowref4_Toks.j3 : Nat → ByteArray → List (S91) → Int → Int → Option ((List (S91)) × (List (S83)) × Int)
 | 0, _, _, _, _ => none
 | k + 1, x0, x4, x5, x6 => if 0 ≤ x6 then (if x6 ≤ x5 then (if x5 ≤ (x0.size : Int) then ((furrowref4_IsKey.f k (x0.extract (x6 : Int).toNat (x5 : Int).toNat)).bind fun t241 => (if t241 = true then (if (wrap64 (x5 - x6)) > 31 then ((furrowref4_At.f (⟨#[119, 111, 114, 100]⟩ : ByteArray) x6 4).bind fun bt242 => (some (([] : List (S91)), bt242.1, bt242.2))) else (if x4.length < 3518437208883 then (furrowref4_Toks.l0 k x0 (x4 ++ [(⟨4, x0.extract (x6 : Int).toNat (x5 : Int).toNat, x6, 0⟩ : S91)]) x5) else (none))) else (if (wrap64 (x5 - x6)) > 31 then ((furrowref4_At.f (⟨#[119, 111, 114, 100]⟩ : ByteArray) x6 4).bind fun bt249 => (some (([] : List (S91)), bt249.1, bt249.2))) else (if x4.length < 3518437208883 then (furrowref4_Toks.l0 k x0 (x4 ++ [(⟨1, x0.extract (x6 : Int).toNat (x5 : Int).toNat, x6, 0⟩ : S91)]) x5) else (none))))) else (none)) else (none)) else (none)
def furrowref4_Toks.l1 : Nat → ByteArray → List (S91) → Int → Int → Option ((List (S91)) × (List (S83)) × Int)
 | 0, _, _, _, _ => none
 | k + 1, x0, x4, x5, x6 => if x5 < (x0.size : Int) then (if 0 ≤ x5 then ((furrowref4_behind.f (bt x0 x5)).bind fun t240 => (if t240 = true then (furrowref4_Toks.l1 k x0 x4 (wrap64 (x5 + 1)) x6) else (furrowref4_Toks.j3 k x0 x4 x5 x6))) else (none)) else (furrowref4_Toks.j3 k x0 x4 x5 x6)
def furrowref4_Toks.j5 : Nat → ByteArray → List (S91) → Int → Int → Option ((List (S91)) × (List (S83)) × Int)
 | 0, _, _, _, _ => none
 | k + 1, x0, x4, x5, x6 => if 0 ≤ x6 then (if x6 ≤ x5 then (if x5 ≤ (x0.size : Int) then ((furrowref4_number.f k (x0.extract (x6 : Int).toNat (x5 : Int).toNat)).bind fun bt258 => (if bt258.2 = true then (if x5 < (x0.size : Int) then (if 0 ≤ x5 then ((furrowref4_letter.f (bt x0 x5)).bind fun t264 => (if t264 = true then ((furrowref4_At.f (⟨#[119, 111, 114, 100]⟩ : ByteArray) x5 3).bind fun bt265 => (some (([] : List (S91)), bt265.1, bt265.2))) else (if x4.length < 3518437208883 then (furrowref4_Toks.l0 k x0 (x4 ++ [(⟨2, x0.extract (x6 : Int).toNat (x5 : Int).toNat, x6, bt258.1⟩ : S91)]) x5) else (none)))) else (none)) else (if x4.length < 3518437208883 then (furrowref4_Toks.l0 k x0 (x4 ++ [(⟨2, x0.extract (x6 : Int).toNat (x5 : Int).toNat, x6, bt258.1⟩ : S91)]) x5) else (none))) else ((furrowref4_At.f (⟨#[119, 111, 114, 100]⟩ : ByteArray) x6 5).bind fun bt260 => (some (([] : List (S91)), bt260.1, bt260.2))))) else (none)) else (none)) else (none)
def furrowref4_Toks.l2 : Nat → ByteArray → List (S91) → Int → Int → Option ((List (S91)) × (List (S83)) × Int)
 | 0, _, _, _, _ => none
 | k + 1, x0, x4, x5, x6 => if x5 < (x0.size : Int) then (if 0 ≤ x5 then ((furrowref4_digit.f (bt x0 x5)).bind fun t257 => (if t257 = true then (furrowref4_Toks.l2 k x0 x4 (wrap64 (x5 + 1)) x6) else (furrowref4_Toks.j5 k x0 x4 x5 x6))) else (none)) else (furrowref4_Toks.j5 k x0 x4 x5 x6)
end
def furrowref4_Toks.f (k : Nat) (a0 : ByteArray) : Option ((List (S91)) × (List (S83)) × Int) := furrowref4_Toks.l0 k a0 ([] : List (S91)) 0
theorem furrowref4_Toks.mono_l : ∀ k, (∀ y0 y1 y2, LeO (furrowref4_Toks.l0 k y0 y1 y2) (furrowref4_Toks.l0 (k + 1) y0 y1 y2)) ∧ (∀ y0 y1 y2 y3 y4, LeO (furrowref4_Toks.j1 k y0 y1 y2 y3 y4) (furrowref4_Toks.j1 (k + 1) y0 y1 y2 y3 y4)) ∧ (∀ y0 y1 y2 y3, LeO (furrowref4_Toks.j3 k y0 y1 y2 y3) (furrowref4_Toks.j3 (k + 1) y0 y1 y2 y3)) ∧ (∀ y0 y1 y2 y3, LeO (furrowref4_Toks.l1 k y0 y1 y2 y3) (furrowref4_Toks.l1 (k + 1) y0 y1 y2 y3)) ∧ (∀ y0 y1 y2 y3, LeO (furrowref4_Toks.j5 k y0 y1 y2 y3) (furrowref4_Toks.j5 (k + 1) y0 y1 y2 y3)) ∧ (∀ y0 y1 y2 y3, LeO (furrowref4_Toks.l2 k y0 y1 y2 y3) (furrowref4_Toks.l2 (k + 1) y0 y1 y2 y3))
 | 0 => by refine ⟨?_, ?_, ?_, ?_, ?_, ?_⟩ <;> intros <;> exact fun r h => by simp [furrowref4_Toks.l0, furrowref4_Toks.j1, furrowref4_Toks.j3, furrowref4_Toks.l1, furrowref4_Toks.j5, furrowref4_Toks.l2] at h
 | k + 1 => by
  obtain ⟨i0_, i1_, i2_, i3_, i4_, i5_⟩ := furrowref4_Toks.mono_l k; have m0_ := @furrowref4_IsKey.mono; have m1_ := @furrowref4_number.mono; have m2_ := @furrowref4_sign.mono; refine ⟨?_, ?_, ?_, ?_, ?_, ?_⟩ <;> intros
  ·unfold furrowref4_Toks.l0; exact lO_
  ·unfold furrowref4_Toks.j1; exact lO_
  ·unfold furrowref4_Toks.j3; exact lO_
  ·unfold furrowref4_Toks.l1; exact lO_
  ·unfold furrowref4_Toks.j5; exact lO_
  ·unfold furrowref4_Toks.l2; exact lO_
theorem furrowref4_Toks.mono : ∀ a0 k, LeO (furrowref4_Toks.f k a0) (furrowref4_Toks.f (k + 1) a0) := by
 intro a0 k
 obtain ⟨i0_, i1_, i2_, i3_, i4_, i5_⟩ := furrowref4_Toks.mono_l k; have m0_ := @furrowref4_IsKey.mono; have m1_ := @furrowref4_number.mono; have m2_ := @furrowref4_sign.mono; unfold furrowref4_Toks.f; exact lO_
set_option maxHeartbeats 8000000 in
set_option maxRecDepth 100000 in
theorem furrowref4_Toks.calls (k : Nat) (a0 : ByteArray) (r1 : List (S91)) (r2 : List (S83)) (r3 : Int) (w : World) (h : furrowref4_Toks.f k a0 = some (r1, r2, r3)) :
  Calls Tryd.prog 29 #[.string a0] w fun e w' => ∃ v0_ v1_ : Value, e = .returned (.tuple #[v0_, .agg #[v1_, .int .i64 r3]]) ∧ Kd.R k91 91 w' w.heap.size (fun _ => True) v0_ r1 ∧ Kd.R k83 83 w' w.heap.size (fun _ => True) v1_ r2 ∧ Below w.heap.size w w' := by
 have hu50 := Tryd.underlying50
 have hu91 := Tryd.underlying91
 have HB := mk0 (Below.refl w.heap.size w)
 have H : (furrowref4_Toks.l0 k a0 ([] : List (S91)) 0) = some (r1, r2, r3) := h
 clear h
 have H' := mk0 H
 clear H
 go_enter Tryd.func29, Tryd.ntmps29
 go_wp2_with (first | ((with_reducible refine gate_dst (N := 3) rfl ?_); refine bxE 3 #[.slice none 0 0, .int .i64 0] 50 ?_; intro ac hg w2 hbox hb; have aa := mk0 (hbox); have dv := gE (uL HB.out) hg; have dw := gE (uL HB.out) hg; replace HB := hbB (uL HB.out) hb; clear hb hbox hg))
 go_loopg [4, 5] k (fun kq v4 v5 w' => ∃ (x4_1 : List (S91)) (x5_1 : Int) (ag : Int), v5 = .int .i64 x5_1 ∧ Aside0 (furrowref4_Toks.l0 kq a0 x4_1 x5_1 = some (r1, r2, r3)) ∧ Aside0 (kq ≤ k) ∧ Aside0 (Kd.R k91 91 w' w.heap.size (fun _ => True) v4 x4_1) ∧ Aside0 (w'.heap[ac]? = some (.cells #[(.slice none 0 0), .int .i64 ag] 50 (0, 0))) ∧ Aside0 (Below w.heap.size w w'))
 case atStart => exact ⟨(([] : List (S91))), (0), (0), eK, H', ⟨Nat.le_refl _⟩, ⟨nK⟩, ⟨uB aa.out⟩, ⟨bH⟩⟩
 case round =>
  clear H'; obtain ⟨x4_1, x5_1, ag, rfl, HA, ae, ab, aa, HB⟩ := hrel
  cases gk with
  | zero => exact absurd HA.out (by simp [furrowref4_Toks.l0])
  | succ k1 =>
   have H := HA.out; clear HA; simp only [furrowref4_Toks.l0] at H
   by_cases c3 : x5_1 < (a0.size : Int)
   ·rw [if_pos c3] at H
    have aw := decide_eq_true c3; clear c3; have bz := mk0 H; clear H
    go_upto_region 10 with (fail)
    go_cut [35] (fun v35 wc => ∃ (kq : Nat) (aZ : Bool), v35 = .bool aZ ∧ Aside0 (furrowref4_Toks.j1 kq a0 x4_1 x5_1 x5_1 aZ = some (r1, r2, r3)) ∧ Aside0 (kq ≤ k1) ∧ Aside0 (Kd.R k91 91 wc w.heap.size (fun _ => True) u4 x4_1) ∧ Aside0 (wc.heap[ac]? = some (.cells #[(.slice none 0 0), .int .i64 ag] 50 (0, 0))) ∧ Aside0 (Below w.heap.size w wc))
    case first =>
     have H := bz.out; clear bz
     by_cases c5 : 0 ≤ x5_1
     ·rw [if_pos c5] at H
      have bY := decide_eq_true c5; clear c5; (first | rw [bY] | (simp only [i64_w, i32_w]; rw [bY]) | skip)
      by_cases c7 : (bt a0 x5_1) = 32
      ·rw [if_pos c7] at H
       have cz : ((bt a0 x5_1) == 32) = true := beq_iff_eq.mpr c7; have cA : ((bt a0 x5_1) != 32) = false := bne_eq_false_iff_eq.mpr c7; clear c7; have H' := mk0 H; clear H; have p6 : 0 ≤ (x5_1 : Int) := dY; have q6 : x5_1 < (a0.size : Int) := dY; have cD := bt_at a0 x5_1; replace p6 := eq_true p6; replace q6 := eq_true q6; go_wp2
       go_meet
       case rel => exact ⟨_, (true), eK, H', ⟨by have := ae.out; first | omega | exact Nat.le_refl _⟩, ⟨uR ab.out⟩, ⟨uB aa.out⟩, ⟨bH⟩⟩
      ·rw [if_neg c7] at H
       have cz : ((bt a0 x5_1) == 32) = false := beq_eq_false_iff_ne.mpr c7; have cA : ((bt a0 x5_1) != 32) = true := bne_iff_ne.mpr c7; have H' := mk0 H; clear H; have p6 : 0 ≤ (x5_1 : Int) := dY; have q6 : x5_1 < (a0.size : Int) := dY; have cD := bt_at a0 x5_1; replace p6 := eq_true p6; replace q6 := eq_true q6; have p8 : 0 ≤ (x5_1 : Int) := dY; have q8 : x5_1 < (a0.size : Int) := dY; have dx := bt_at a0 x5_1; replace p8 := eq_true p8; replace q8 := eq_true q8; go_wp2
       go_meet
       case rel => exact ⟨_, (((bt a0 x5_1) == 9)), eK, H', ⟨by have := ae.out; first | omega | exact Nat.le_refl _⟩, ⟨uR ab.out⟩, ⟨uB aa.out⟩, ⟨bH⟩⟩
     ·exact nO H c5
    case rest =>
     clear bz; (try clear c3 aw); obtain ⟨kq, aZ, rfl, HA, af, ab, aa, HB⟩ := hcut
     cases kq with
     | zero => exact absurd HA.out (by simp [furrowref4_Toks.j1])
     | succ kj3 =>
      have H := HA.out; clear HA; simp only [furrowref4_Toks.j1] at H
      by_cases c9 : aZ = true
      ·subst c9
       replace H := iT H; have H' := mk0 H; clear H; go_wp2
       go_roundg kj3
       case measure => have := ae.out; have := af.out; omega
       case rel => exact ⟨(x4_1), (wrap64 (x5_1 + 1)), (ag), eK, H', ⟨by have := ae.out; have := af.out; omega⟩, ⟨uR ab.out⟩, ⟨uB aa.out⟩, ⟨bH⟩⟩
      ·replace c9 := Bool.eq_false_iff.mpr c9
       subst c9; replace H := iF H
       by_cases ap : 0 ≤ x5_1
       ·rw [if_pos ap] at H
        have a_ := decide_eq_true ap; clear ap
        by_cases aq : x5_1 < (a0.size : Int)
        ·rw [if_pos aq] at H
         have ba := decide_eq_true aq; clear aq; obtain ⟨cE, bb, H⟩ := oB H
         by_cases ar : cE = true
         ·subst ar
          replace H := iT H; have bC := mk0 H; clear H; have ah : 0 ≤ (x5_1 : Int) := dY; have ai : x5_1 < (a0.size : Int) := dY; have au := bt_at a0 x5_1; replace ah := eq_true ah; replace ai := eq_true ai
          go_upto_block 3 with (first | ((with_reducible refine gate_dst (N := 52) rfl ?_); refine gsM (some 52) Tryd.func36 #[.int .u8 (bt a0 x5_1)] ?_; (with_reducible refine (furrowref4_letter.calls (bt a0 x5_1) true _ bb.out).mono ?_); rintro e w' ⟨rfl, ⟨nd, rfl⟩⟩; refine ⟨_, rfl, ?_⟩))
          (try simp only [AP])
          go_cut [5] (fun v5 wc => ∃ (kq : Nat) (x5_14 : Int), v5 = .int .i64 x5_14 ∧ Aside0 (furrowref4_Toks.j3 kq a0 x4_1 x5_14 x5_1 = some (r1, r2, r3)) ∧ Aside0 (kq ≤ kj3) ∧ Aside0 (Kd.R k91 91 wc w.heap.size (fun _ => True) u4 x4_1) ∧ Aside0 (wc.heap[ac]? = some (.cells #[(.slice none 0 0), .int .i64 ag] 50 (0, 0))) ∧ Aside0 (Below w.heap.size w wc))
          case first =>
           have H := bC.out; clear bC; have H' := mk0 H; clear H; go_wp2
           go_loopg [5] kj3 (fun kq v5 w' => ∃ (x5_3 : Int), v5 = .int .i64 x5_3 ∧ Aside0 (furrowref4_Toks.l1 kq a0 x4_1 x5_3 x5_1 = some (r1, r2, r3)) ∧ Aside0 (kq ≤ kj3) ∧ Aside0 (Kd.R k91 91 w' w.heap.size (fun _ => True) u4 x4_1) ∧ Aside0 (w'.heap[ac]? = some (.cells #[(.slice none 0 0), .int .i64 ag] 50 (0, 0))) ∧ Aside0 (Below w.heap.size w w'))
           case atStart => exact ⟨(x5_1), eK, H', ⟨Nat.le_refl _⟩, ⟨uR ab.out⟩, ⟨uB aa.out⟩, ⟨bH⟩⟩
           case round =>
            clear H'; (try clear c3 aw c9 ap a_ aq ba ah ai au ar ah ai); obtain ⟨x5_3, rfl, HA, ao, ab, aa, HB⟩ := hrel
            cases gk with
            | zero => exact absurd HA.out (by simp [furrowref4_Toks.l1])
            | succ k3 =>
             have H := HA.out; clear HA; simp only [furrowref4_Toks.l1] at H
             by_cases ax : x5_3 < (a0.size : Int)
             ·rw [if_pos ax] at H
              have aE := decide_eq_true ax; clear ax; (first | rw [aE] | (simp only [i64_w, i32_w]; rw [aE]) | skip)
              by_cases bc : 0 ≤ x5_3
              ·rw [if_pos bc] at H
               have dy := decide_eq_true bc; clear bc; obtain ⟨cF, bZ, H⟩ := oB H
               by_cases bd : cF = true
               ·subst bd
                replace H := iT H; have H' := mk0 H; clear H; have aG : 0 ≤ (x5_3 : Int) := dY; have aH : x5_3 < (a0.size : Int) := dY; have cG := bt_at a0 x5_3; replace aG := eq_true aG; replace aH := eq_true aH
                go_wp2_with (first | (go_at_call 37; (with_reducible refine (furrowref4_behind.calls (bt a0 x5_3) true _ bZ.out).mono ?_); rintro e w' ⟨rfl, ⟨nd, rfl⟩⟩))
                go_roundg k3
                case measure => have := ae.out; have := af.out; have := ao.out; omega
                case rel => exact ⟨(wrap64 (x5_3 + 1)), eK, H', ⟨by have := ae.out; have := af.out; have := ao.out; omega⟩, ⟨uR ab.out⟩, ⟨uB aa.out⟩, ⟨bH⟩⟩
               ·replace bd := Bool.eq_false_iff.mpr bd
                subst bd; replace H := iF H; have H' := mk0 H; clear H; have aG : 0 ≤ (x5_3 : Int) := dY; have aH : x5_3 < (a0.size : Int) := dY; have cG := bt_at a0 x5_3; replace aG := eq_true aG; replace aH := eq_true aH
                go_wp2_with (first | (go_at_call 37; (with_reducible refine (furrowref4_behind.calls (bt a0 x5_3) false _ bZ.out).mono ?_); rintro e w' ⟨rfl, ⟨nd, rfl⟩⟩))
                go_meet
                case rel => exact ⟨_, (x5_3), eK, H', ⟨by have := ae.out; have := af.out; have := ao.out; first | omega | exact Nat.le_refl _⟩, ⟨uR ab.out⟩, ⟨uB aa.out⟩, ⟨bH⟩⟩
              ·exact nO H bc
             ·rw [if_neg ax] at H
              have aE := decide_eq_false ax; clear ax; (first | rw [aE] | (simp only [i64_w, i32_w]; rw [aE]) | skip); have H' := mk0 H; clear H; go_wp2
              go_meet
              case rel => exact ⟨_, (x5_3), eK, H', ⟨by have := ae.out; have := af.out; have := ao.out; first | omega | exact Nat.le_refl _⟩, ⟨uR ab.out⟩, ⟨uB aa.out⟩, ⟨bH⟩⟩
          case rest =>
           clear bC; (try clear c3 aw c9 ap a_ aq ba ah ai au ar ah ai); obtain ⟨kq, x5_14, rfl, HA, bf, ab, aa, HB⟩ := hcut
           cases kq with
           | zero => exact absurd HA.out (by simp [furrowref4_Toks.j3])
           | succ kj14 =>
            have H := HA.out; clear HA; simp only [furrowref4_Toks.j3] at H
            by_cases aI : 0 ≤ x5_1
            ·rw [if_pos aI] at H
             have dz := eq_true aI; have dA := decide_eq_true aI; clear aI
             by_cases aJ : x5_1 ≤ x5_14
             ·rw [if_pos aJ] at H
              have dB := eq_true aJ; have dC := decide_eq_true aJ; clear aJ
              by_cases aK : x5_14 ≤ (a0.size : Int)
              ·rw [if_pos aK] at H
               have dD := eq_true aK; have dE := decide_eq_true aK; clear aK; obtain ⟨cH, bg, H⟩ := oB H
               by_cases bh : cH = true
               ·subst bh
                replace H := iT H
                by_cases ay : (wrap64 (x5_14 - x5_1)) > 31
                ·rw [if_pos ay] at H
                 have cI := decide_eq_true ay; clear ay; replace H := Option.bind_eq_some_iff.mp H; obtain ⟨⟨bE, bF⟩, b3, H⟩ := H; dsimp only at H; have cJ := mk0 b3; clear b3; simp only [Option.some.injEq, Prod.mk.injEq] at H; obtain ⟨rfl, rfl, rfl⟩ := H
                 go_wp2_with (first | ((with_reducible refine gate_dst (N := 69) rfl ?_); refine gsM (some 69) Tryd.func38 #[.string (a0.extract (x5_1 : Int).toNat (x5_14 : Int).toNat)] ?_; (with_reducible refine (furrowref4_IsKey.calls kj14 (a0.extract (x5_1 : Int).toNat (x5_14 : Int).toNat) true _ bg.out).mono ?_); rintro e dF ⟨rfl, hb⟩; refine ⟨_, rfl, ?_⟩; replace aa := bB aa hb; replace HB := hbB bH hb; (try clear hb); clear ab) | ((with_reducible refine gate_dst (N := 75) rfl ?_); refine gsM (some 75) Tryd.func21 #[.string (⟨#[119, 111, 114, 100]⟩ : ByteArray), .int .i64 x5_1, .int .i64 4] ?_; (with_reducible refine (furrowref4_At.calls (⟨#[119, 111, 114, 100]⟩ : ByteArray) x5_1 4 bE bF _ cJ.out).mono ?_); rintro e dG ⟨dH, rfl, ho0, hb⟩; refine ⟨_, rfl, ?_⟩; have b4 := mk0 (Kd.R_lower ho0 (below_size bH)); replace aa := bB aa hb; replace HB := hbB bH hb; (try clear hb ho0); obtain ⟨b5, b6, cK⟩ := Kd.R_slice b4.out; subst cK; obtain ⟨dI, dJ, dK, dL⟩ := cL2 aa))
                 refine bodyPost_ret (results_tc rfl _ _ ac 50 #[.slice b5 bE.length b6, .int .i64 bF] (0, 0) _ rfl (kB) Tryd.underlying50 rfl (by kernel_rfl)) rfl ?_; exact ⟨_, _, rE, nK, uR (Kd.R_mono (Kd.R_far (p := ⟨ac, 1, none⟩) (Kd.R_far (p := ⟨ac, 0, none⟩) (Kd.R_types b4.out aa.out (by decide)) (fun _ hk => hk.2) (.slice b5 bE.length b6)) (fun _ hk => hk.2) (.int .i64 bF)) (fun _ hk => trivial)), bH⟩
                ·rw [if_neg ay] at H
                 have cI := decide_eq_false ay; clear ay; have dM := eq_true (dY : 0 ≤ x5_1); have dN := eq_true (dY : x5_1 ≤ x5_14); have dO := eq_true (dY : x5_14 ≤ (a0.size : Int))
                 by_cases bi : x4_1.length < 3518437208883
                 ·rw [if_pos bi] at H
                  have cL := mk0 bi; clear bi; obtain ⟨b7, bG⟩ : ∃ y_ : List (S91), y_ = (x4_1 ++ [(⟨4, a0.extract (x5_1 : Int).toNat (x5_14 : Int).toNat, x5_1, 0⟩ : S91)]) := ⟨_, rfl⟩; (replace H : (furrowref4_Toks.l0 kj14 a0 b7 x5_14) = some (r1, r2, r3) := by (try rw [bG]); first | with_reducible exact H | with_reducible exact oN H | exact H); have cM := mk0 bG; clear bG; have H' := mk0 H; clear H
                  go_wp2_with (first | ((with_reducible refine gate_dst (N := 69) rfl ?_); refine gsM (some 69) Tryd.func38 #[.string (a0.extract (x5_1 : Int).toNat (x5_14 : Int).toNat)] ?_; (with_reducible refine (furrowref4_IsKey.calls kj14 (a0.extract (x5_1 : Int).toNat (x5_14 : Int).toNat) true _ bg.out).mono ?_); rintro e dP ⟨rfl, hb⟩; refine ⟨_, rfl, ?_⟩; replace ab := rB ab hb; replace aa := bB aa hb; replace HB := hbB bH hb; (try clear hb hk); ) | ((with_reducible refine gate_builtin (b := .append) (xs := #[.tmp 76, .tmp 84]) rfl ?_); at_builtin; refine Kd.R_append k91 (w0 := w) w.heap.size rfl (.tmp 76) (.tmp 84) 87 91 (.agg #[(.int .i64 0), (.string ⟨#[]⟩), (.int .i64 0), (.int .i64 0)]) 40 rfl Tryd.underlying87 info91 rfl (by decide) (by omega) u4 x4_1 (⟨4, a0.extract (x5_1 : Int).toNat (x5_14 : Int).toNat, x5_1, 0⟩ : S91) [.int .i64 4, .string (a0.extract (x5_1 : Int).toNat (x5_14 : Int).toNat), .int .i64 x5_1, .int .i64 0] (fun _ => True) (fun _ => False) rfl rfl ?aP (fun _ hk => hk.elim) ?aF ?aO ?aB ?aS ?aL ?_; (case aP => exact k91_mkM _ _ _ (⟨4, a0.extract (x5_1 : Int).toNat (x5_14 : Int).toNat, x5_1, 0⟩ : S91)); (case aB => exact bH); (case aF => exact (fun _ _ => trivial)); (case aO => exact (uR ab.out)); (case aS => exact (below_size bH)); (case aL => have := cL.out; omega); intro dQ dR ho hb hg hat; rw [← cM.out] at ho; have n0_ := (gB aa hg (Kd.R_ne ab.out aa.out (by decide))); have n1_ := mk0 (hb); have n2_ := mk0 (ho); clear aa HB ab; have aa := n0_; have HB := n1_; have cN := n2_; clear n0_ n1_ n2_; clear ho hb hg hat))
                  go_roundg kj14
                  case measure => have := ae.out; have := af.out; have := bf.out; omega
                  case rel => exact ⟨(b7), (x5_14), (ag), eK, H', ⟨by have := ae.out; have := af.out; have := bf.out; omega⟩, ⟨uR cN.out⟩, ⟨uB aa.out⟩, ⟨bH⟩⟩
                 ·exact nO H bi
               ·replace bh := Bool.eq_false_iff.mpr bh
                subst bh; replace H := iF H
                by_cases az : (wrap64 (x5_14 - x5_1)) > 31
                ·rw [if_pos az] at H
                 have cO := decide_eq_true az; clear az; replace H := Option.bind_eq_some_iff.mp H; obtain ⟨⟨bI, bJ⟩, b8, H⟩ := H; dsimp only at H; have cP := mk0 b8; clear b8; simp only [Option.some.injEq, Prod.mk.injEq] at H; obtain ⟨rfl, rfl, rfl⟩ := H
                 go_wp2_with (first | ((with_reducible refine gate_dst (N := 69) rfl ?_); refine gsM (some 69) Tryd.func38 #[.string (a0.extract (x5_1 : Int).toNat (x5_14 : Int).toNat)] ?_; (with_reducible refine (furrowref4_IsKey.calls kj14 (a0.extract (x5_1 : Int).toNat (x5_14 : Int).toNat) false _ bg.out).mono ?_); rintro e dS ⟨rfl, hb⟩; refine ⟨_, rfl, ?_⟩; replace aa := bB aa hb; replace HB := hbB bH hb; (try clear hb); clear ab) | ((with_reducible refine gate_dst (N := 75) rfl ?_); refine gsM (some 75) Tryd.func21 #[.string (⟨#[119, 111, 114, 100]⟩ : ByteArray), .int .i64 x5_1, .int .i64 4] ?_; (with_reducible refine (furrowref4_At.calls (⟨#[119, 111, 114, 100]⟩ : ByteArray) x5_1 4 bI bJ _ cP.out).mono ?_); rintro e dT ⟨dU, rfl, ho0, hb⟩; refine ⟨_, rfl, ?_⟩; have b9 := mk0 (Kd.R_lower ho0 (below_size bH)); replace aa := bB aa hb; replace HB := hbB bH hb; (try clear hb ho0); obtain ⟨ca, cb, cR⟩ := Kd.R_slice b9.out; subst cR; obtain ⟨dV, dW, dX, dZ⟩ := cL2 aa))
                 refine bodyPost_ret (results_tc rfl _ _ ac 50 #[.slice ca bI.length cb, .int .i64 bJ] (0, 0) _ rfl (kB) Tryd.underlying50 rfl (by kernel_rfl)) rfl ?_; exact ⟨_, _, rE, nK, uR (Kd.R_mono (Kd.R_far (p := ⟨ac, 1, none⟩) (Kd.R_far (p := ⟨ac, 0, none⟩) (Kd.R_types b9.out aa.out (by decide)) (fun _ hk => hk.2) (.slice ca bI.length cb)) (fun _ hk => hk.2) (.int .i64 bJ)) (fun _ hk => trivial)), bH⟩
                ·rw [if_neg az] at H
                 have cO := decide_eq_false az; clear az; have d5 := eq_true (dY : 0 ≤ x5_1); have d6 := eq_true (dY : x5_1 ≤ x5_14); have d7 := eq_true (dY : x5_14 ≤ (a0.size : Int))
                 by_cases bj : x4_1.length < 3518437208883
                 ·rw [if_pos bj] at H
                  have cS := mk0 bj; clear bj; obtain ⟨cd, bK⟩ : ∃ y_ : List (S91), y_ = (x4_1 ++ [(⟨1, a0.extract (x5_1 : Int).toNat (x5_14 : Int).toNat, x5_1, 0⟩ : S91)]) := ⟨_, rfl⟩; (replace H : (furrowref4_Toks.l0 kj14 a0 cd x5_14) = some (r1, r2, r3) := by (try rw [bK]); first | with_reducible exact H | with_reducible exact oN H | exact H); have cT := mk0 bK; clear bK; have H' := mk0 H; clear H
                  go_wp2_with (first | ((with_reducible refine gate_dst (N := 69) rfl ?_); refine gsM (some 69) Tryd.func38 #[.string (a0.extract (x5_1 : Int).toNat (x5_14 : Int).toNat)] ?_; (with_reducible refine (furrowref4_IsKey.calls kj14 (a0.extract (x5_1 : Int).toNat (x5_14 : Int).toNat) false _ bg.out).mono ?_); rintro e d8 ⟨rfl, hb⟩; refine ⟨_, rfl, ?_⟩; replace ab := rB ab hb; replace aa := bB aa hb; replace HB := hbB bH hb; (try clear hb hk); ) | ((with_reducible refine gate_builtin (b := .append) (xs := #[.tmp 76, .tmp 84]) rfl ?_); at_builtin; refine Kd.R_append k91 (w0 := w) w.heap.size rfl (.tmp 76) (.tmp 84) 87 91 (.agg #[(.int .i64 0), (.string ⟨#[]⟩), (.int .i64 0), (.int .i64 0)]) 40 rfl Tryd.underlying87 info91 rfl (by decide) (by omega) u4 x4_1 (⟨1, a0.extract (x5_1 : Int).toNat (x5_14 : Int).toNat, x5_1, 0⟩ : S91) [.int .i64 1, .string (a0.extract (x5_1 : Int).toNat (x5_14 : Int).toNat), .int .i64 x5_1, .int .i64 0] (fun _ => True) (fun _ => False) rfl rfl ?aP (fun _ hk => hk.elim) ?aF ?aO ?aB ?aS ?aL ?_; (case aP => exact k91_mkM _ _ _ (⟨1, a0.extract (x5_1 : Int).toNat (x5_14 : Int).toNat, x5_1, 0⟩ : S91)); (case aB => exact bH); (case aF => exact (fun _ _ => trivial)); (case aO => exact (uR ab.out)); (case aS => exact (below_size bH)); (case aL => have := cS.out; omega); intro d9 d_ ho hb hg hat; rw [← cT.out] at ho; have n0_ := (gB aa hg (Kd.R_ne ab.out aa.out (by decide))); have n1_ := mk0 (hb); have n2_ := mk0 (ho); clear aa HB ab; have aa := n0_; have HB := n1_; have cU := n2_; clear n0_ n1_ n2_; clear ho hb hg hat))
                  go_roundg kj14
                  case measure => have := ae.out; have := af.out; have := bf.out; omega
                  case rel => exact ⟨(cd), (x5_14), (ag), eK, H', ⟨by have := ae.out; have := af.out; have := bf.out; omega⟩, ⟨uR cU.out⟩, ⟨uB aa.out⟩, ⟨bH⟩⟩
                 ·exact nO H bj
              ·exact nO H aK
             ·exact nO H aJ
            ·exact nO H aI
         ·replace ar := Bool.eq_false_iff.mpr ar
          subst ar; replace H := iF H; obtain ⟨cV, bL, H⟩ := oB H
          by_cases aA : cV = true
          ·subst aA
           replace H := iT H; have bM := mk0 H; clear H; have ah : 0 ≤ (x5_1 : Int) := dY; have ai : x5_1 < (a0.size : Int) := dY; have au := bt_at a0 x5_1; replace ah := eq_true ah; replace ai := eq_true ai
           go_upto_block 5 with (first | ((with_reducible refine gate_dst (N := 52) rfl ?_); refine gsM (some 52) Tryd.func36 #[.int .u8 (bt a0 x5_1)] ?_; (with_reducible refine (furrowref4_letter.calls (bt a0 x5_1) false _ bb.out).mono ?_); rintro e w' ⟨rfl, ⟨nd, rfl⟩⟩; refine ⟨_, rfl, ?_⟩; have ak : 0 ≤ (x5_1 : Int) := dY; have al : x5_1 < (a0.size : Int) := dY; have bk := bt_at a0 x5_1; replace ak := eq_true ak; replace al := eq_true al) | ((with_reducible refine gate_dst (N := 90) rfl ?_); refine gsM (some 90) Tryd.func39 #[.int .u8 (bt a0 x5_1)] ?_; (with_reducible refine (furrowref4_digit.calls (bt a0 x5_1) true _ bL.out).mono ?_); rintro e w' ⟨rfl, ⟨nd, rfl⟩⟩; refine ⟨_, rfl, ?_⟩))
           (try simp only [AP])
           go_cut [5] (fun v5 wc => ∃ (kq : Nat) (x5_52 : Int), v5 = .int .i64 x5_52 ∧ Aside0 (furrowref4_Toks.j5 kq a0 x4_1 x5_52 x5_1 = some (r1, r2, r3)) ∧ Aside0 (kq ≤ kj3) ∧ Aside0 (Kd.R k91 91 wc w.heap.size (fun _ => True) u4 x4_1) ∧ Aside0 (wc.heap[ac]? = some (.cells #[(.slice none 0 0), .int .i64 ag] 50 (0, 0))) ∧ Aside0 (Below w.heap.size w wc))
           case first =>
            have H := bM.out; clear bM; have H' := mk0 H; clear H; go_wp2
            go_loopg [5] kj3 (fun kq v5 w' => ∃ (x5_3 : Int), v5 = .int .i64 x5_3 ∧ Aside0 (furrowref4_Toks.l2 kq a0 x4_1 x5_3 x5_1 = some (r1, r2, r3)) ∧ Aside0 (kq ≤ kj3) ∧ Aside0 (Kd.R k91 91 w' w.heap.size (fun _ => True) u4 x4_1) ∧ Aside0 (w'.heap[ac]? = some (.cells #[(.slice none 0 0), .int .i64 ag] 50 (0, 0))) ∧ Aside0 (Below w.heap.size w w'))
            case atStart => exact ⟨(x5_1), eK, H', ⟨Nat.le_refl _⟩, ⟨uR ab.out⟩, ⟨uB aa.out⟩, ⟨bH⟩⟩
            case round =>
             clear H'; (try clear c3 aw c9 ap a_ aq ba ah ai au ar ak al bk aA ah ak ai al); obtain ⟨x5_3, rfl, HA, ao, ab, aa, HB⟩ := hrel
             cases gk with
             | zero => exact absurd HA.out (by simp [furrowref4_Toks.l2])
             | succ k3 =>
              have H := HA.out; clear HA; simp only [furrowref4_Toks.l2] at H
              by_cases aC : x5_3 < (a0.size : Int)
              ·rw [if_pos aC] at H
               have aM := decide_eq_true aC; clear aC; (first | rw [aM] | (simp only [i64_w, i32_w]; rw [aM]) | skip)
               by_cases bl : 0 ≤ x5_3
               ·rw [if_pos bl] at H
                have ea := decide_eq_true bl; clear bl; obtain ⟨cW, ce, H⟩ := oB H
                by_cases bm : cW = true
                ·subst bm
                 replace H := iT H; have H' := mk0 H; clear H; have aN : 0 ≤ (x5_3 : Int) := dY; have aQ : x5_3 < (a0.size : Int) := dY; have cX := bt_at a0 x5_3; replace aN := eq_true aN; replace aQ := eq_true aQ
                 go_wp2_with (first | (go_at_call 39; (with_reducible refine (furrowref4_digit.calls (bt a0 x5_3) true _ ce.out).mono ?_); rintro e w' ⟨rfl, ⟨nd, rfl⟩⟩))
                 go_roundg k3
                 case measure => have := ae.out; have := af.out; have := ao.out; omega
                 case rel => exact ⟨(wrap64 (x5_3 + 1)), eK, H', ⟨by have := ae.out; have := af.out; have := ao.out; omega⟩, ⟨uR ab.out⟩, ⟨uB aa.out⟩, ⟨bH⟩⟩
                ·replace bm := Bool.eq_false_iff.mpr bm
                 subst bm; replace H := iF H; have H' := mk0 H; clear H; have aN : 0 ≤ (x5_3 : Int) := dY; have aQ : x5_3 < (a0.size : Int) := dY; have cX := bt_at a0 x5_3; replace aN := eq_true aN; replace aQ := eq_true aQ
                 go_wp2_with (first | (go_at_call 39; (with_reducible refine (furrowref4_digit.calls (bt a0 x5_3) false _ ce.out).mono ?_); rintro e w' ⟨rfl, ⟨nd, rfl⟩⟩))
                 go_meet
                 case rel => exact ⟨_, (x5_3), eK, H', ⟨by have := ae.out; have := af.out; have := ao.out; first | omega | exact Nat.le_refl _⟩, ⟨uR ab.out⟩, ⟨uB aa.out⟩, ⟨bH⟩⟩
               ·exact nO H bl
              ·rw [if_neg aC] at H
               have aM := decide_eq_false aC; clear aC; (first | rw [aM] | (simp only [i64_w, i32_w]; rw [aM]) | skip); have H' := mk0 H; clear H; go_wp2
               go_meet
               case rel => exact ⟨_, (x5_3), eK, H', ⟨by have := ae.out; have := af.out; have := ao.out; first | omega | exact Nat.le_refl _⟩, ⟨uR ab.out⟩, ⟨uB aa.out⟩, ⟨bH⟩⟩
           case rest =>
            clear bM; (try clear c3 aw c9 ap a_ aq ba ah ai au ar ak al bk aA ah ak ai al); obtain ⟨kq, x5_52, rfl, HA, bn, ab, aa, HB⟩ := hcut
            cases kq with
            | zero => exact absurd HA.out (by simp [furrowref4_Toks.j5])
            | succ kj52 =>
             have H := HA.out; clear HA; simp only [furrowref4_Toks.j5] at H
             by_cases aT : 0 ≤ x5_1
             ·rw [if_pos aT] at H
              have eb := eq_true aT; have ec := decide_eq_true aT; clear aT
              by_cases aU : x5_1 ≤ x5_52
              ·rw [if_pos aU] at H
               have ed := eq_true aU; have ee := decide_eq_true aU; clear aU
               by_cases aV : x5_52 ≤ (a0.size : Int)
               ·rw [if_pos aV] at H
                have ef := eq_true aV; have eg := decide_eq_true aV; clear aV; replace H := Option.bind_eq_some_iff.mp H; obtain ⟨⟨am, cY⟩, cf, H⟩ := H; dsimp only at H; have bo := mk0 cf; clear cf
                by_cases bp : cY = true
                ·subst bp
                 replace H := iT H
                 by_cases aD : x5_52 < (a0.size : Int)
                 ·rw [if_pos aD] at H
                  have cZ := decide_eq_true aD; clear aD
                  by_cases bq : 0 ≤ x5_52
                  ·rw [if_pos bq] at H
                   have eh := decide_eq_true bq; clear bq; obtain ⟨c_, cg, H⟩ := oB H
                   by_cases br : c_ = true
                   ·subst br
                    replace H := iT H; replace H := Option.bind_eq_some_iff.mp H; obtain ⟨⟨bO, bP⟩, ch, H⟩ := H; dsimp only at H; have da := mk0 ch; clear ch; simp only [Option.some.injEq, Prod.mk.injEq] at H; obtain ⟨rfl, rfl, rfl⟩ := H
                    go_wp2_with (first | ((with_reducible refine gate_dst (N := 108) rfl ?_); refine gsM (some 108) Tryd.func40 #[.string (a0.extract (x5_1 : Int).toNat (x5_52 : Int).toNat)] ?_; (with_reducible refine (furrowref4_number.calls kj52 (a0.extract (x5_1 : Int).toNat (x5_52 : Int).toNat) am true _ bo.out).mono ?_); rintro e w' ⟨rfl, ⟨nd, rfl⟩⟩; refine ⟨_, rfl, ?_⟩; (try (rw [drewN_self wc]; generalize hq_ : World.drewN wc _ = wc; have n0_ : Aside0 (Kd.R k91 91 wc w.heap.size (fun _ => True) u4 x4_1) := ⟨by rw [← hq_]; exact (uR ab.out)⟩; have n1_ : Aside0 (wc.heap[ac]? = some (.cells #[.slice none 0 0, .int .i64 ag] 50 (0, 0))) := ⟨by rw [← hq_]; exact (uB aa.out)⟩; have n2_ : Aside0 (Below w.heap.size w wc) := ⟨by rw [← hq_]; exact bH⟩; clear ab aa HB hq_; have ab := n0_; have aa := n1_; have HB := n2_; clear n0_ n1_ n2_)); have aW : 0 ≤ (x5_52 : Int) := dY; have aX : x5_52 < (a0.size : Int) := dY; have db := bt_at a0 x5_52; replace aW := eq_true aW; replace aX := eq_true aX; clear ab) | (go_at_call 36; (with_reducible refine (furrowref4_letter.calls (bt a0 x5_52) true _ cg.out).mono ?_); rintro e w' ⟨rfl, ⟨nd, rfl⟩⟩; (try (rw [drewN_self wc]; generalize hq_ : World.drewN wc _ = wc; have n0_ : Aside0 (wc.heap[ac]? = some (.cells #[.slice none 0 0, .int .i64 ag] 50 (0, 0))) := ⟨by rw [← hq_]; exact (uB aa.out)⟩; have n1_ : Aside0 (Below w.heap.size w wc) := ⟨by rw [← hq_]; exact bH⟩; clear aa HB hq_; have aa := n0_; have HB := n1_; clear n0_ n1_))) | ((with_reducible refine gate_dst (N := 126) rfl ?_); refine gsM (some 126) Tryd.func21 #[.string (⟨#[119, 111, 114, 100]⟩ : ByteArray), .int .i64 x5_52, .int .i64 3] ?_; (with_reducible refine (furrowref4_At.calls (⟨#[119, 111, 114, 100]⟩ : ByteArray) x5_52 3 bO bP _ da.out).mono ?_); rintro e ei ⟨ej, rfl, ho0, hb⟩; refine ⟨_, rfl, ?_⟩; have ci := mk0 (Kd.R_lower ho0 (below_size bH)); replace aa := bB aa hb; replace HB := hbB bH hb; (try clear hb ho0); obtain ⟨cj, ck, dc⟩ := Kd.R_slice ci.out; subst dc; obtain ⟨ek, em, en, eo⟩ := cL2 aa))
                    refine bodyPost_ret (results_tc rfl _ _ ac 50 #[.slice cj bO.length ck, .int .i64 bP] (0, 0) _ rfl (kB) Tryd.underlying50 rfl (by kernel_rfl)) rfl ?_; exact ⟨_, _, rE, nK, uR (Kd.R_mono (Kd.R_far (p := ⟨ac, 1, none⟩) (Kd.R_far (p := ⟨ac, 0, none⟩) (Kd.R_types ci.out aa.out (by decide)) (fun _ hk => hk.2) (.slice cj bO.length ck)) (fun _ hk => hk.2) (.int .i64 bP)) (fun _ hk => trivial)), bH⟩
                   ·replace br := Bool.eq_false_iff.mpr br
                    subst br; replace H := iF H; have ep := eq_true (dY : 0 ≤ x5_1); have eq := eq_true (dY : x5_1 ≤ x5_52); have er := eq_true (dY : x5_52 ≤ (a0.size : Int))
                    by_cases bs : x4_1.length < 3518437208883
                    ·rw [if_pos bs] at H
                     have dd := mk0 bs; clear bs; obtain ⟨cl, bQ⟩ : ∃ y_ : List (S91), y_ = (x4_1 ++ [(⟨2, a0.extract (x5_1 : Int).toNat (x5_52 : Int).toNat, x5_1, am⟩ : S91)]) := ⟨_, rfl⟩; (replace H : (furrowref4_Toks.l0 kj52 a0 cl x5_52) = some (r1, r2, r3) := by (try rw [bQ]); first | with_reducible exact H | with_reducible exact oN H | exact H); have de := mk0 bQ; clear bQ; have H' := mk0 H; clear H
                     go_wp2_with (first | ((with_reducible refine gate_dst (N := 108) rfl ?_); refine gsM (some 108) Tryd.func40 #[.string (a0.extract (x5_1 : Int).toNat (x5_52 : Int).toNat)] ?_; (with_reducible refine (furrowref4_number.calls kj52 (a0.extract (x5_1 : Int).toNat (x5_52 : Int).toNat) am true _ bo.out).mono ?_); rintro e w' ⟨rfl, ⟨nd, rfl⟩⟩; refine ⟨_, rfl, ?_⟩; have aW : 0 ≤ (x5_52 : Int) := dY; have aX : x5_52 < (a0.size : Int) := dY; have db := bt_at a0 x5_52; replace aW := eq_true aW; replace aX := eq_true aX) | (go_at_call 36; (with_reducible refine (furrowref4_letter.calls (bt a0 x5_52) false _ cg.out).mono ?_); rintro e w' ⟨rfl, ⟨nd, rfl⟩⟩) | ((with_reducible refine gate_builtin (b := .append) (xs := #[.tmp 127, .tmp 135]) rfl ?_); at_builtin; refine Kd.R_append k91 (w0 := w) w.heap.size rfl (.tmp 127) (.tmp 135) 87 91 (.agg #[(.int .i64 0), (.string ⟨#[]⟩), (.int .i64 0), (.int .i64 0)]) 40 rfl Tryd.underlying87 info91 rfl (by decide) (by omega) u4 x4_1 (⟨2, a0.extract (x5_1 : Int).toNat (x5_52 : Int).toNat, x5_1, am⟩ : S91) [.int .i64 2, .string (a0.extract (x5_1 : Int).toNat (x5_52 : Int).toNat), .int .i64 x5_1, .int .i64 am] (fun _ => True) (fun _ => False) rfl rfl ?aP (fun _ hk => hk.elim) ?aF ?aO ?aB ?aS ?aL ?_; (case aP => exact k91_mkM _ _ _ (⟨2, a0.extract (x5_1 : Int).toNat (x5_52 : Int).toNat, x5_1, am⟩ : S91)); (case aB => exact bH); (case aF => exact (fun _ _ => trivial)); (case aO => exact (uR ab.out)); (case aS => exact (below_size bH)); (case aL => have := dd.out; omega); intro es et ho hb hg hat; rw [← de.out] at ho; have n0_ := (gB aa hg (Kd.R_ne ab.out aa.out (by decide))); have n1_ := mk0 (hb); have n2_ := mk0 (ho); clear aa HB ab; have aa := n0_; have HB := n1_; have df := n2_; clear n0_ n1_ n2_; clear ho hb hg hat))
                     go_roundg kj52
                     case measure => have := ae.out; have := af.out; have := bn.out; omega
                     case rel => exact ⟨(cl), (x5_52), (ag), eK, H', ⟨by have := ae.out; have := af.out; have := bn.out; omega⟩, ⟨uR df.out⟩, ⟨uB aa.out⟩, ⟨bH⟩⟩
                    ·exact nO H bs
                  ·exact nO H bq
                 ·rw [if_neg aD] at H
                  have cZ := decide_eq_false aD; clear aD; have eu := eq_true (dY : 0 ≤ x5_1); have ew := eq_true (dY : x5_1 ≤ x5_52); have ex := eq_true (dY : x5_52 ≤ (a0.size : Int))
                  by_cases bu : x4_1.length < 3518437208883
                  ·rw [if_pos bu] at H
                   have dg := mk0 bu; clear bu; obtain ⟨cm, bR⟩ : ∃ y_ : List (S91), y_ = (x4_1 ++ [(⟨2, a0.extract (x5_1 : Int).toNat (x5_52 : Int).toNat, x5_1, am⟩ : S91)]) := ⟨_, rfl⟩; (replace H : (furrowref4_Toks.l0 kj52 a0 cm x5_52) = some (r1, r2, r3) := by (try rw [bR]); first | with_reducible exact H | with_reducible exact oN H | exact H); have dh := mk0 bR; clear bR; have H' := mk0 H; clear H
                   go_wp2_with (first | ((with_reducible refine gate_dst (N := 108) rfl ?_); refine gsM (some 108) Tryd.func40 #[.string (a0.extract (x5_1 : Int).toNat (x5_52 : Int).toNat)] ?_; (with_reducible refine (furrowref4_number.calls kj52 (a0.extract (x5_1 : Int).toNat (x5_52 : Int).toNat) am true _ bo.out).mono ?_); rintro e w' ⟨rfl, ⟨nd, rfl⟩⟩; refine ⟨_, rfl, ?_⟩) | ((with_reducible refine gate_builtin (b := .append) (xs := #[.tmp 127, .tmp 135]) rfl ?_); at_builtin; refine Kd.R_append k91 (w0 := w) w.heap.size rfl (.tmp 127) (.tmp 135) 87 91 (.agg #[(.int .i64 0), (.string ⟨#[]⟩), (.int .i64 0), (.int .i64 0)]) 40 rfl Tryd.underlying87 info91 rfl (by decide) (by omega) u4 x4_1 (⟨2, a0.extract (x5_1 : Int).toNat (x5_52 : Int).toNat, x5_1, am⟩ : S91) [.int .i64 2, .string (a0.extract (x5_1 : Int).toNat (x5_52 : Int).toNat), .int .i64 x5_1, .int .i64 am] (fun _ => True) (fun _ => False) rfl rfl ?aP (fun _ hk => hk.elim) ?aF ?aO ?aB ?aS ?aL ?_; (case aP => exact k91_mkM _ _ _ (⟨2, a0.extract (x5_1 : Int).toNat (x5_52 : Int).toNat, x5_1, am⟩ : S91)); (case aB => exact bH); (case aF => exact (fun _ _ => trivial)); (case aO => exact (uR ab.out)); (case aS => exact (below_size bH)); (case aL => have := dg.out; omega); intro ey ez ho hb hg hat; rw [← dh.out] at ho; have n0_ := (gB aa hg (Kd.R_ne ab.out aa.out (by decide))); have n1_ := mk0 (hb); have n2_ := mk0 (ho); clear aa HB ab; have aa := n0_; have HB := n1_; have di := n2_; clear n0_ n1_ n2_; clear ho hb hg hat))
                   go_roundg kj52
                   case measure => have := ae.out; have := af.out; have := bn.out; omega
                   case rel => exact ⟨(cm), (x5_52), (ag), eK, H', ⟨by have := ae.out; have := af.out; have := bn.out; omega⟩, ⟨uR di.out⟩, ⟨uB aa.out⟩, ⟨bH⟩⟩
                  ·exact nO H bu
                ·replace bp := Bool.eq_false_iff.mpr bp
                 subst bp; replace H := iF H; replace H := Option.bind_eq_some_iff.mp H; obtain ⟨⟨bT, bU⟩, cn, H⟩ := H; dsimp only at H; have dj := mk0 cn; clear cn; simp only [Option.some.injEq, Prod.mk.injEq] at H; obtain ⟨rfl, rfl, rfl⟩ := H
                 go_wp2_with (first | ((with_reducible refine gate_dst (N := 108) rfl ?_); refine gsM (some 108) Tryd.func40 #[.string (a0.extract (x5_1 : Int).toNat (x5_52 : Int).toNat)] ?_; (with_reducible refine (furrowref4_number.calls kj52 (a0.extract (x5_1 : Int).toNat (x5_52 : Int).toNat) am false _ bo.out).mono ?_); rintro e w' ⟨rfl, ⟨nd, rfl⟩⟩; refine ⟨_, rfl, ?_⟩; (try (rw [drewN_self wc]; generalize hq_ : World.drewN wc _ = wc; have n0_ : Aside0 (Kd.R k91 91 wc w.heap.size (fun _ => True) u4 x4_1) := ⟨by rw [← hq_]; exact (uR ab.out)⟩; have n1_ : Aside0 (wc.heap[ac]? = some (.cells #[.slice none 0 0, .int .i64 ag] 50 (0, 0))) := ⟨by rw [← hq_]; exact (uB aa.out)⟩; have n2_ : Aside0 (Below w.heap.size w wc) := ⟨by rw [← hq_]; exact bH⟩; clear ab aa HB hq_; have ab := n0_; have aa := n1_; have HB := n2_; clear n0_ n1_ n2_)); clear ab) | ((with_reducible refine gate_dst (N := 114) rfl ?_); refine gsM (some 114) Tryd.func21 #[.string (⟨#[119, 111, 114, 100]⟩ : ByteArray), .int .i64 x5_1, .int .i64 5] ?_; (with_reducible refine (furrowref4_At.calls (⟨#[119, 111, 114, 100]⟩ : ByteArray) x5_1 5 bT bU _ dj.out).mono ?_); rintro e eA ⟨eB, rfl, ho0, hb⟩; refine ⟨_, rfl, ?_⟩; have cp := mk0 (Kd.R_lower ho0 (below_size bH)); replace aa := bB aa hb; replace HB := hbB bH hb; (try clear hb ho0); obtain ⟨cq, cr, dk⟩ := Kd.R_slice cp.out; subst dk; obtain ⟨eC, eD, eE, eF⟩ := cL2 aa))
                 refine bodyPost_ret (results_tc rfl _ _ ac 50 #[.slice cq bT.length cr, .int .i64 bU] (0, 0) _ rfl (kB) Tryd.underlying50 rfl (by kernel_rfl)) rfl ?_; exact ⟨_, _, rE, nK, uR (Kd.R_mono (Kd.R_far (p := ⟨ac, 1, none⟩) (Kd.R_far (p := ⟨ac, 0, none⟩) (Kd.R_types cp.out aa.out (by decide)) (fun _ hk => hk.2) (.slice cq bT.length cr)) (fun _ hk => hk.2) (.int .i64 bU)) (fun _ hk => trivial)), bH⟩
               ·exact nO H aV
              ·exact nO H aU
             ·exact nO H aT
          ·replace aA := Bool.eq_false_iff.mpr aA
           subst aA; replace H := iF H; obtain ⟨aj, ct, H⟩ := oB H
           by_cases av : aj = 0
           ·rw [if_pos av] at H
            have dl : (aj == 0) = true := beq_iff_eq.mpr av; have dn : (aj != 0) = false := bne_eq_false_iff_eq.mpr av; clear av; replace H := Option.bind_eq_some_iff.mp H; obtain ⟨⟨bV, bW⟩, cu, H⟩ := H; dsimp only at H; have dp := mk0 cu; clear cu; simp only [Option.some.injEq, Prod.mk.injEq] at H; obtain ⟨rfl, rfl, rfl⟩ := H; have ah : 0 ≤ (x5_1 : Int) := dY; have ai : x5_1 < (a0.size : Int) := dY; have au := bt_at a0 x5_1; replace ah := eq_true ah; replace ai := eq_true ai
            go_wp2_with (first | ((with_reducible refine gate_dst (N := 52) rfl ?_); refine gsM (some 52) Tryd.func36 #[.int .u8 (bt a0 x5_1)] ?_; (with_reducible refine (furrowref4_letter.calls (bt a0 x5_1) false _ bb.out).mono ?_); rintro e w' ⟨rfl, ⟨nd, rfl⟩⟩; refine ⟨_, rfl, ?_⟩; (try (rw [drewN_self wc]; generalize hq_ : World.drewN wc _ = wc; have n0_ : Aside0 (Kd.R k91 91 wc w.heap.size (fun _ => True) u4 x4_1) := ⟨by rw [← hq_]; exact (uR ab.out)⟩; have n1_ : Aside0 (wc.heap[ac]? = some (.cells #[.slice none 0 0, .int .i64 ag] 50 (0, 0))) := ⟨by rw [← hq_]; exact (uB aa.out)⟩; have n2_ : Aside0 (Below w.heap.size w wc) := ⟨by rw [← hq_]; exact bH⟩; clear ab aa HB hq_; have ab := n0_; have aa := n1_; have HB := n2_; clear n0_ n1_ n2_)); have ak : 0 ≤ (x5_1 : Int) := dY; have al : x5_1 < (a0.size : Int) := dY; have bk := bt_at a0 x5_1; replace ak := eq_true ak; replace al := eq_true al; clear ab) | ((with_reducible refine gate_dst (N := 90) rfl ?_); refine gsM (some 90) Tryd.func39 #[.int .u8 (bt a0 x5_1)] ?_; (with_reducible refine (furrowref4_digit.calls (bt a0 x5_1) false _ bL.out).mono ?_); rintro e w' ⟨rfl, ⟨nd, rfl⟩⟩; refine ⟨_, rfl, ?_⟩; (try (rw [drewN_self wc]; generalize hq_ : World.drewN wc _ = wc; have n0_ : Aside0 (wc.heap[ac]? = some (.cells #[.slice none 0 0, .int .i64 ag] 50 (0, 0))) := ⟨by rw [← hq_]; exact (uB aa.out)⟩; have n1_ : Aside0 (Below w.heap.size w wc) := ⟨by rw [← hq_]; exact bH⟩; clear aa HB hq_; have aa := n0_; have HB := n1_; clear n0_ n1_))) | ((with_reducible refine gate_dst (N := 18) rfl ?_); refine gsM (some 18) Tryd.func41 #[.string a0, .int .i64 x5_1] ?_; (with_reducible refine (furrowref4_sign.calls kj3 a0 x5_1 aj _ ct.out).mono ?_); rintro e w' ⟨rfl, ⟨nd, rfl⟩⟩; refine ⟨_, rfl, ?_⟩; (try (rw [drewN_self wc]; generalize hq_ : World.drewN wc _ = wc; have n0_ : Aside0 (wc.heap[ac]? = some (.cells #[.slice none 0 0, .int .i64 ag] 50 (0, 0))) := ⟨by rw [← hq_]; exact (uB aa.out)⟩; have n1_ : Aside0 (Below w.heap.size w wc) := ⟨by rw [← hq_]; exact bH⟩; clear aa HB hq_; have aa := n0_; have HB := n1_; clear n0_ n1_))) | ((with_reducible refine gate_dst (N := 22) rfl ?_); refine gsM (some 22) Tryd.func21 #[.string (⟨#[119, 111, 114, 100]⟩ : ByteArray), .int .i64 x5_1, .int .i64 3] ?_; (with_reducible refine (furrowref4_At.calls (⟨#[119, 111, 114, 100]⟩ : ByteArray) x5_1 3 bV bW _ dp.out).mono ?_); rintro e eG ⟨eH, rfl, ho0, hb⟩; refine ⟨_, rfl, ?_⟩; have cv := mk0 (Kd.R_lower ho0 (below_size bH)); replace aa := bB aa hb; replace HB := hbB bH hb; (try clear hb ho0); obtain ⟨cw, cx, dq⟩ := Kd.R_slice cv.out; subst dq; obtain ⟨eI, eJ, eL, eM⟩ := cL2 aa))
            refine bodyPost_ret (results_tc rfl _ _ ac 50 #[.slice cw bV.length cx, .int .i64 bW] (0, 0) _ rfl (kB) Tryd.underlying50 rfl (by kernel_rfl)) rfl ?_; exact ⟨_, _, rE, nK, uR (Kd.R_mono (Kd.R_far (p := ⟨ac, 1, none⟩) (Kd.R_far (p := ⟨ac, 0, none⟩) (Kd.R_types cv.out aa.out (by decide)) (fun _ hk => hk.2) (.slice cw bV.length cx)) (fun _ hk => hk.2) (.int .i64 bW)) (fun _ hk => trivial)), bH⟩
           ·rw [if_neg av] at H
            have dl : (aj == 0) = false := beq_eq_false_iff_ne.mpr av; have dn : (aj != 0) = true := bne_iff_ne.mpr av
            by_cases aY : 0 ≤ x5_1
            ·rw [if_pos aY] at H
             have eN := eq_true aY; have eO := decide_eq_true aY; clear aY
             by_cases bv : x5_1 ≤ (wrap64 (x5_1 + aj))
             ·rw [if_pos bv] at H
              have eP := eq_true bv; have eQ := decide_eq_true bv
              by_cases bw : (wrap64 (x5_1 + aj)) ≤ (a0.size : Int)
              ·rw [if_pos bw] at H
               have eR := eq_true bw; have eS := decide_eq_true bw
               by_cases bx : x4_1.length < 3518437208883
               ·rw [if_pos bx] at H
                have dr := mk0 bx; clear bx; obtain ⟨cy, bX⟩ : ∃ y_ : List (S91), y_ = (x4_1 ++ [(⟨3, a0.extract (x5_1 : Int).toNat ((wrap64 (x5_1 + aj)) : Int).toNat, x5_1, 0⟩ : S91)]) := ⟨_, rfl⟩; (replace H : (furrowref4_Toks.l0 kj3 a0 cy (wrap64 (x5_1 + aj))) = some (r1, r2, r3) := by (try rw [bX]); first | with_reducible exact H | with_reducible exact oN H | exact H); have dt := mk0 bX; clear bX; have H' := mk0 H; clear H; have ah : 0 ≤ (x5_1 : Int) := dY; have ai : x5_1 < (a0.size : Int) := dY; have au := bt_at a0 x5_1; replace ah := eq_true ah; replace ai := eq_true ai
                go_wp2_with (first | ((with_reducible refine gate_dst (N := 52) rfl ?_); refine gsM (some 52) Tryd.func36 #[.int .u8 (bt a0 x5_1)] ?_; (with_reducible refine (furrowref4_letter.calls (bt a0 x5_1) false _ bb.out).mono ?_); rintro e w' ⟨rfl, ⟨nd, rfl⟩⟩; refine ⟨_, rfl, ?_⟩; have ak : 0 ≤ (x5_1 : Int) := dY; have al : x5_1 < (a0.size : Int) := dY; have bk := bt_at a0 x5_1; replace ak := eq_true ak; replace al := eq_true al) | ((with_reducible refine gate_dst (N := 90) rfl ?_); refine gsM (some 90) Tryd.func39 #[.int .u8 (bt a0 x5_1)] ?_; (with_reducible refine (furrowref4_digit.calls (bt a0 x5_1) false _ bL.out).mono ?_); rintro e w' ⟨rfl, ⟨nd, rfl⟩⟩; refine ⟨_, rfl, ?_⟩) | ((with_reducible refine gate_dst (N := 18) rfl ?_); refine gsM (some 18) Tryd.func41 #[.string a0, .int .i64 x5_1] ?_; (with_reducible refine (furrowref4_sign.calls kj3 a0 x5_1 aj _ ct.out).mono ?_); rintro e w' ⟨rfl, ⟨nd, rfl⟩⟩; refine ⟨_, rfl, ?_⟩) | ((with_reducible refine gate_builtin (b := .append) (xs := #[.tmp 26, .tmp 33]) rfl ?_); at_builtin; refine Kd.R_append k91 (w0 := w) w.heap.size rfl (.tmp 26) (.tmp 33) 87 91 (.agg #[(.int .i64 0), (.string ⟨#[]⟩), (.int .i64 0), (.int .i64 0)]) 40 rfl Tryd.underlying87 info91 rfl (by decide) (by omega) u4 x4_1 (⟨3, a0.extract (x5_1 : Int).toNat ((wrap64 (x5_1 + aj)) : Int).toNat, x5_1, 0⟩ : S91) [.int .i64 3, .string (a0.extract (x5_1 : Int).toNat ((wrap64 (x5_1 + aj)) : Int).toNat), .int .i64 x5_1, .int .i64 0] (fun _ => True) (fun _ => False) rfl rfl ?aP (fun _ hk => hk.elim) ?aF ?aO ?aB ?aS ?aL ?_; (case aP => exact k91_mkM _ _ _ (⟨3, a0.extract (x5_1 : Int).toNat ((wrap64 (x5_1 + aj)) : Int).toNat, x5_1, 0⟩ : S91)); (case aB => exact bH); (case aF => exact (fun _ _ => trivial)); (case aO => exact (uR ab.out)); (case aS => exact (below_size bH)); (case aL => have := dr.out; omega); intro eT eU ho hb hg hat; rw [← dt.out] at ho; have n0_ := (gB aa hg (Kd.R_ne ab.out aa.out (by decide))); have n1_ := mk0 (hb); have n2_ := mk0 (ho); clear aa HB ab; have aa := n0_; have HB := n1_; have du := n2_; clear n0_ n1_ n2_; clear ho hb hg hat))
                go_roundg kj3
                case measure => have := ae.out; have := af.out; omega
                case rel => exact ⟨(cy), (wrap64 (x5_1 + aj)), (ag), eK, H', ⟨by have := ae.out; have := af.out; omega⟩, ⟨uR du.out⟩, ⟨uB aa.out⟩, ⟨bH⟩⟩
               ·exact nO H bx
              ·exact nO H bw
             ·exact nO H bv
            ·exact nO H aY
        ·exact nO H aq
       ·exact nO H ap
   ·rw [if_neg c3] at H
    have aw := decide_eq_false c3; clear c3; simp only [Option.some.injEq, Prod.mk.injEq] at H; obtain ⟨rfl, rfl, rfl⟩ := H; obtain ⟨eV, eW, eX, eY⟩ := cL2 aa; go_wp2; refine bodyPost_ret (results_tc rfl _ _ ac 50 #[.slice none 0 0, .int .i64 0] (0, 0) _ rfl (kB) Tryd.underlying50 rfl (by kernel_rfl)) rfl ?_; exact ⟨_, _, rE, uR (Kd.R_mono (Kd.R_far (p := ⟨ac, 1, none⟩) (Kd.R_far (p := ⟨ac, 0, none⟩) (Kd.R_types ab.out aa.out (by decide)) (fun _ hk => hk.2) (.slice none 0 0)) (fun _ hk => hk.2) (.int .i64 0)) (fun _ hk => trivial)), nK, bH⟩

end Go.Proofs.YtmhkijidnpihmaaDoor.X
