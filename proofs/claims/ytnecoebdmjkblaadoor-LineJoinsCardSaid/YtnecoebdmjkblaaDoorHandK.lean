-- line.check walked: printed over a stand-in, turned by mkcheck.py
import Derived.Test.YtnecoebdmjkblaaDoorFlt
import Derived.Below
import Derived.Deep.Draws
import Derived.Deep.AppendLies
import Derived.Maps.AppendAt
import Derived.OwnWalk
import Derived.Laws.BytesArg
import Derived.Laws.MakeOwn
import Derived.Laws.OwnMore
import Derived.Deep.OwnRows
import Derived.Tactics
import Derived.Lib.ConvBytes
import Derived.Laws.Slices
import Derived.WalkKit
import Derived.KernelRfl
import Derived.RowKit3
import Derived.Deep.LoopGhost
import Derived.Deep.QuietTactic
import Derived.BigQuiet
import Derived.WideLaws
import Derived.Deep.DeepCutAuto
import Derived.Deep.CutBlock
import Derived.Deep.RegionHeld3
import Derived.Laws.Rows
import Derived.Lib.AppendStr
import Derived.ArgAppend
import Derived.Laws.IdiomCopy
import Derived.OrdersHeld
import Derived.Laws.BitsLemmas
import Derived.RowKit
import Derived.Test.YtnecoebdmjkblaaDoorWWords
import Derived.Test.YtnecoebdmjkblaaDoorWLast
import Derived.Test.YtnecoebdmjkblaaDoorWTab
import Derived.Test.YtnecoebdmjkblaaDoorWFour
import Derived.Test.YtnecoebdmjkblaaDoorWQPut
import Derived.Test.YtnecoebdmjkblaaDoorWApart
import Derived.Test.YtnecoebdmjkblaaDoorWArr
import Derived.Test.YtnecoebdmjkblaaDoorWZeros
import Derived.Test.YtnecoebdmjkblaaDoorWFoot
import Derived.Test.YtnecoebdmjkblaaDoorWKept
import Derived.Test.YtnecoebdmjkblaaDoorWShare
import Derived.Test.YtnecoebdmjkblaaDoorWN
import Derived.Test.YtnecoebdmjkblaaDoorWFootNe
import Derived.Test.YtnecoebdmjkblaaDoorWAt
import Derived.Test.YtnecoebdmjkblaaDoorWEqStruct
import Derived.Test.YtnecoebdmjkblaaDoorWRepsOne
import Derived.Test.YtnecoebdmjkblaaDoorWInv
import Derived.Test.YtnecoebdmjkblaaDoorWInvWords
import Derived.Test.YtnecoebdmjkblaaDoorWGuard
import Derived.Test.YtnecoebdmjkblaaDoorWNEv
import Derived.Test.YtnecoebdmjkblaaDoorWMore
import Derived.Test.YtnecoebdmjkblaaDoorProg
namespace Go.Proofs.YtnecoebdmjkblaaDoor.H
open Go.Proofs.YtnecoebdmjkblaaDoor.Flt Go.RowKit Go.Proofs.YtnecoebdmjkblaaDoorW.PrintWords Go.Proofs.YtnecoebdmjkblaaDoorW.PrintLast Go.Proofs.YtnecoebdmjkblaaDoorW.PrintMore
set_option linter.unusedVariables false
set_option linter.unusedSimpArgs false
/-! ### line_check: function 23 -/
def line_check.l0 : Nat → List Int → Int → Int → Option (Option Int)
  | 0, _, _, _ => none
  | k + 1, x10, x11, x12 => if x12 < x11 then (if 0 ≤ x12 then (if x12 < (x10.length : Int) then (if (rd x10 x12) < 32 then (if (rd x10 x12) = 9 then (line_check.l0 k x10 x11 (wrap64 (x12 + 1))) else (if (rd x10 x12) = 10 then (line_check.l0 k x10 x11 (wrap64 (x12 + 1))) else (some (some 3)))) else (if (rd x10 x12) > 126 then (if (rd x10 x12) = 9 then (line_check.l0 k x10 x11 (wrap64 (x12 + 1))) else (if (rd x10 x12) = 10 then (line_check.l0 k x10 x11 (wrap64 (x12 + 1))) else (some (some 3)))) else (line_check.l0 k x10 x11 (wrap64 (x12 + 1))))) else (none)) else (none)) else (some none)
def line_check.f (k : Nat) (l0 : List Int) : Option (Option Int) := if (l0.length : Int) > 200 then (some (some 4)) else (line_check.l0 k l0 (l0.length : Int) 0)
theorem line_check.mono_l : ∀ k, (∀ y0 y1 y2, LeO (line_check.l0 k y0 y1 y2) (line_check.l0 (k + 1) y0 y1 y2))
  | 0 => fun _ _ _ r h => by simp [line_check.l0] at h
  | k + 1 => by
    have ih0 := line_check.mono_l k
    · intro y0 y1 y2
      unfold line_check.l0
      repeat' first
      | (with_reducible exact ih0 _ _ _)
      | (with_reducible exact LeO.refl _)
      | (with_reducible exact LeO.none _)
      | (with_reducible refine LeO.ite ?_ ?_)
      | (with_reducible refine LeO.bind ?_ (fun _ => ?_))
      | exact ih0 _ _ _
      | exact LeO.none _
      | refine LeO.ite ?_ ?_
      | refine LeO.bind ?_ (fun _ => ?_)
theorem line_check.mono : ∀ a0 k, LeO (line_check.f k a0) (line_check.f (k + 1) a0) := by
  intro a0 k
  have ih0 := line_check.mono_l k
  unfold line_check.f
  repeat' first
      | (with_reducible exact ih0 _ _ _)
      | (with_reducible exact LeO.refl _)
      | (with_reducible exact LeO.none _)
      | (with_reducible refine LeO.ite ?_ ?_)
      | (with_reducible refine LeO.bind ?_ (fun _ => ?_))
      | exact ih0 _ _ _
      | exact LeO.none _
      | refine LeO.ite ?_ ?_
      | refine LeO.bind ?_ (fun _ => ?_)
set_option maxHeartbeats 8000000 in
set_option maxRecDepth 100000 in
theorem line_check.calls (k : Nat) (s : ByteArray) (r : Option Int) (w : World) (hs : s.size ≤ 9223372036854775807) (h : line_check.f k (bytesOf s) = some r) :
    Calls Tryd.prog 23 #[.string s] w fun e w' => e = .returned (errn r) ∧ Below w.heap.size w w' := by
  have hu29 := Tryd.underlying29
  have hu50 := Tryd.underlying50
  have kb := fun W => print_bytes (P := Tryd.prog) 9 41 5 Tryd.underlying9 Tryd.underlying41 Tryd.underlying5 s W
  have HCELL : ∀ x : Int, 0 ≤ x → x < (s.size : Int) → (Lib.bytesWorld w 5 s).cell? ⟨w.heap.size, x.toNat, none⟩ = some (.int .u8 (rd (bytesOf s) x)) := by
    intro x h0 h1
    obtain ⟨_, _, hc⟩ := bytes_reads w 5 s hs
    obtain ⟨ad, e, hc⟩ := hc (by omega)
    cases e
    rw [← add_plain, hc x.toNat (by omega)]
    rfl
  replace HCELL := Aside0.mk HCELL
  have H : (if ((bytesOf s).length : Int) > 200 then (some (some 4)) else (line_check.l0 k (bytesOf s) ((bytesOf s).length : Int) 0)) = some r := h
  clear h
  rw [bytesOf_length] at H
  by_cases c2 : (s.size : Int) > 200
  · rw [if_pos c2] at H
    have c2b0 : decide (200 < (s.size : Int)) = true := decide_eq_true c2
    have c2b1 : decide (200 < s.size) = true := decide_eq_true (by omega)
    clear c2
    obtain rfl := Option.some.inj H
    go_enter Tryd.func23, Tryd.ntmps23
    go_wp2
    go_ret
    exact ⟨by first | rfl | (simp; done) | (simp [*]; done) | (simp [bne_nil_, beq_nil_]; done), by repeat (first | exact Below.refl _ _ | apply below_alloc | apply pw_below_drewN | apply below_drew1)⟩
  · rw [if_neg c2] at H
    have c2b0 : decide (200 < (s.size : Int)) = false := decide_eq_false c2
    have c2b1 : decide (200 < s.size) = false := decide_eq_false (by omega)
    clear c2
    have H' := Aside0.mk H
    clear H
    go_enter Tryd.func23, Tryd.ntmps23
    go_wp2
    go_loopg [12] k (fun kq v12 w' => ∃ (x12_1 : Int), v12 = .int .i64 x12_1 ∧ Aside0 (line_check.l0 kq (bytesOf s) (s.size : Int) x12_1 = some r) ∧ Aside0 (kq ≤ k) ∧ Drawn0 (Lib.bytesWorld w 5 s) w')
    case atStart => exact ⟨(0), (by first | rfl | (simp; done) | (simp [*]; done) | (simp [bne_nil_, beq_nil_]; done)), H', ⟨Nat.le_refl _⟩, by repeat (first | exact Drawn0.refl _ | apply Drawn0.step)⟩
    case round =>
      clear H'
      try clear c2
      try clear c2b0
      try clear c2b1
      try clear p2
      obtain ⟨x12_1, rfl, HA, HK1, ⟨m1, rfl⟩⟩ := hrel
      cases gk with
      | zero => exact absurd HA.out (by simp [line_check.l0])
      | succ k1 =>
        have H := HA.out
        clear HA
        simp only [line_check.l0, bytesOf_length] at H
        by_cases c3 : x12_1 < (s.size : Int)
        · rw [if_pos c3] at H
          have c3b0 : decide (x12_1 < (s.size : Int)) = true := decide_eq_true c3
          clear c3
          by_cases c4 : 0 ≤ x12_1
          · rw [if_pos c4] at H
            have c4b0 : decide (0 ≤ x12_1) = true := decide_eq_true c4
            clear c4
            by_cases c5 : x12_1 < (s.size : Int)
            · rw [if_pos c5] at H
              have c5b0 : decide (x12_1 < (s.size : Int)) = true := decide_eq_true c5
              clear c5
              by_cases c6 : (rd (bytesOf s) x12_1) < 32
              · rw [if_pos c6] at H
                have c6b0 : decide ((rd (bytesOf s) x12_1) < 32) = true := decide_eq_true c6
                clear c6
                by_cases c7 : (rd (bytesOf s) x12_1) = 9
                · rw [if_pos c7] at H
                  have c7b0 : ((rd (bytesOf s) x12_1) == 9) = true := beq_iff_eq.mpr c7
                  have c7b1 : ((rd (bytesOf s) x12_1) != 9) = false := bne_eq_false_iff_eq.mpr c7
                  clear c7
                  have H' := Aside0.mk H
                  clear H
                  have p101 : 0 ≤ (x12_1 : Int) := of_decide_eq_true (by first | (with_reducible assumption) | assumption)
                  have q101 : x12_1 < (s.size : Int) := of_decide_eq_true (by first | (with_reducible assumption) | assumption)
                  have hx101_0 := HCELL.out x12_1 p101 q101
                  replace p101 := eq_true p101
                  replace q101 := eq_true q101
                  go_wp2
                  go_roundg k1
                  case measure => have := HK1.out; omega
                  case rel => exact ⟨(wrap64 (x12_1 + 1)), (by first | rfl | (simp; done) | (simp [*]; done) | (simp [bne_nil_, beq_nil_]; done)), H', ⟨by have := HK1.out; omega⟩, by repeat (first | exact Drawn0.refl _ | apply Drawn0.step)⟩
                · rw [if_neg c7] at H
                  have c7b0 : ((rd (bytesOf s) x12_1) == 9) = false := beq_eq_false_iff_ne.mpr c7
                  have c7b1 : ((rd (bytesOf s) x12_1) != 9) = true := bne_iff_ne.mpr c7
                  by_cases c8 : (rd (bytesOf s) x12_1) = 10
                  · rw [if_pos c8] at H
                    have c8b0 : ((rd (bytesOf s) x12_1) == 10) = true := beq_iff_eq.mpr c8
                    have c8b1 : ((rd (bytesOf s) x12_1) != 10) = false := bne_eq_false_iff_eq.mpr c8
                    clear c8
                    have H' := Aside0.mk H
                    clear H
                    have p101 : 0 ≤ (x12_1 : Int) := of_decide_eq_true (by first | (with_reducible assumption) | assumption)
                    have q101 : x12_1 < (s.size : Int) := of_decide_eq_true (by first | (with_reducible assumption) | assumption)
                    have hx101_0 := HCELL.out x12_1 p101 q101
                    replace p101 := eq_true p101
                    replace q101 := eq_true q101
                    go_wp2
                    go_roundg k1
                    case measure => have := HK1.out; omega
                    case rel => exact ⟨(wrap64 (x12_1 + 1)), (by first | rfl | (simp; done) | (simp [*]; done) | (simp [bne_nil_, beq_nil_]; done)), H', ⟨by have := HK1.out; omega⟩, by repeat (first | exact Drawn0.refl _ | apply Drawn0.step)⟩
                  · rw [if_neg c8] at H
                    have c8b0 : ((rd (bytesOf s) x12_1) == 10) = false := beq_eq_false_iff_ne.mpr c8
                    have c8b1 : ((rd (bytesOf s) x12_1) != 10) = true := bne_iff_ne.mpr c8
                    obtain rfl := Option.some.inj H
                    have p101 : 0 ≤ (x12_1 : Int) := of_decide_eq_true (by first | (with_reducible assumption) | assumption)
                    have q101 : x12_1 < (s.size : Int) := of_decide_eq_true (by first | (with_reducible assumption) | assumption)
                    have hx101_0 := HCELL.out x12_1 p101 q101
                    replace p101 := eq_true p101
                    replace q101 := eq_true q101
                    go_wp2
                    go_ret
                    exact ⟨by first | rfl | (simp; done) | (simp [*]; done) | (simp [bne_nil_, beq_nil_]; done), by repeat (first | exact bytes_below (Below.refl _ _) (Nat.le_refl _) 5 s | apply below_alloc | apply pw_below_drewN | apply below_drew1)⟩
              · rw [if_neg c6] at H
                have c6b0 : decide ((rd (bytesOf s) x12_1) < 32) = false := decide_eq_false c6
                clear c6
                by_cases c9 : (rd (bytesOf s) x12_1) > 126
                · rw [if_pos c9] at H
                  have c9b0 : decide (126 < (rd (bytesOf s) x12_1)) = true := decide_eq_true c9
                  clear c9
                  by_cases c10 : (rd (bytesOf s) x12_1) = 9
                  · rw [if_pos c10] at H
                    have c10b0 : ((rd (bytesOf s) x12_1) == 9) = true := beq_iff_eq.mpr c10
                    have c10b1 : ((rd (bytesOf s) x12_1) != 9) = false := bne_eq_false_iff_eq.mpr c10
                    clear c10
                    have H' := Aside0.mk H
                    clear H
                    have p101 : 0 ≤ (x12_1 : Int) := of_decide_eq_true (by first | (with_reducible assumption) | assumption)
                    have q101 : x12_1 < (s.size : Int) := of_decide_eq_true (by first | (with_reducible assumption) | assumption)
                    have hx101_0 := HCELL.out x12_1 p101 q101
                    replace p101 := eq_true p101
                    replace q101 := eq_true q101
                    go_wp2
                    go_roundg k1
                    case measure => have := HK1.out; omega
                    case rel => exact ⟨(wrap64 (x12_1 + 1)), (by first | rfl | (simp; done) | (simp [*]; done) | (simp [bne_nil_, beq_nil_]; done)), H', ⟨by have := HK1.out; omega⟩, by repeat (first | exact Drawn0.refl _ | apply Drawn0.step)⟩
                  · rw [if_neg c10] at H
                    have c10b0 : ((rd (bytesOf s) x12_1) == 9) = false := beq_eq_false_iff_ne.mpr c10
                    have c10b1 : ((rd (bytesOf s) x12_1) != 9) = true := bne_iff_ne.mpr c10
                    by_cases c11 : (rd (bytesOf s) x12_1) = 10
                    · rw [if_pos c11] at H
                      have c11b0 : ((rd (bytesOf s) x12_1) == 10) = true := beq_iff_eq.mpr c11
                      have c11b1 : ((rd (bytesOf s) x12_1) != 10) = false := bne_eq_false_iff_eq.mpr c11
                      clear c11
                      have H' := Aside0.mk H
                      clear H
                      have p101 : 0 ≤ (x12_1 : Int) := of_decide_eq_true (by first | (with_reducible assumption) | assumption)
                      have q101 : x12_1 < (s.size : Int) := of_decide_eq_true (by first | (with_reducible assumption) | assumption)
                      have hx101_0 := HCELL.out x12_1 p101 q101
                      replace p101 := eq_true p101
                      replace q101 := eq_true q101
                      go_wp2
                      go_roundg k1
                      case measure => have := HK1.out; omega
                      case rel => exact ⟨(wrap64 (x12_1 + 1)), (by first | rfl | (simp; done) | (simp [*]; done) | (simp [bne_nil_, beq_nil_]; done)), H', ⟨by have := HK1.out; omega⟩, by repeat (first | exact Drawn0.refl _ | apply Drawn0.step)⟩
                    · rw [if_neg c11] at H
                      have c11b0 : ((rd (bytesOf s) x12_1) == 10) = false := beq_eq_false_iff_ne.mpr c11
                      have c11b1 : ((rd (bytesOf s) x12_1) != 10) = true := bne_iff_ne.mpr c11
                      obtain rfl := Option.some.inj H
                      have p101 : 0 ≤ (x12_1 : Int) := of_decide_eq_true (by first | (with_reducible assumption) | assumption)
                      have q101 : x12_1 < (s.size : Int) := of_decide_eq_true (by first | (with_reducible assumption) | assumption)
                      have hx101_0 := HCELL.out x12_1 p101 q101
                      replace p101 := eq_true p101
                      replace q101 := eq_true q101
                      go_wp2
                      go_ret
                      exact ⟨by first | rfl | (simp; done) | (simp [*]; done) | (simp [bne_nil_, beq_nil_]; done), by repeat (first | exact bytes_below (Below.refl _ _) (Nat.le_refl _) 5 s | apply below_alloc | apply pw_below_drewN | apply below_drew1)⟩
                · rw [if_neg c9] at H
                  have c9b0 : decide (126 < (rd (bytesOf s) x12_1)) = false := decide_eq_false c9
                  clear c9
                  have H' := Aside0.mk H
                  clear H
                  have p101 : 0 ≤ (x12_1 : Int) := of_decide_eq_true (by first | (with_reducible assumption) | assumption)
                  have q101 : x12_1 < (s.size : Int) := of_decide_eq_true (by first | (with_reducible assumption) | assumption)
                  have hx101_0 := HCELL.out x12_1 p101 q101
                  replace p101 := eq_true p101
                  replace q101 := eq_true q101
                  go_wp2
                  go_roundg k1
                  case measure => have := HK1.out; omega
                  case rel => exact ⟨(wrap64 (x12_1 + 1)), (by first | rfl | (simp; done) | (simp [*]; done) | (simp [bne_nil_, beq_nil_]; done)), H', ⟨by have := HK1.out; omega⟩, by repeat (first | exact Drawn0.refl _ | apply Drawn0.step)⟩
            · rw [if_neg c5] at H
              exact absurd H (by simp)
          · rw [if_neg c4] at H
            exact absurd H (by simp)
        · rw [if_neg c3] at H
          have c3b0 : decide (x12_1 < (s.size : Int)) = false := decide_eq_false c3
          clear c3
          obtain rfl := Option.some.inj H
          go_wp2
          go_ret
          exact ⟨by first | rfl | (simp; done) | (simp [*]; done) | (simp [bne_nil_, beq_nil_]; done), by repeat (first | exact bytes_below (Below.refl _ _) (Nat.le_refl _) 5 s | apply below_alloc | apply pw_below_drewN | apply below_drew1)⟩

end Go.Proofs.YtnecoebdmjkblaaDoor.H
