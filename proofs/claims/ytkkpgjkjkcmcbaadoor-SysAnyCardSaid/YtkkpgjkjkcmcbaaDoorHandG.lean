/- The document's Box.low, Box.high: what they leave in the world; no conditions. -/
import Derived.Test.YtkkpgjkjkcmcbaaDoorHandK
import Derived.Test.YtkkpgjkjkcmcbaaDoorSq
import Derived.WalkKit
import Derived.ProofKit
namespace Go.Proofs.YtkkpgjkjkcmcbaaDoor.H
open Go.Proofs.YtkkpgjkjkcmcbaaDoor.Flt Go.RowKit Go.Proofs.YtkkpgjkjkcmcbaaDoorW.PrintWords Go.Proofs.YtkkpgjkjkcmcbaaDoorW.PrintLast Go.Proofs.YtkkpgjkjkcmcbaaDoorW.PrintMore
set_option linter.unusedVariables false
set_option linter.unusedSimpArgs false
/-- The last statement of a block, as one that something follows. -/
theorem asThen {P : Program} {s : Code} {Q : Exit → Act → World → Prop} {a : Act} {w : World} (h : ∀ K : Act → World → Prop, (∀ a' w', Q .normal a' w' → K a' w') → s.wp P (Exit.then K Q) a w) : s.wp P Q a w := by
  refine wp_mono (h (fun a' w' => Q .normal a' w') (fun _ _ q => q)) ?_
  intro e a' w' hq
  cases e <;> exact hq

/-- What stands in for 'low' (with its condition): the bound, and whether there is one. -/
def furrowref20_Box_low.f (e : Bool) (c : Int) (h : Bool) (o v : Int) : Option (Int × Bool) := some (if (e || decide (0 < c)) && (!h || decide (o < v)) then v else o, h || (e || decide (0 < c)))
set_option maxHeartbeats 2000000 in
set_option maxRecDepth 100000 in
theorem low_calls (w : World) (g a b n1 n2 c1 c2 : Nat) (v2 v4 : Value) (e : Bool) (c k v o r : Int) (h t : Bool) (hf : furrowref20_Box_low.f e c h o v = some (r, t)) (he : (e || decide (0 < c)) = true)
    (hB : w.heap[g]? = some (.cells #[.slice (some ⟨a, 0, none⟩) n1 c1, v2, .slice (some ⟨b, 0, none⟩) n2 c2, v4] 97 (0, 0))) (hl : w.cell? ⟨a, k.toNat, none⟩ = some (.int .i64 o)) (hh : w.cell? ⟨b, k.toNat, none⟩ = some (.bool h)) (fl : w.frozen? ⟨a, k.toNat, none⟩ = false) (fh : w.frozen? ⟨b, k.toNat, none⟩ = false)
    (k0 : 0 ≤ k) (k1 : k < n1) (k2 : k < n2) (hga : g ≠ a) (hab : a ≠ b) : Calls Tryd.prog 40 #[.pointer (some ⟨g, 0, none⟩), .int .i64 k, .int .i64 v] w fun x w' => x = .returned (.tuple #[]) ∧ w' = (w.setCell ⟨a, k.toNat, none⟩ (.int .i64 r)).setCell ⟨b, k.toNat, none⟩ (.bool t) := by
  have hu97 := Tryd.underlying97
  unfold furrowref20_Box_low.f at hf
  rw [he] at hf
  have HE := mk0 he
  clear he HE
  simp only [Bool.true_and, Bool.or_true, Option.some.injEq, Prod.mk.injEq] at hf
  obtain ⟨hr, rfl⟩ := hf
  obtain ⟨B0, B1, B2, B3, F0, F1, F2, F3⟩ := cL4 (mk0 hB)
  have k0 := eq_true k0
  have k1 := eq_true k1
  have k2 := eq_true k2
  have hba : b ≠ a := Ne.symm hab
  have hag : a ≠ g := Ne.symm hga
  have hB' := mk0 hB
  clear hB
  cases h with
  | false =>
    have hr : v = r := by simpa using hr
    subst hr
    have HK := mk0 hh
    go_enter Tryd.func40, Tryd.ntmps40
    go_wp2
    refine bodyPost_end (results_none rfl _ _ _) rfl ?_
    exact ⟨rfl, rfl⟩
  | true =>
    by_cases z : o < v
    · have hr : v = r := by simpa [z] using hr
      subst hr
      have zb : decide (o < v) = true := decide_eq_true z
      clear z
      go_enter Tryd.func40, Tryd.ntmps40
      go_wp2
      refine bodyPost_end (results_none rfl _ _ _) rfl ?_
      exact ⟨rfl, rfl⟩
    · have hr : o = r := by simpa [z] using hr
      subst hr
      have zb : decide (o < v) = false := decide_eq_false z
      clear z
      rw [setCell_self hl, setCell_self hh]
      go_enter Tryd.func40, Tryd.ntmps40
      go_wp2
      refine bodyPost_end (results_none rfl _ _ _) rfl ?_
      exact ⟨rfl, rfl⟩
theorem low_keep {w : World} {a b k : Nat} {e : Bool} {c v o r : Int} {h t : Bool} (hf : furrowref20_Box_low.f e c h o v = some (r, t)) (he : (e || decide (0 < c)) = false)
    (hl : w.cell? ⟨a, k, none⟩ = some (.int .i64 o)) (hh : w.cell? ⟨b, k, none⟩ = some (.bool h)) : w = (w.setCell ⟨a, k, none⟩ (.int .i64 r)).setCell ⟨b, k, none⟩ (.bool t) := by
  unfold furrowref20_Box_low.f at hf
  rw [he] at hf
  simp only [Bool.false_and, Bool.or_false, Option.some.injEq, Prod.mk.injEq, Bool.false_eq_true, if_false] at hf
  obtain ⟨rfl, rfl⟩ := hf
  rw [setCell_self hl, setCell_self hh]

/-- What stands in for 'high' (with its condition): the bound, and whether there is one. -/
def furrowref20_Box_high.f (e : Bool) (c : Int) (h : Bool) (o v : Int) : Option (Int × Bool) := some (if (e || decide (c < 0)) && (!h || decide (v < o)) then v else o, h || (e || decide (c < 0)))
set_option maxHeartbeats 2000000 in
set_option maxRecDepth 100000 in
theorem high_calls (w : World) (g a b n1 n2 c1 c2 : Nat) (v2 v4 : Value) (e : Bool) (c k v o r : Int) (h t : Bool) (hf : furrowref20_Box_high.f e c h o v = some (r, t)) (he : (e || decide (c < 0)) = true)
    (hB : w.heap[g]? = some (.cells #[v2, .slice (some ⟨a, 0, none⟩) n1 c1, v4, .slice (some ⟨b, 0, none⟩) n2 c2] 97 (0, 0))) (hl : w.cell? ⟨a, k.toNat, none⟩ = some (.int .i64 o)) (hh : w.cell? ⟨b, k.toNat, none⟩ = some (.bool h)) (fl : w.frozen? ⟨a, k.toNat, none⟩ = false) (fh : w.frozen? ⟨b, k.toNat, none⟩ = false)
    (k0 : 0 ≤ k) (k1 : k < n1) (k2 : k < n2) (hga : g ≠ a) (hab : a ≠ b) : Calls Tryd.prog 41 #[.pointer (some ⟨g, 0, none⟩), .int .i64 k, .int .i64 v] w fun x w' => x = .returned (.tuple #[]) ∧ w' = (w.setCell ⟨a, k.toNat, none⟩ (.int .i64 r)).setCell ⟨b, k.toNat, none⟩ (.bool t) := by
  have hu97 := Tryd.underlying97
  unfold furrowref20_Box_high.f at hf
  rw [he] at hf
  have HE := mk0 he
  clear he HE
  simp only [Bool.true_and, Bool.or_true, Option.some.injEq, Prod.mk.injEq] at hf
  obtain ⟨hr, rfl⟩ := hf
  obtain ⟨B0, B1, B2, B3, F0, F1, F2, F3⟩ := cL4 (mk0 hB)
  have k0 := eq_true k0
  have k1 := eq_true k1
  have k2 := eq_true k2
  have hba : b ≠ a := Ne.symm hab
  have hag : a ≠ g := Ne.symm hga
  have hB' := mk0 hB
  clear hB
  cases h with
  | false =>
    have hr : v = r := by simpa using hr
    subst hr
    have HK := mk0 hh
    go_enter Tryd.func41, Tryd.ntmps41
    go_wp2
    refine bodyPost_end (results_none rfl _ _ _) rfl ?_
    exact ⟨rfl, rfl⟩
  | true =>
    by_cases z : v < o
    · have hr : v = r := by simpa [z] using hr
      subst hr
      have zb : decide (v < o) = true := decide_eq_true z
      clear z
      go_enter Tryd.func41, Tryd.ntmps41
      go_wp2
      refine bodyPost_end (results_none rfl _ _ _) rfl ?_
      exact ⟨rfl, rfl⟩
    · have hr : o = r := by simpa [z] using hr
      subst hr
      have zb : decide (v < o) = false := decide_eq_false z
      clear z
      rw [setCell_self hl, setCell_self hh]
      go_enter Tryd.func41, Tryd.ntmps41
      go_wp2
      refine bodyPost_end (results_none rfl _ _ _) rfl ?_
      exact ⟨rfl, rfl⟩
theorem high_keep {w : World} {a b k : Nat} {e : Bool} {c v o r : Int} {h t : Bool} (hf : furrowref20_Box_high.f e c h o v = some (r, t)) (he : (e || decide (c < 0)) = false)
    (hl : w.cell? ⟨a, k, none⟩ = some (.int .i64 o)) (hh : w.cell? ⟨b, k, none⟩ = some (.bool h)) : w = (w.setCell ⟨a, k, none⟩ (.int .i64 r)).setCell ⟨b, k, none⟩ (.bool t) := by
  unfold furrowref20_Box_high.f at hf
  rw [he] at hf
  simp only [Bool.false_and, Bool.or_false, Option.some.injEq, Prod.mk.injEq, Bool.false_eq_true, if_false] at hf
  obtain ⟨rfl, rfl⟩ := hf
  rw [setCell_self hl, setCell_self hh]
end Go.Proofs.YtkkpgjkjkcmcbaaDoor.H
