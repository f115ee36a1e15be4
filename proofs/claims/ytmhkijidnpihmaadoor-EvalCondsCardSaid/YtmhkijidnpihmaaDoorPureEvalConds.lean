/- EvalConds over numbers alone. -/
import Derived.Test.YtmhkijidnpihmaaDoorXx7
import Derived.Laws.Bits64
namespace Go.Proofs.YtmhkijidnpihmaaDoor.Pure
open Go.RowKit Go.Proofs.YtmhkijidnpihmaaDoor.X Go.Proofs.YtmhkijidnpihmaaDoor.Flt Go.Proofs.YtmhkijidnpihmaaDoor.H Go.Proofs.YtmhkijidnpihmaaDoorW.PrintWords Go.Proofs.YtmhkijidnpihmaaDoorW.PrintLast Go.Proofs.YtmhkijidnpihmaaDoorW.PrintMore
set_option linter.unusedVariables false
set_option linter.unusedSimpArgs false
theorem u8_of {a : Int} (h : (Lit.int .u8 a).wf = true) : 0 ≤ a ∧ a ≤ 255 := by
  simp only [Lit.wf, IntKind.min, IntKind.max, IntKind.signed, IntKind.bits, Bool.and_eq_true, decide_eq_true_eq] at h
  simp at h
  omega

theorem c_j1 {k : Nat} {a b r c r' c' : Int} {l : List S71} {n : Int} {o : ByteArray} {x y : Int} {z : ByteArray} {m : List S24} {x' y' : Int} {z' : ByteArray} {m' : List S24} (h1 : Int.tmod r 6 = Int.tmod r' 6) (h2 : Int.tmod c 2 = Int.tmod c' 2) (h3 : (Int.tdiv c 2 % 256) % 2 = (Int.tdiv c' 2 % 256) % 2) :
    furrowlaw9_EvalConds.j1 k a b r c l n o x y z m x' y' z' m' = furrowlaw9_EvalConds.j1 k a b r' c' l n o x y z m x' y' z' m' := by
  cases k with
  | zero => rfl
  | succ k => simp only [furrowlaw9_EvalConds.j1, h1, h2, h3]
theorem c_j0 {k : Nat} {a b r c r' c' : Int} {l : List S71} {n : Int} {o : ByteArray} {x y : Int} {z : ByteArray} {m : List S24} {x' y' : Int} {z' : ByteArray} (h1 : Int.tmod r 6 = Int.tmod r' 6) (h2 : Int.tmod c 2 = Int.tmod c' 2) (h3 : (Int.tdiv c 2 % 256) % 2 = (Int.tdiv c' 2 % 256) % 2) :
    furrowlaw9_EvalConds.j0 k a b r c l n o x y z m x' y' z' = furrowlaw9_EvalConds.j0 k a b r' c' l n o x y z m x' y' z' := by
  cases k with
  | zero => rfl
  | succ k => simp only [furrowlaw9_EvalConds.j0]; rw [h3, c_j1 h1 h2 h3, c_j1 h1 h2 h3]
theorem c_f {k : Nat} {a b r c r' c' : Int} (h1 : Int.tmod r 6 = Int.tmod r' 6) (h2 : Int.tmod c 2 = Int.tmod c' 2) (h3 : (Int.tdiv c 2 % 256) % 2 = (Int.tdiv c' 2 % 256) % 2) :
    furrowlaw9_EvalConds.f k a b r c = furrowlaw9_EvalConds.f k a b r' c' := by
  unfold furrowlaw9_EvalConds.f
  rw [h1, h2]
  simp only [c_j0 h1 h2 h3]
theorem c_0 (a b : Int) : furrowlaw9_EvalConds.f 60 a b 0 0 = some (((decide (a < b)) != false) == decide (a < b)) := by kernel_rfl
theorem c_1 (a b : Int) : furrowlaw9_EvalConds.f 60 a b 1 0 = some (((decide (a ≤ b)) != false) == decide (a ≤ b)) := by kernel_rfl
theorem c_2 (a b : Int) : furrowlaw9_EvalConds.f 60 a b 2 0 = some (((decide (a ≤ b)) != true) == decide (a > b)) := by kernel_rfl
theorem c_3 (a b : Int) : furrowlaw9_EvalConds.f 60 a b 3 0 = some (((decide (a < b)) != true) == decide (a ≥ b)) := by kernel_rfl
theorem c_4 (a b : Int) : furrowlaw9_EvalConds.f 60 a b 4 0 = some (((a == b) != false) == (a == b)) := by kernel_rfl
theorem c_5 (a b : Int) : furrowlaw9_EvalConds.f 60 a b 5 0 = some (((a == b) != true) == (a != b)) := by kernel_rfl
theorem conds_0 (a b : Int) : ∀ r : Fin 6, furrowlaw9_EvalConds.f 60 a b (r.val : Int) 0 = some true
  | 0 => by rw [show (((0 : Fin 6).val : Int)) = 0 from rfl, c_0]; cases decide (a < b) <;> rfl
  | 1 => by rw [show (((1 : Fin 6).val : Int)) = 1 from rfl, c_1]; cases decide (a ≤ b) <;> rfl
  | 2 => by rw [show (((2 : Fin 6).val : Int)) = 2 from rfl, c_2]; by_cases h : a ≤ b <;> simp [h] <;> omega
  | 3 => by rw [show (((3 : Fin 6).val : Int)) = 3 from rfl, c_3]; by_cases h : a < b <;> simp [h] <;> omega
  | 4 => by rw [show (((4 : Fin 6).val : Int)) = 4 from rfl, c_4]; cases (a == b) <;> rfl
  | 5 => by rw [show (((5 : Fin 6).val : Int)) = 5 from rfl, c_5]; show some (((a == b) != true) == !(a == b)) = some true; cases (a == b) <;> rfl
theorem conds_b (a b : Int) : ∀ (r : Fin 6) (c : Fin 3), furrowlaw9_EvalConds.f 60 a b (r.val : Int) ((c.val : Int) + 1) = some true
  | 0, 0 => by kernel_rfl
  | 0, 1 => by kernel_rfl
  | 0, 2 => by kernel_rfl
  | 1, 0 => by kernel_rfl
  | 1, 1 => by kernel_rfl
  | 1, 2 => by kernel_rfl
  | 2, 0 => by kernel_rfl
  | 2, 1 => by kernel_rfl
  | 2, 2 => by kernel_rfl
  | 3, 0 => by kernel_rfl
  | 3, 1 => by kernel_rfl
  | 3, 2 => by kernel_rfl
  | 4, 0 => by kernel_rfl
  | 4, 1 => by kernel_rfl
  | 4, 2 => by kernel_rfl
  | 5, 0 => by kernel_rfl
  | 5, 1 => by kernel_rfl
  | 5, 2 => by kernel_rfl
theorem evalconds_true {a b r c : Int} (hr : 0 ≤ r) (hc : 0 ≤ c) (hc' : c ≤ 255) : furrowlaw9_EvalConds.f 60 a b r c = some true := by
  have h1 : Int.tmod r 6 = Int.tmod (((⟨(r % 6).toNat, by omega⟩ : Fin 6).val : Int)) 6 := by
    rw [Int.tmod_eq_emod_of_nonneg hr, Int.tmod_eq_emod_of_nonneg (by omega)]; simp; omega
  by_cases h0 : c % 4 = 0
  · have h2 : Int.tmod c 2 = Int.tmod 0 2 := by rw [Int.tmod_eq_emod_of_nonneg hc]; simp; omega
    have h3 : (Int.tdiv c 2 % 256) % 2 = (Int.tdiv 0 2 % 256) % 2 := by rw [Int.tdiv_eq_ediv_of_nonneg hc]; simp; omega
    rw [c_f h1 h2 h3]; exact conds_0 a b _
  · have h2 : Int.tmod c 2 = Int.tmod (((⟨(c % 4 - 1).toNat, by omega⟩ : Fin 3).val : Int) + 1) 2 := by
      rw [Int.tmod_eq_emod_of_nonneg hc, Int.tmod_eq_emod_of_nonneg (by omega)]; simp; omega
    have h3 : (Int.tdiv c 2 % 256) % 2 = (Int.tdiv (((⟨(c % 4 - 1).toNat, by omega⟩ : Fin 3).val : Int) + 1) 2 % 256) % 2 := by
      rw [Int.tdiv_eq_ediv_of_nonneg hc, Int.tdiv_eq_ediv_of_nonneg (by omega)]; simp; omega
    rw [c_f h1 h2 h3]; exact conds_b a b _ _
theorem EvalConds : furrowlaw9_EvalConds.Pure := fun a b r c _ _ h h' => ⟨60, evalconds_true (u8_of h).1 (u8_of h').1 (u8_of h').2⟩

end Go.Proofs.YtmhkijidnpihmaaDoor.Pure
