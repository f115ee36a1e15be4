/- Plain lemmas on the reference numbers and errors. -/
import Derived.Test.YtmnifoeodohphaaDoorPureLin
import Derived.Test.YtmnifoeodohphaaDoorXx4
import Derived.Test.YtmnifoeodohphaaDoorHandE
import Derived.Laws.Bits64
namespace Go.Proofs.YtmnifoeodohphaaDoor.Pure
open Go.RowKit Go.Proofs.YtmnifoeodohphaaDoor.X Go.Proofs.YtmnifoeodohphaaDoor.Flt Go.Proofs.YtmnifoeodohphaaDoor.H Go.Proofs.YtmnifoeodohphaaDoorW.PrintWords Go.Proofs.YtmnifoeodohphaaDoorW.PrintLast Go.Proofs.YtmnifoeodohphaaDoorW.PrintMore
set_option linter.unusedVariables false
set_option linter.unusedSimpArgs false
theorem radd_spec {a b : Int} (ha : inR a) (hb : inR b) : furrowref4_Add.f a b = some (chk (a + b)) := by
  unfold furrowref4_Add.f
  have hd : inR (a + b) ∧ wrap64 (a + b) = a + b ∨ ¬ inR (a + b) ∧ (0 < b ∧ wrap64 (a + b) = a + b - 18446744073709551616 ∨ b < 0 ∧ wrap64 (a + b) = a + b + 18446744073709551616) := by unfold wrap64 inR at *; omega
  rcases hd with ⟨hr, e⟩ | ⟨hr, ⟨hb0, e⟩ | ⟨hb0, e⟩⟩
  · rw [chk_yes hr, e]; unfold inR at *
    repeat' split
    all_goals first | rfl | (exfalso; omega)
  all_goals
    rw [chk_no hr, e]; unfold inR at *
    repeat' split
    all_goals first | rfl | (exfalso; omega)
theorem tdiv_in {c b : Int} (hc : inR c) : Int.natAbs (c.tdiv b) ≤ 9223372036854775808 := by
  rw [Int.natAbs_tdiv]; exact Nat.le_trans (Nat.div_le_self _ _) (by unfold inR at hc; omega)
theorem rmul1 {k : Nat} {a b : Int} (ha : inR a) (hb : inR b) (h0 : b ≠ 0) (hx : ¬ (a = -9223372036854775808 ∧ b = -1)) (hy : ¬ (b = -9223372036854775808 ∧ a = -1)) :
    furrowref4_Mul.j1 (k + 1) a b false = some (chk (a * b)) := by
  simp only [furrowref4_Mul.j1]
  rw [if_neg (by simp), if_neg h0]
  by_cases hr : inR (a * b)
  · rw [chk_yes hr, w64 hr, Int.mul_tdiv_cancel _ h0, if_pos (w64 ha)]
  · rw [chk_no hr, if_neg]
    intro e
    have hc : inR (wrap64 (a * b)) := by unfold inR wrap64; omega
    have hm : ∃ m : Int, a * b = wrap64 (a * b) + m * 18446744073709551616 ∧ m ≠ 0 := by
      refine ⟨(a * b - wrap64 (a * b)) / 18446744073709551616, ?_, ?_⟩
      · unfold wrap64; omega
      · intro e0; apply hr; unfold inR wrap64 at *; omega
    obtain ⟨m, e1, hm⟩ := hm
    have e2 := Int.mul_tdiv_add_tmod (wrap64 (a * b)) b
    have e3 : (Int.tmod (wrap64 (a * b)) b).natAbs < b.natAbs := by
      rw [Int.natAbs_tmod]; exact Nat.mod_lt _ (by omega)
    have e4 := @tdiv_in (wrap64 (a * b)) b hc
    have e5 : (wrap64 (a * b)).tdiv b = a := by
      by_cases h9 : (wrap64 (a * b)).tdiv b = 9223372036854775808
      · exfalso
        rw [h9] at e
        have ha' : a = -9223372036854775808 := by rw [← e]; unfold wrap64; omega
        rw [h9] at e2
        apply hx
        refine ⟨ha', ?_⟩
        unfold inR at *
        omega
      · exact (w64 (by omega)).symm.trans e
    rw [e5, Int.mul_comm b a] at e2
    unfold inR at *
    omega
theorem rmul_spec {k : Nat} {a b : Int} (hk : 2 ≤ k) (ha : inR a) (hb : inR b) : furrowref4_Mul.f k a b = some (chk (a * b)) := by
  obtain ⟨k, rfl⟩ : ∃ m, k = m + 2 := ⟨k - 2, by omega⟩
  unfold furrowref4_Mul.f
  by_cases h0 : a = 0
  · subst h0; rw [if_pos rfl, Int.zero_mul]; simp only [furrowref4_Mul.j0, if_true]; rfl
  · rw [if_neg h0]
    by_cases h1 : b = 0
    · subst h1; simp only [Int.mul_zero, furrowref4_Mul.j0]; rfl
    · have h1' : (b == 0) = false := by simpa using h1
      rw [h1']; simp only [furrowref4_Mul.j0]; rw [if_neg (by simp)]
      by_cases h2 : a = -1
      · rw [if_pos h2]
        by_cases h3 : b = -9223372036854775808
        · rw [if_pos h3]; subst h2 h3; rfl
        · rw [if_neg h3, rmul1 ha hb h1 (by omega) (by omega)]
          have h4 : (a == -9223372036854775808) = false := by subst h2; rfl
          rw [h4, rmul1 ha hb h1 (by omega) (by omega)]; split <;> rfl
      · rw [if_neg h2]
        by_cases h3 : b = -1
        · rw [if_pos h3]
          by_cases h4 : a = -9223372036854775808
          · subst h3 h4; rfl
          · rw [show (a == -9223372036854775808) = false by simpa using h4]
            exact rmul1 ha hb h1 (by omega) (by omega)
        · rw [if_neg h3]; exact rmul1 ha hb h1 (by omega) (by omega)

def refE (c : Int) : List S86 × Int := ([⟨⟨#[102, 111, 114, 109]⟩, 0⟩], c)
theorem over_eq : furrowref14_over.f = some (refE 5) := rfl
theorem unlike_eq : furrowref14_unlike.f = some (refE 1) := rfl
def errR (f : List Flt) : List S86 × Int := if f.isEmpty = true then ([], 0) else refE 5
theorem errR_nil : errR [] = ([], 0) := rfl
theorem errR_flt (c : Int) : errR (fltE c) = refE 5 := rfl
theorem tells_nil : furrowlaw2_Tells.f [] [] 0 = some true := rfl
theorem tells_flt (c : Int) (h : c = 1 ∨ c = 5) : furrowlaw2_Tells.f (fltE c) (refE c).1 (refE c).2 = some true := by rcases h with rfl | rfl <;> decide +kernel

end Go.Proofs.YtmnifoeodohphaaDoor.Pure
