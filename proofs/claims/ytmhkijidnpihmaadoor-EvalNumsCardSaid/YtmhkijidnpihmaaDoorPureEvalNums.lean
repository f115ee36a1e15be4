/- EvalNums over numbers alone. -/
import Derived.Test.YtmhkijidnpihmaaDoorPureEv
import Derived.Test.YtmhkijidnpihmaaDoorXx9
import Derived.Laws.Bits64
namespace Go.Proofs.YtmhkijidnpihmaaDoor.Pure
open Go.RowKit Go.Proofs.YtmhkijidnpihmaaDoor.X Go.Proofs.YtmhkijidnpihmaaDoor.Flt Go.Proofs.YtmhkijidnpihmaaDoor.H Go.Proofs.YtmhkijidnpihmaaDoorW.PrintWords Go.Proofs.YtmhkijidnpihmaaDoorW.PrintLast Go.Proofs.YtmhkijidnpihmaaDoorW.PrintMore
set_option linter.unusedVariables false
set_option linter.unusedSimpArgs false
theorem nums_known : furrowlaw9_known.f 60 = some true := by decide +kernel
def rtab : List S71 := [⟨⟨#[97]⟩, [1], 0, 1⟩, ⟨⟨#[98]⟩, [3, 2], 1, 6⟩, ⟨⟨#[120]⟩, [], 7, 1⟩, ⟨⟨#[121]⟩, [], 8, 1⟩, ⟨⟨#[110]⟩, [], 9, 1⟩, ⟨⟨#[105]⟩, [], 10, 1⟩, ⟨⟨#[106]⟩, [], 11, 1⟩]
theorem nums_tab : furrowlaw9_Table.f 60 1 = some (rtab, 12) := by kernel_rfl
theorem nums_to : furrowlaw8_To.f 60 rtab 12 = some (tab 1, 12) := by kernel_rfl
theorem w01 : wrap64 (0 + 1) = 1 := by kernel_rfl
theorem w11 : wrap64 (1 + 1) = 2 := by kernel_rfl
theorem w21 : wrap64 (2 + 1) = 3 := by kernel_rfl
theorem w31 : wrap64 (3 + 1) = 4 := by kernel_rfl
abbrev NL (k : Nat) (a b i s d m q : Int) := furrowlaw9_EvalNums.l0 k a b (cel a b) i (tab 1) 12 2 0 ⟨#[120]⟩ 2 0 ⟨#[121]⟩ s d m q
theorem nums_0 (a b : Int) : furrowlaw9_EvalNums.f 60 a b = NL 60 a b 0 0 0 0 0 := by
  unfold furrowlaw9_EvalNums.f
  rw [nums_known, Option.bind_some, if_pos rfl, nums_tab, Option.bind_some]
  dsimp only
  rw [nums_to, Option.bind_some]
  dsimp only
  rw [if_pos (by decide), if_pos (by decide), Option.bind_some, if_neg (by decide), if_pos (by decide), if_pos (by decide)]
  rfl
theorem nums_s0 (k : Nat) (a b s d m q : Int) : NL (k + 22) a b 0 s d m q = NL (k + 20) a b 1 (wrap64 (a + b)) d m q := by
  show furrowlaw9_EvalNums.l0 ((k + 21) + 1) a b (cel a b) 0 (tab 1) 12 2 0 ⟨#[120]⟩ 2 0 ⟨#[121]⟩ s d m q = _
  rw [furrowlaw9_EvalNums.l0, if_pos (by decide), n_add (k + 1), Option.bind_some]
  dsimp only
  rw [if_neg (by decide)]
  show furrowlaw9_EvalNums.j1 ((k + 20) + 1) a b (cel a b) 0 _ _ _ _ _ _ _ _ _ _ _ _ _ _ _ = _
  rw [furrowlaw9_EvalNums.j1, if_neg (by decide), if_pos (by rfl), if_pos rfl, w01]
theorem nums_s1 (k : Nat) (a b s d m q : Int) : NL (k + 22) a b 1 s d m q = NL (k + 20) a b 2 s (wrap64 (a + wrap64 (-b))) m q := by
  show furrowlaw9_EvalNums.l0 ((k + 21) + 1) a b (cel a b) 1 (tab 1) 12 2 0 ⟨#[120]⟩ 2 0 ⟨#[121]⟩ s d m q = _
  rw [furrowlaw9_EvalNums.l0, if_pos (by decide), n_sub (k + 1), Option.bind_some]
  dsimp only
  rw [if_neg (by decide)]
  show furrowlaw9_EvalNums.j1 ((k + 20) + 1) a b (cel a b) 1 _ _ _ _ _ _ _ _ _ _ _ _ _ _ _ = _
  rw [furrowlaw9_EvalNums.j1, if_neg (by decide), if_pos (by rfl), if_neg (by decide), if_pos rfl, w11]
theorem nums_s2 (k : Nat) (a b s d m q : Int) : NL (k + 22) a b 2 s d m q = NL (k + 20) a b 3 s d (wrap64 (a * b)) q := by
  show furrowlaw9_EvalNums.l0 ((k + 21) + 1) a b (cel a b) 2 (tab 1) 12 2 0 ⟨#[120]⟩ 2 0 ⟨#[121]⟩ s d m q = _
  rw [furrowlaw9_EvalNums.l0, if_pos (by decide), n_mul (k + 1), Option.bind_some]
  dsimp only
  rw [if_neg (by decide)]
  show furrowlaw9_EvalNums.j1 ((k + 20) + 1) a b (cel a b) 2 _ _ _ _ _ _ _ _ _ _ _ _ _ _ _ = _
  rw [furrowlaw9_EvalNums.j1, if_neg (by decide), if_pos (by rfl), if_neg (by decide), if_neg (by decide), if_pos rfl, w21]
theorem nums_z (k : Nat) (a s d m q : Int) : NL (k + 22) a 0 3 s d m q = some true := by
  show furrowlaw9_EvalNums.l0 ((k + 21) + 1) a 0 (cel a 0) 3 (tab 1) 12 2 0 ⟨#[120]⟩ 2 0 ⟨#[121]⟩ s d m q = _
  rw [furrowlaw9_EvalNums.l0, if_pos (by decide), n_div (k + 1), if_pos rfl, Option.bind_some]
  dsimp only
  rw [if_pos rfl]
  show furrowlaw9_EvalNums.j1 ((k + 20) + 1) a 0 (cel a 0) 3 _ _ _ _ _ _ _ _ _ _ _ _ _ _ _ = _
  rw [furrowlaw9_EvalNums.j1, if_pos (by decide), if_neg (by simp)]
  rfl
theorem nums_s3 (k : Nat) (a b s d m q : Int) (hb : b ≠ 0) : NL (k + 22) a b 3 s d m q = NL (k + 20) a b 4 s d m (wrap64 (Int.tdiv a b)) := by
  show furrowlaw9_EvalNums.l0 ((k + 21) + 1) a b (cel a b) 3 (tab 1) 12 2 0 ⟨#[120]⟩ 2 0 ⟨#[121]⟩ s d m q = _
  rw [furrowlaw9_EvalNums.l0, if_pos (by decide), n_div (k + 1), if_neg hb, Option.bind_some]
  dsimp only
  rw [if_pos rfl]
  show furrowlaw9_EvalNums.j1 ((k + 20) + 1) a b (cel a b) 3 _ _ _ _ _ _ _ _ _ _ _ _ _ _ _ = _
  rw [furrowlaw9_EvalNums.j1, if_neg (by simp [hb]), if_pos (by rfl), if_neg (by decide), if_neg (by decide), if_neg (by decide), if_pos rfl, w31]
theorem nums_of (k : Nat) : furrowlaw5_Of.f (k + 10) 2 0 ⟨#[120]⟩ [] = some (2, 0, ⟨#[120]⟩, []) := by kernel_rfl
theorem nums_e (k : Nat) (a b q : Int) (hb : b ≠ 0) (hq : q = wrap64 (Int.tdiv a b)) : NL (k + 22) a b 4 (wrap64 (a + b)) (wrap64 (a + wrap64 (-b))) (wrap64 (a * b)) q = some true := by
  show furrowlaw9_EvalNums.l0 ((k + 21) + 1) a b (cel a b) 4 (tab 1) 12 2 0 ⟨#[120]⟩ 2 0 ⟨#[121]⟩ _ _ _ q = _
  rw [furrowlaw9_EvalNums.l0, if_neg (by decide), n_neg (k + 1) a b, Option.bind_some]
  dsimp only
  rw [if_pos (by rfl), if_pos rfl, if_pos (by unfold wrap64; omega), if_pos rfl, if_pos (by unfold wrap64; omega), nums_of (k + 11), Option.bind_some]
  dsimp only
  show furrowlaw9_EvalNums.j2 ((k + 20) + 1) a b _ _ _ _ _ = _
  rw [furrowlaw9_EvalNums.j2, if_neg (by decide)]
  subst hq
  by_cases h1 : b = -1
  · subst h1
    rw [if_pos rfl, Int.tdiv_neg, Int.tdiv_one]; simp
  · rw [if_neg h1, if_neg hb]; simp
theorem evalnums_true {a b : Int} : furrowlaw9_EvalNums.f 60 a b = some true := by
  rw [nums_0, nums_s0 38, nums_s1 36, nums_s2 34]
  by_cases hb : b = 0
  · subst hb; exact nums_z 32 _ _ _ _ _
  · rw [nums_s3 32 _ _ _ _ _ _ hb]; exact nums_e 30 _ _ _ hb rfl
theorem EvalNums : furrowlaw9_EvalNums.Pure := fun a b _ _ => ⟨60, evalnums_true⟩

end Go.Proofs.YtmhkijidnpihmaaDoor.Pure
