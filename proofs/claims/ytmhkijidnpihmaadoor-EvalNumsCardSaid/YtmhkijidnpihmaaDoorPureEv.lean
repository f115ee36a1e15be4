/- Plain lemmas on what expressions come to. -/
import Derived.Test.YtmhkijidnpihmaaDoorHandV
import Derived.Laws.Bits64
namespace Go.Proofs.YtmhkijidnpihmaaDoor.Pure
open Go.RowKit Go.Proofs.YtmhkijidnpihmaaDoor.X Go.Proofs.YtmhkijidnpihmaaDoor.Flt Go.Proofs.YtmhkijidnpihmaaDoor.H Go.Proofs.YtmhkijidnpihmaaDoorW.PrintWords Go.Proofs.YtmhkijidnpihmaaDoorW.PrintLast Go.Proofs.YtmhkijidnpihmaaDoorW.PrintMore
set_option linter.unusedVariables false
set_option linter.unusedSimpArgs false
/-- Table(n) as the program's. -/
def tab (n : Int) : List S64 := [⟨⟨#[97]⟩, [n], 0, n⟩, ⟨⟨#[98]⟩, [3, 2], n, 6⟩, ⟨⟨#[120]⟩, [], n + 6, 1⟩, ⟨⟨#[121]⟩, [], n + 7, 1⟩, ⟨⟨#[110]⟩, [], n + 8, 1⟩, ⟨⟨#[105]⟩, [], n + 9, 1⟩, ⟨⟨#[106]⟩, [], n + 10, 1⟩]
def cel (a b : Int) : List Int := [0, 0, 0, 0, 0, 0, 0, a, b, 0, 0, 0]
abbrev vx : S24 := ⟨2, 0, ⟨#[120]⟩, []⟩
abbrev vy : S24 := ⟨2, 0, ⟨#[121]⟩, []⟩
theorem n_add (k : Nat) (a b : Int) : eval_Eval.f (k + 20) (tab 1) 12 (cel a b) (wrap64 (5 + 0)) 0 ⟨#[]⟩ [vx, vy] = some (wrap64 (a + b), []) := by kernel_rfl
theorem n_sub (k : Nat) (a b : Int) : eval_Eval.f (k + 20) (tab 1) 12 (cel a b) (wrap64 (5 + 1)) 0 ⟨#[]⟩ [vx, vy] = some (wrap64 (a + wrap64 (-b)), []) := by kernel_rfl
theorem n_mul (k : Nat) (a b : Int) : eval_Eval.f (k + 20) (tab 1) 12 (cel a b) (wrap64 (5 + 2)) 0 ⟨#[]⟩ [vx, vy] = some (wrap64 (a * b), []) := by kernel_rfl
theorem n_div (k : Nat) (a b : Int) : eval_Eval.f (k + 20) (tab 1) 12 (cel a b) (wrap64 (5 + 3)) 0 ⟨#[]⟩ [vx, vy] = (if b = 0 then some (0, [⟨⟨#[100, 105, 118]⟩, 0, some 13⟩]) else some (wrap64 (Int.tdiv a b), [])) := by kernel_rfl
theorem n_neg (k : Nat) (a b : Int) : eval_Eval.f (k + 20) (tab 1) 12 (cel a b) 4 0 ⟨#[]⟩ [vx] = some (wrap64 (0 + wrap64 (-a)), []) := by kernel_rfl

end Go.Proofs.YtmhkijidnpihmaaDoor.Pure
