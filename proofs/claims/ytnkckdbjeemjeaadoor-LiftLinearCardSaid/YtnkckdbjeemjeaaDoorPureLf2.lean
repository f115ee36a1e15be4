/- Expressions of two names, lifted; no conditions. -/
import Derived.Test.YtnkckdbjeemjeaaDoorPureLf1
import Derived.Test.YtnkckdbjeemjeaaDoorXx9
import Derived.Test.YtnkckdbjeemjeaaDoorXx10
import Derived.Laws.Bits64
namespace Go.Proofs.YtnkckdbjeemjeaaDoor.Pure
open Go.RowKit Go.Proofs.YtnkckdbjeemjeaaDoor.X Go.Proofs.YtnkckdbjeemjeaaDoor.Flt Go.Proofs.YtnkckdbjeemjeaaDoor.H Go.Proofs.YtnkckdbjeemjeaaDoorW.PrintWords Go.Proofs.YtnkckdbjeemjeaaDoorW.PrintLast Go.Proofs.YtnkckdbjeemjeaaDoorW.PrintMore
set_option linter.unusedVariables false
set_option linter.unusedSimpArgs false
/-! expressions of two names, lifted -/
theorem w01 : wrap64 ((0 : Int) + 1) = 1 := w64 (a := 1) (by omega)
theorem w12 : wrap64 ((1 : Int) + 1) = 2 := w64 (a := 2) (by omega)
def LL : List ByteArray := [⟨#[106]⟩, ⟨#[105]⟩]
def Ok (e : S26) (a b K : Int) : Prop := Says (fun k => lift_of.f k e.f0 e.f1 e.f2 e.f3 LL) ([a, b], K, none)
theorem of_num (n : Int) : Ok ⟨1, n, ⟨#[]⟩, []⟩ 0 0 n :=
  .step (fun k => lift_of.f.eq_2 ..) (.pos rfl (.bind (v := ([0, 0], n)) ⟨0, fun _ _ => rfl⟩ .now))
theorem idx_i : Says (fun k => slices_Index_string_string.f k LL ⟨#[105]⟩) 1 := Says.more (fun k => slices_Index_string_string.mono _ _ k) (K := 5) (by decide +kernel)
theorem idx_j : Says (fun k => slices_Index_string_string.f k LL ⟨#[106]⟩) 0 := Says.more (fun k => slices_Index_string_string.mono _ _ k) (K := 5) (by decide +kernel)
theorem of_i : Ok ⟨2, 0, ⟨#[105]⟩, []⟩ 0 1 0 :=
  .step (fun k => lift_of.f.eq_2 ..) (.neg (by decide) (.pos rfl (.bind idx_i (.neg (by decide) (.bind (v := ([0, 1], 0)) ⟨0, fun _ _ => rfl⟩ .now)))))
theorem of_j : Ok ⟨2, 0, ⟨#[106]⟩, []⟩ 1 0 0 :=
  .step (fun k => lift_of.f.eq_2 ..) (.neg (by decide) (.pos rfl (.bind idx_j (.neg (by decide) (.bind (v := ([1, 0], 0)) ⟨0, fun _ _ => rfl⟩ .now)))))
section
variable {x y : S26} {a b K c d M : Int}
theorem of_two {r : List Int × Int × Option Int} {kd : Int} (hk : kd ≠ 1 ∧ kd ≠ 2 ∧ kd ≠ 3 ∧ kd ≠ 8) (hx : Ok x a b K) (hy : Ok y c d M)
    (h : Says (fun k => lift_of.l0 k LL [⟨[a, b], K⟩, ⟨[c, d], M⟩] [x, y] 2 2 kd 0 ⟨#[]⟩ [x, y]) r) : Says (fun k => lift_of.f k kd 0 ⟨#[]⟩ [x, y] LL) r := by
  refine .step (fun k => lift_of.f.eq_2 ..) (.neg hk.1 (.neg hk.2.1 (.neg hk.2.2.1 (.neg hk.2.2.2 ?_))))
  refine .step (fun k => lift_of.l0.eq_2 ..) (.pos (by simp) (.pos (by simp) (.pos (by simp) (.bind hx (.pos rfl (.pos (by simp) ?_))))))
  rw [w01]
  refine .step (fun k => lift_of.l0.eq_2 ..) (.pos (by simp) (.pos (by simp) (.pos (by simp) (.bind hy (.pos rfl (.pos (by simp) ?_))))))
  rw [w12]
  exact h
theorem of_add (hx : Ok x a b K) (hy : Ok y c d M) (ha : bd 1152921504606846976 a) (hb : bd 1152921504606846976 b) (hK : bd 1152921504606846976 K) (hc : bd 1152921504606846976 c) (hd : bd 1152921504606846976 d) (hM : bd 1152921504606846976 M) :
    Ok ⟨5, 0, ⟨#[]⟩, [x, y]⟩ (a + c) (b + d) (K + M) :=
  of_two (by simp) hx hy (.step (fun k => lift_of.l0.eq_2 ..) (.neg (by simp) (.neg (by simp) (.neg (by simp) (.pos rfl (.pos (by simp) (.pos (by simp) (.bind (v := ([a + c, b + d], K + M, [])) ⟨0, fun _ _ => add2 ha hb hK hc hd hM⟩ (.pos rfl .now)))))))))
theorem of_sub (hx : Ok x a b K) (hy : Ok y c d M) (ha : bd 1152921504606846976 a) (hb : bd 1152921504606846976 b) (hK : bd 1152921504606846976 K) (hc : bd 1152921504606846976 c) (hd : bd 1152921504606846976 d) (hM : bd 1152921504606846976 M) :
    Ok ⟨6, 0, ⟨#[]⟩, [x, y]⟩ (a - c) (b - d) (K - M) :=
  of_two (by simp) hx hy (.step (fun k => lift_of.l0.eq_2 ..) (.neg (by simp) (.neg (by simp) (.neg (by simp) (.neg (by simp) (.pos (by simp) (.pos (by simp) (.bind (less2 ha hb hK hc hd hM) .now))))))))
theorem of_mul (hx : Ok x a b K) (hy : Ok y c d M) (ha : bd 1073741824 a) (hb : bd 1073741824 b) (hK : bd 1073741824 K) (hc : bd 1073741824 c) (hd : bd 1073741824 d) (hM : bd 1073741824 M) (h : (a = 0 ∧ b = 0) ∨ (c = 0 ∧ d = 0)) :
    Ok ⟨7, 0, ⟨#[]⟩, [x, y]⟩ (a * M + c * K) (b * M + d * K) (K * M) :=
  of_two (by simp) hx hy (.step (fun k => lift_of.l0.eq_2 ..) (.neg (by simp) (.neg (by simp) (.pos rfl (.pos (by simp) (.pos (by simp) (.bind (prod2 ha hb hK hc hd hM h) .now)))))))
theorem of_neg (hx : Ok x a b K) (ha : bd 1073741824 a) (hb : bd 1073741824 b) (hK : bd 1073741824 K) : Ok ⟨4, 0, ⟨#[]⟩, [x]⟩ (a * -1) (b * -1) (K * -1) := by
  refine .step (fun k => lift_of.f.eq_2 ..) (.neg (by simp) (.neg (by simp) (.neg (by simp) (.neg (by simp) ?_))))
  refine .step (fun k => lift_of.l0.eq_2 ..) (.pos (by simp) (.pos (by simp) (.pos (by simp) (.bind hx (.pos rfl (.pos (by simp) ?_))))))
  rw [w01]
  exact .step (fun k => lift_of.l0.eq_2 ..) (.neg (by simp) (.pos rfl (.pos (by simp) (.bind (v := ([a * -1, b * -1], K * -1, [])) ⟨0, fun _ _ => scale2 ha hb hK (by unfold bd; omega)⟩ (.pos rfl .now)))))
theorem of_ok {e : S26} (h : Ok e a b K) : Says (fun k => lift_Of.f k e.f0 e.f1 e.f2 e.f3 LL) ([a, b], K, []) := .eq (fun k => lift_Of.f.eq_1 ..) (.bind h (.pos rfl .now))
theorem Ok.to {e : S26} {a' b' K' : Int} (h : Ok e a b K) (h1 : a = a') (h2 : b = b') (h3 : K = K') : Ok e a' b' K' := by subst h1 h2 h3; exact h
end

end Go.Proofs.YtnkckdbjeemjeaaDoor.Pure
