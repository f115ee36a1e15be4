/- k*i + m*(i - j) + n is lifted to its numbers; for numbers of 16 bits. -/
import Derived.Test.YtnkckdbjeemjeaaDoorPureLf2
import Derived.Test.YtnkckdbjeemjeaaDoorPureKnown
import Derived.Test.YtnkckdbjeemjeaaDoorXx13
import Derived.Laws.Bits64
namespace Go.Proofs.YtnkckdbjeemjeaaDoor.Pure
open Go.RowKit Go.Proofs.YtnkckdbjeemjeaaDoor.X Go.Proofs.YtnkckdbjeemjeaaDoor.Flt Go.Proofs.YtnkckdbjeemjeaaDoor.H Go.Proofs.YtnkckdbjeemjeaaDoorW.PrintWords Go.Proofs.YtnkckdbjeemjeaaDoorW.PrintLast Go.Proofs.YtnkckdbjeemjeaaDoorW.PrintMore
set_option linter.unusedVariables false
set_option linter.unusedSimpArgs false
theorem i16_of {a : Int} (h : (Lit.int .i16 a).wf = true) : -32768 ≤ a ∧ a ≤ 32767 := by
  simp [Lit.wf, IntKind.min, IntKind.max, IntKind.signed, IntKind.bits] at h
  omega
theorem u8_of {a : Int} (h : (Lit.int .u8 a).wf = true) : 0 ≤ a ∧ a ≤ 255 := by
  simp [Lit.wf, IntKind.min, IntKind.max, IntKind.signed, IntKind.bits] at h
  omega
section
variable {k m n : Int}
theorem last_ok {e : S26} {g : Nat → Option (List Int × Int × List Flt)} {c : List Int × Int × List Flt → Option Bool} {a b K : Int} (hg : Says g (([a, b] : List Int), K, ([] : List Flt))) (hc : c (([a, b] : List Int), K, ([] : List Flt)) = some true) : Says (fun k => (g k).bind c) true :=
  .bind hg ⟨0, fun _ _ => hc⟩
theorem j1_ok {a b : S26} (w : Int) (hk : -32768 ≤ k ∧ k ≤ 32767) (hm : -32768 ≤ m ∧ m ≤ 32767) (hn : -32768 ≤ n ∧ n ≤ 32767) (ha : Ok a 0 k 0) (hb : Ok b (-m) m 0) :
    Says (fun q => furrowlaw12_LiftLinear.j1 q k m n w a.f0 a.f1 a.f2 a.f3 b.f0 b.f1 b.f2 b.f3) true := by
  have ek : wrap64 k = k := w64 (by omega)
  have em : wrap64 m = m := w64 (by omega)
  have en : wrap64 n = n := w64 (by omega)
  have es : wrap64 (k + m) = k + m := w64 (by omega)
  have eg : wrap64 (-m) = -m := w64 (by omega)
  have fin : ∀ r : List Int × Int × List Flt, r = ([-m, k + m], n, []) → (if (r.2.2.length : Int) = 0 then (if (r.1.length : Int) = 2 then (if 1 < (r.1.length : Int) then (if (rd r.1 1) = (wrap64 ((wrap64 (k)) + (wrap64 (m)))) then (if 0 < (r.1.length : Int) then (if (rd r.1 0) = (wrap64 (-(wrap64 (m)))) then (some (r.2.1 == (wrap64 (n)))) else (some false)) else (none)) else (some false)) else (none)) else (some false)) else (some false)) = some true := by
    rintro _ rfl
    rw [ek, em, en, es, eg]
    rw [if_pos (by rfl), if_pos (by rfl), if_pos (by simp), if_pos (by rfl), if_pos (by simp), if_pos (by rfl)]
    simp
  obtain ⟨p0, p1, p2, p3⟩ := a
  obtain ⟨q0, q1, q2, q3⟩ := b
  refine .step (fun q => furrowlaw12_LiftLinear.j1.eq_2 ..) ?_
  by_cases c : ((Int.tdiv w 4) % 256) % 2 = 1
  · have h : Ok ⟨6, 0, ⟨#[]⟩, [⟨5, 0, ⟨#[]⟩, [⟨1, n, ⟨#[]⟩, []⟩, ⟨p0, p1, p2, p3⟩]⟩, ⟨4, 0, ⟨#[]⟩, [⟨q0, q1, q2, q3⟩]⟩]⟩ (-m) (k + m) n := by
      refine (of_sub (of_add (of_num n) ha ?_ ?_ ?_ ?_ ?_ ?_) (of_neg hb ?_ ?_ ?_) ?_ ?_ ?_ ?_ ?_ ?_).to ?_ ?_ ?_
      all_goals (try unfold bd)
      all_goals omega
    have h := of_ok h
    refine .pos c ?_
    simp only [furrowlaw12_N.f, furrowlaw12_Op.f, Option.bind_some, en]
    exact .bind h ⟨0, fun _ _ => by have z := fin _ rfl; rw [en] at z; exact z⟩
  · have h : Ok ⟨5, 0, ⟨#[]⟩, [⟨5, 0, ⟨#[]⟩, [⟨p0, p1, p2, p3⟩, ⟨q0, q1, q2, q3⟩]⟩, ⟨1, n, ⟨#[]⟩, []⟩]⟩ (-m) (k + m) n := by
      refine (of_add (of_add ha hb ?_ ?_ ?_ ?_ ?_ ?_) (of_num n) ?_ ?_ ?_ ?_ ?_ ?_).to ?_ ?_ ?_
      all_goals (try unfold bd)
      all_goals omega
    have h := of_ok h
    refine .neg c ?_
    simp only [furrowlaw12_N.f, furrowlaw12_Op.f, Option.bind_some, en]
    exact .bind h ⟨0, fun _ _ => by have z := fin _ rfl; rw [en] at z; exact z⟩
theorem j0_ok {a : S26} (w : Int) (hk : -32768 ≤ k ∧ k ≤ 32767) (hm : -32768 ≤ m ∧ m ≤ 32767) (hn : -32768 ≤ n ∧ n ≤ 32767) (ha : Ok a 0 k 0) :
    Says (fun q => furrowlaw12_LiftLinear.j0 q k m n w a.f0 a.f1 a.f2 a.f3 7 0 ⟨#[]⟩ [⟨1, m, ⟨#[]⟩, []⟩, ⟨6, 0, ⟨#[]⟩, [⟨2, 0, ⟨#[105]⟩, []⟩, ⟨2, 0, ⟨#[106]⟩, []⟩]⟩]) true := by
  have em : wrap64 m = m := w64 (by omega)
  refine .step (fun q => furrowlaw12_LiftLinear.j0.eq_2 ..) ?_
  by_cases c : ((Int.tdiv w 2) % 256) % 2 = 1
  · refine .pos c ?_
    simp only [furrowlaw12_N.f, furrowlaw12_Op.f, furrowlaw12_V.f, Option.bind_some, em]
    refine j1_ok (b := ⟨6, 0, ⟨#[]⟩, [⟨7, 0, ⟨#[]⟩, [⟨1, m, ⟨#[]⟩, []⟩, ⟨2, 0, ⟨#[105]⟩, []⟩]⟩, ⟨7, 0, ⟨#[]⟩, [⟨2, 0, ⟨#[106]⟩, []⟩, ⟨1, m, ⟨#[]⟩, []⟩]⟩]⟩) w hk hm hn ha ?_
    refine (of_sub (of_mul (of_num m) of_i ?_ ?_ ?_ ?_ ?_ ?_ ?_) (of_mul of_j (of_num m) ?_ ?_ ?_ ?_ ?_ ?_ ?_) ?_ ?_ ?_ ?_ ?_ ?_).to ?_ ?_ ?_
    all_goals (try unfold bd)
    all_goals omega
  · refine .neg c ?_
    refine j1_ok (b := ⟨7, 0, ⟨#[]⟩, [⟨1, m, ⟨#[]⟩, []⟩, ⟨6, 0, ⟨#[]⟩, [⟨2, 0, ⟨#[105]⟩, []⟩, ⟨2, 0, ⟨#[106]⟩, []⟩]⟩]⟩) w hk hm hn ha ?_
    refine (of_mul (of_num m) (of_sub of_i of_j ?_ ?_ ?_ ?_ ?_ ?_) ?_ ?_ ?_ ?_ ?_ ?_ ?_).to ?_ ?_ ?_
    all_goals (try unfold bd)
    all_goals omega
end
theorem liftlinear_true {a0 a1 a2 a3 : Int} (h0 : (Lit.int .i16 a0).wf = true) (h1 : (Lit.int .i16 a1).wf = true) (h2 : (Lit.int .i16 a2).wf = true) : ∃ k, furrowlaw12_LiftLinear.f k a0 a1 a2 a3 = some true := by
  suffices h : Says (fun q => furrowlaw12_LiftLinear.f q a0 a1 a2 a3) true from h.elim fun K hK => ⟨K, hK K (Nat.le_refl _)⟩
  have hk := i16_of h0
  have hm := i16_of h1
  have hn := i16_of h2
  have ek : wrap64 a0 = a0 := w64 (by omega)
  have em : wrap64 a1 = a1 := w64 (by omega)
  refine .eq (fun k => furrowlaw12_LiftLinear.f.eq_1 ..) (.bind known12 (.pos rfl ?_))
  simp only [furrowlaw12_N.f, furrowlaw12_Op.f, furrowlaw12_V.f, Option.bind_some, ek, em]
  by_cases c : Int.tmod a3 2 = 1
  · refine .pos c ?_
    refine j0_ok (a := ⟨7, 0, ⟨#[]⟩, [⟨2, 0, ⟨#[105]⟩, []⟩, ⟨1, a0, ⟨#[]⟩, []⟩]⟩) a3 hk hm hn ?_
    refine (of_mul of_i (of_num a0) ?_ ?_ ?_ ?_ ?_ ?_ ?_).to ?_ ?_ ?_
    all_goals (try unfold bd)
    all_goals omega
  · refine .neg c ?_
    refine j0_ok (a := ⟨7, 0, ⟨#[]⟩, [⟨1, a0, ⟨#[]⟩, []⟩, ⟨2, 0, ⟨#[105]⟩, []⟩]⟩) a3 hk hm hn ?_
    refine (of_mul (of_num a0) of_i ?_ ?_ ?_ ?_ ?_ ?_ ?_).to ?_ ?_ ?_
    all_goals (try unfold bd)
    all_goals omega
theorem LiftLinear : furrowlaw12_LiftLinear.Pure := fun _ _ _ _ h0 h1 h2 _ => liftlinear_true h0 h1 h2

end Go.Proofs.YtnkckdbjeemjeaaDoor.Pure
