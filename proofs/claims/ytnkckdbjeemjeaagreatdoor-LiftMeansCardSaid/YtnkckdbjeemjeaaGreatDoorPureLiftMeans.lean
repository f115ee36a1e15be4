/- A form is what its expression comes to. -/
import Derived.Test.YtnkckdbjeemjeaaGreatDoorPureLm2
import Derived.Test.YtnkckdbjeemjeaaGreatDoorPureKnown
import Derived.Test.YtnkckdbjeemjeaaGreatDoorXx29
import Derived.Laws.Bits64
namespace Go.Proofs.YtnkckdbjeemjeaaGreatDoor.Pure
open Go.RowKit Go.Proofs.YtnkckdbjeemjeaaGreatDoor.X Go.Proofs.YtnkckdbjeemjeaaGreatDoor.Flt Go.Proofs.YtnkckdbjeemjeaaGreatDoor.H Go.Proofs.YtnkckdbjeemjeaaGreatDoorW.PrintWords Go.Proofs.YtnkckdbjeemjeaaGreatDoorW.PrintLast Go.Proofs.YtnkckdbjeemjeaaGreatDoorW.PrintMore
set_option linter.unusedVariables false
set_option linter.unusedSimpArgs false
theorem i16_of {a : Int} (h : (Lit.int .i16 a).wf = true) : -32768 ≤ a ∧ a ≤ 32767 := by
  simp [Lit.wf, IntKind.min, IntKind.max, IntKind.signed, IntKind.bits] at h
  omega
theorem liftmeans_true {a0 a1 i j : Int} {a2 : ByteArray} {a3 : List S24} (ha : GE ⟨a0, a1, a2, a3⟩) (h1 : (Lit.int .i16 i).wf = true) (h2 : (Lit.int .i16 j).wf = true) : ∃ k, furrowlaw12_LiftMeans.f k a0 a1 a2 a3 i j = some true := by
  suffices h : Says (fun k => furrowlaw12_LiftMeans.f k a0 a1 a2 a3 i j) true from h.elim fun K hK => ⟨K, hK K (Nat.le_refl _)⟩
  have hi := i16_of h1
  have hj := i16_of h2
  have ei : wrap64 i = i := w64 (by omega)
  have ej : wrap64 j = j := w64 (by omega)
  obtain ⟨y, hr, sy⟩ := of_spec _ ha
  obtain ⟨f1, hf1, few1⟩ := few_spec _ ha
  simp only at sy hf1
  have yes : Says (fun k => furrowlaw12_LiftMeans.j0 k i j true a0 a1 a2 a3 y.f0 y.f1 y.f2 y.f3) true := .step (fun k => furrowlaw12_LiftMeans.j0.eq_2 ..) (.pos rfl .now)
  refine .eq (fun k => furrowlaw12_LiftMeans.f.eq_1 ..) (.bind (v := true) known12 (.pos rfl (.bind sy (.bind hf1 ?_))))
  cases f1 with
  | false => exact .neg (by simp) yes
  | true =>
  obtain ⟨r1, hr1, right⟩ := right_spec hr (few1 rfl)
  refine .pos rfl (.bind hr1 ?_)
  cases r1 with
  | false => exact yes
  | true =>
  refine .step (fun k => furrowlaw12_LiftMeans.j0.eq_2 ..) (.neg (by simp) ?_)
  rcases told hi hj hr (right rfl) (nr_of ha) with ⟨l, m, ps, er, ne, s⟩ | ⟨a, b, K, ia, ib, iK, s, o, v⟩
  · exact .bind s (.neg ne .now)
  · have hof : Says (fun k => lift_Of.f k a0 a1 a2 a3 L2) ([a, b], K, []) := .eq (fun k => lift_Of.f.eq_1 ..) (.bind o (.pos rfl .now))
    have sm : Says (fun k => furrowref14_Same.f k [a, b] K [a, b] K) true := ⟨20, fun k hk => by
      show furrowref14_Same.f k [a, b] K [a, b] K = some true
      rw [rsame_spec (by simp) (by simp) (by simp; omega), sameS_refl]; simp⟩
    have e : wrap64 (a * i + b * j + K) = wrap64 (wrap64 (wrap64 (a * wrap64 i) + wrap64 (b * wrap64 j)) + K) := by
      rw [ei, ej]
      generalize a * i = p
      generalize b * j = q
      unfold wrap64; omega
    have v : Says (fun k => furrowref10_Eval.f k T2 2 [wrap64 i, wrap64 j] y.f0 y.f1 y.f2 y.f3) (wrap64 (a * i + b * j + K), [], 0) := by rw [ei, ej]; exact v
    exact .bind s (.pos rfl (.bind hof (.bind v (.pos (by rfl) (.pos (by rfl) (.pos rfl (.pos (by simp) (.pos (by simp) (.pos e (.bind (v := ([a, b], K)) ⟨0, fun _ _ => rfl⟩ (.bind sm .now)))))))))))

end Go.Proofs.YtnkckdbjeemjeaaGreatDoor.Pure
