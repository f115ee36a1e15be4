/- Numbers that grow too great are told as such. -/
import Derived.Test.YtnkckdbjeemjeaaDoorPureLo1
import Derived.Test.YtnkckdbjeemjeaaDoorPureKnown
import Derived.Test.YtnkckdbjeemjeaaDoorYy5
import Derived.Laws.Bits64
namespace Go.Proofs.YtnkckdbjeemjeaaDoor.Pure
open Go.RowKit Go.Proofs.YtnkckdbjeemjeaaDoor.X Go.Proofs.YtnkckdbjeemjeaaDoor.Flt Go.Proofs.YtnkckdbjeemjeaaDoor.H Go.Proofs.YtnkckdbjeemjeaaDoorW.PrintWords Go.Proofs.YtnkckdbjeemjeaaDoorW.PrintLast Go.Proofs.YtnkckdbjeemjeaaDoorW.PrintMore
set_option linter.unusedVariables false
set_option linter.unusedSimpArgs false
theorem u8_of {a : Int} (h : (Lit.int .u8 a).wf = true) : 0 ≤ a ∧ a ≤ 255 := by
  simp [Lit.wf, IntKind.min, IntKind.max, IntKind.signed, IntKind.bits] at h
  omega
def twoP : List S55 := [⟨liftS, 0⟩, ⟨formS, 0⟩]
theorem tells2_eq : furrowlaw2_Tells2.f deepE twoP 5 = some true := by unfold furrowlaw2_Tells2.f; exact if_pos ⟨rfl, rfl, rfl⟩
theorem lo_end {a1 i v : Int} {o : Bool} {e : S26} (hi : ¬ i < wrap64 (Int.tmod a1 10)) (h : St e v o) : Says (fun k => Y.furrowlaw12_LiftOver.l0 k a1 v o i e.f0 e.f1 e.f2 e.f3) true := by
  obtain ⟨hv, h⟩ := h
  have h0 := h [] [] (.inl ⟨rfl, rfl⟩)
  have h1 := h [iS] [0] (.inr ⟨rfl, rfl⟩)
  obtain ⟨p0, p1, p2, p3⟩ := e
  cases o with
  | true =>
    obtain ⟨l0, m0, h0⟩ := h0
    obtain ⟨l1, m1, h1⟩ := h1
    have v0 : Says (fun k => Y.lift_Value.f k p0 p1 p2 p3) (0, deepE) := .eq (fun k => Y.lift_Value.f.eq_1 ..) (.bind (Of_err h0) .now)
    have hf : Says (fun k => Y.lift_Of.f k 5 0 eS [⟨p0, p1, p2, p3⟩, ⟨2, 0, iS, []⟩] [iS]) ([], 0, deepE) := Of_err (ofs_add_err h1)
    refine .step (fun k => Y.furrowlaw12_LiftOver.l0.eq_2 ..) (.neg hi (.bind v0 (.bind (v := (2, 0, iS, [])) ⟨0, fun _ _ => rfl⟩ (.bind (v := ((5 : Int), (0 : Int), eS, ([⟨p0, p1, p2, p3⟩, ⟨2, 0, iS, []⟩] : List S26))) ⟨0, fun _ _ => rfl⟩ (.bind hf (.pos rfl ?_))))))
    exact .bind (v := (([⟨formS, 0⟩] : List S55), (5 : Int))) ⟨0, fun _ _ => rfl⟩ (.bind (v := (twoP, (5 : Int))) ⟨0, fun _ _ => rfl⟩ (.bind (v := true) ⟨0, fun _ _ => tells2_eq⟩ (.pos rfl (.bind (v := true) ⟨0, fun _ _ => tells2_eq⟩ .now))))
  | false =>
    have v0 : Says (fun k => Y.lift_Value.f k p0 p1 p2 p3) (v, []) := .eq (fun k => Y.lift_Value.f.eq_1 ..) (.bind (Of_ok h0) .now)
    have hf : Says (fun k => Y.lift_Of.f k 5 0 eS [⟨p0, p1, p2, p3⟩, ⟨2, 0, iS, []⟩] [iS]) ([1], v, []) := Of_ok (ofs_add hv h1)
    refine .step (fun k => Y.furrowlaw12_LiftOver.l0.eq_2 ..) (.neg hi (.bind v0 (.bind (v := (2, 0, iS, [])) ⟨0, fun _ _ => rfl⟩ (.bind (v := ((5 : Int), (0 : Int), eS, ([⟨p0, p1, p2, p3⟩, ⟨2, 0, iS, []⟩] : List S26))) ⟨0, fun _ _ => rfl⟩ (.bind hf (.neg (by decide) (.pos rfl (.pos rfl ⟨0, fun _ _ => ?_⟩))))))))
    simp
theorem lo_loop {a1 : Int} (ha : 0 ≤ a1 ∧ a1 ≤ 255) (d : Nat) : ∀ (e : S26) (v : Int) (o : Bool) (i : Int), 0 ≤ i → wrap64 (Int.tmod a1 10) - i ≤ d → St e v o → Says (fun k => Y.furrowlaw12_LiftOver.l0 k a1 v o i e.f0 e.f1 e.f2 e.f3) true := by
  have hw : wrap64 (Int.tmod a1 10) ≤ 255 := by
    have h1 : Int.tmod a1 10 = a1 % 10 := Int.tmod_eq_emod_of_nonneg ha.1
    rw [h1, w64 (by omega)]; omega
  induction d with
  | zero => exact fun e v o i h0 hd hs => lo_end (by omega) hs
  | succ d ih =>
    intro e v o i h0 hd hs
    by_cases hi : i < wrap64 (Int.tmod a1 10)
    · have hm := st_mul hs
      have hv := hs.1
      have hr := ih (mul100 e) (chk (100 * v)).1 (o || !(chk (100 * v)).2) (i + 1) (by omega) (by omega) hm
      obtain ⟨p0, p1, p2, p3⟩ := e
      refine .step (fun k => Y.furrowlaw12_LiftOver.l0.eq_2 ..) (.pos hi (.bind (v := (1, 100, eS, [])) ⟨0, fun _ _ => rfl⟩ (.bind (v := ((7 : Int), (0 : Int), eS, ([⟨1, 100, eS, []⟩, ⟨p0, p1, p2, p3⟩] : List S26))) ⟨0, fun _ _ => rfl⟩ (.bind (v := chk (100 * v)) ⟨2, fun k hk => rmul_spec hk r100 hv⟩ ?_))))
      rw [w64 (a := i + 1) (by omega)]
      cases o with
      | true => exact .pos rfl hr
      | false => exact .neg (by decide) hr
    · exact lo_end hi hs
theorem liftover_true {a0 a1 : Int} (h0 : (Lit.int .i64 a0).wf = true) (h1 : (Lit.int .u8 a1).wf = true) : Says (fun k => Y.furrowlaw12_LiftOver.f k a0 a1) true :=
  .eq (fun k => Y.furrowlaw12_LiftOver.f.eq_1 ..) (.bind known12 (.pos rfl (.bind (v := (1, a0, eS, [])) ⟨0, fun _ _ => rfl⟩ (lo_loop (u8_of h1) 300 ⟨1, a0, eS, []⟩ a0 false 0 (by omega) (by
    have h := u8_of h1
    have h2 : Int.tmod a1 10 = a1 % 10 := Int.tmod_eq_emod_of_nonneg h.1
    rw [h2, w64 (by omega)]; omega) (st_num (i64_of h0))))))
theorem LiftOver : Y.furrowlaw12_LiftOver.Pure := fun a0 a1 h0 h1 => (liftover_true h0 h1).elim fun K hK => ⟨K, hK K (Nat.le_refl _)⟩

end Go.Proofs.YtnkckdbjeemjeaaDoor.Pure
