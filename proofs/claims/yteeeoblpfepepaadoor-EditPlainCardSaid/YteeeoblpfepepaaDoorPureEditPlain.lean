/- EditPlain over lists. -/
import Derived.Test.YteeeoblpfepepaaDoorPureEd2
import Derived.Test.YteeeoblpfepepaaDoorPureKnown
import Derived.Test.YteeeoblpfepepaaDoorHandP
import Derived.Laws.Bits64
namespace Go.Proofs.YteeeoblpfepepaaDoor.Pure
open Go.RowKit Go.Proofs.YteeeoblpfepepaaDoor.X Go.Proofs.YteeeoblpfepepaaDoor.Flt Go.Proofs.YteeeoblpfepepaaDoor.H Go.Proofs.YteeeoblpfepepaaDoorW.PrintWords Go.Proofs.YteeeoblpfepepaaDoorW.PrintLast Go.Proofs.YteeeoblpfepepaaDoorW.PrintMore
set_option linter.unusedVariables false
set_option linter.unusedSimpArgs false
theorem u8_of {a : Int} (h : (Lit.int .u8 a).wf = true) : 0 ≤ a ∧ a ≤ 255 := by
  simp only [Lit.wf, IntKind.min, IntKind.max, IntKind.signed, IntKind.bits, Bool.and_eq_true, decide_eq_true_eq] at h
  simp at h
  omega

theorem plain_j1 {x p : List ByteArray} {F T k : Nat} (hFT : F ≤ T) (hT : T ≤ x.length) (hx : x.length ≤ 40) (hp : p.length ≤ 20) (hk : 1000 < k) : furrowlaw3_EditPlain.j1 (k + 1) x p (F : Int) (T : Int) (x.take F ++ (p ++ x.drop T)) false = some true := by
  have hF : (x.take F).length = F := by rw [List.length_take]; omega
  have hl : (x.take F ++ (p ++ x.drop T)).length = F + p.length + (x.length - T) := by rw [List.length_append, List.length_append, hF, List.length_drop]; omega
  have e1 : (x.take F ++ (p ++ x.drop T)).take F = x.take F := List.take_left' hF
  have e2 : ((x.take F ++ (p ++ x.drop T)).take (F + p.length)).drop F = p := by
    have h := mid_cut (x.take F) p (x.drop T)
    rwa [hF] at h
  have e3 : (x.take F ++ (p ++ x.drop T)).drop (F + p.length) = x.drop T := by
    rw [← List.append_assoc]
    exact List.drop_left' (by rw [List.length_append, hF])
  have s1 : (x.take F).length ≤ 40 := by rw [List.length_take]; omega
  have s2 : (x.drop T).length ≤ 40 := by rw [List.length_drop]; omega
  rw [furrowlaw3_EditPlain.j1, if_neg (by simp), if_pos (by omega), if_pos (by omega), if_pos (by omega), Int.toNat_natCast, e1, same_lines (by omega) (by omega)]
  rw [Option.bind_some, if_pos rfl, w64 (by omega), if_pos (by omega), if_pos (by omega), show ((F : Int) + (p.length : Int)).toNat = F + p.length by omega, e2, same_lines (by omega) (by omega)]
  rw [Option.bind_some, if_pos rfl, if_pos (by omega), if_pos (by omega), if_pos (by omega), e3, Int.toNat_natCast, same_lines (by omega) (by omega)]
  rfl
theorem plain_j0 {x p : List ByteArray} {a b : Int} {k : Nat} (ha : 0 ≤ a ∧ a ≤ 255) (hb : 0 ≤ b ∧ b ≤ 255) (hk : 50000 ≤ k) (c : Bool) (hc : c = false → x.length ≤ 40 ∧ p.length ≤ 20) : furrowlaw3_EditPlain.j0 (k + 2) x a b p c = some true := by
  rw [furrowlaw3_EditPlain.j0]
  cases c with
  | true => rw [if_pos rfl]
  | false =>
    obtain ⟨hx, hp⟩ := hc rfl
    rw [if_neg (by simp)]
    rw [w64 (a := a) (by omega), w64 (a := b) (by omega), w64 (a := (x.length : Int) + 1) (by omega), Int.tmod_eq_emod_of_nonneg (a := a) ha.1]
    have h1 := Int.emod_nonneg a (show (x.length : Int) + 1 ≠ 0 by omega)
    have h2 := Int.emod_lt_of_pos a (show 0 < (x.length : Int) + 1 by omega)
    generalize a % ((x.length : Int) + 1) = f at h1 h2 ⊢
    rw [w64 (a := (x.length : Int) - f) (by omega), w64 (a := (x.length : Int) - f + 1) (by omega), Int.tmod_eq_emod_of_nonneg (a := b) hb.1]
    have h3 := Int.emod_nonneg b (show (x.length : Int) - f + 1 ≠ 0 by omega)
    have h4 := Int.emod_lt_of_pos b (show 0 < (x.length : Int) - f + 1 by omega)
    generalize b % ((x.length : Int) - f + 1) = g at h3 h4 ⊢
    rw [w64 (a := f + g) (by omega), if_neg (by omega), if_neg (by omega)]
    obtain ⟨F, rfl⟩ : ∃ F : Nat, f = F := ⟨f.toNat, by omega⟩
    obtain ⟨T, hT⟩ : ∃ T : Nat, (F : Int) + g = T := ⟨((F : Int) + g).toNat, by omega⟩
    rw [hT]
    have ho : okE x.length none [⟨(F : Int), (T : Int), p⟩] := ⟨⟨by simp only; omega, by simp only; omega, by simp only; omega⟩, fun t h => absurd h (by simp), trivial⟩
    have hap : ap x 0 [⟨(F : Int), (T : Int), p⟩] = x.take F ++ (p ++ x.drop T) := by simp [ap]
    have hF : Few x [⟨(F : Int), (T : Int), p⟩] := ⟨by omega, by simp, fun e he => by rw [List.mem_singleton.1 he]; simp only; omega⟩
    have hap0 : ap x 0 [] = x := by simp [ap]
    rw [apply_ok hF (by omega) ho, apply_ok (x := x) (l := []) (k := k + 1) ⟨by omega, by simp, by simp⟩ (by omega) trivial, hap, hap0]
    simp only [Option.bind_some, List.length_nil]
    rw [if_pos (by first | trivial | rfl), if_pos (by first | trivial | rfl), w64 (a := (T : Int) - (F : Int)) (by omega), w64 (a := (x.length : Int) - _) (by omega), w64 (by omega), if_pos (by simp only [List.length_append, List.length_take, List.length_drop]; omega), same_lines (by omega) (by omega)]
    simp only [Option.bind_some, Bool.not_true]
    exact plain_j1 (by omega) (by omega) hx hp (by omega)
theorem editplain_true {x p : List ByteArray} {a b : Int} {k : Nat} (ha : (Lit.int .u8 a).wf = true) (hb : (Lit.int .u8 b).wf = true) (hk : 50000 ≤ k) : furrowlaw3_EditPlain.f (k + 2) x a b p = some true := by
  replace ha := u8_of ha
  replace hb := u8_of hb
  unfold furrowlaw3_EditPlain.f
  rw [known_more (by omega)]
  simp only [Option.bind_some, if_true]
  by_cases c : (x.length : Int) > 40
  · rw [if_pos c, plain_j0 ha hb hk _ (fun h => absurd h (by simp))]
  · rw [if_neg c, plain_j0 ha hb hk _ (fun h => by have := of_decide_eq_false h; omega)]

end Go.Proofs.YteeeoblpfepepaaDoor.Pure
