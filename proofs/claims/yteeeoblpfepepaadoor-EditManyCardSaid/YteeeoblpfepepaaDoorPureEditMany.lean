/- EditMany over lists. -/
import Derived.Test.YteeeoblpfepepaaDoorPureEd2
import Derived.Test.YteeeoblpfepepaaDoorPureKnown
import Derived.Test.YteeeoblpfepepaaDoorHandQ
import Derived.Laws.Bits64
namespace Go.Proofs.YteeeoblpfepepaaDoor.Pure
open Go.RowKit Go.Proofs.YteeeoblpfepepaaDoor.X Go.Proofs.YteeeoblpfepepaaDoor.Flt Go.Proofs.YteeeoblpfepepaaDoor.H Go.Proofs.YteeeoblpfepepaaDoorW.PrintWords Go.Proofs.YteeeoblpfepepaaDoorW.PrintLast Go.Proofs.YteeeoblpfepepaaDoorW.PrintMore
set_option linter.unusedVariables false
set_option linter.unusedSimpArgs false
theorem ap_take {x : List ByteArray} {D : List S38} {s : Int} (ho : okE x.length (some s) D) (h0 : 0 ≤ s) (hs : s ≤ (x.length : Int)) : (ap x 0 D).take s.toNat = x.take s.toNat ∧ (ap x 0 D).drop s.toNat = ap x s D ∧ s ≤ ((ap x 0 D).length : Int) := by
  have key : (ap x 0 D).take s.toNat = x.take s.toNat ∧ (ap x 0 D).drop s.toNat = ap x s D := by
    cases D with
    | nil => simp [ap]
    | cons d D =>
      obtain ⟨⟨o1, o2, o3⟩, o4, o5⟩ := ho
      have o6 := o4 s rfl
      have hl : (x.take d.f0.toNat).length = d.f0.toNat := by rw [List.length_take]; omega
      simp only [ap, Int.toNat_zero, List.drop_zero]
      refine ⟨?_, ?_⟩
      · rw [List.take_append_of_le_length (by rw [hl]; omega), List.take_take, Nat.min_eq_left (by omega)]
      · rw [List.drop_append_of_le_length (by rw [hl]; omega)]
  refine ⟨key.1, key.2, ?_⟩
  have h := congrArg List.length key.1
  rw [List.length_take, List.length_take] at h
  omega
theorem ok_drop {n : Int} : ∀ (d : Nat) (l : List S38) (p : Option Int), okE n p l → ∃ q, okE n q (l.drop d)
  | 0, l, p, h => ⟨p, h⟩
  | d + 1, [], p, h => ⟨p, trivial⟩
  | d + 1, e :: l, p, h => ok_drop d l (some e.f1) h.2.2
theorem many_l {x : List ByteArray} {l : List S38} (hx : x.length ≤ 40) (hl : l.length ≤ 20) (hf : ∀ e ∈ l, e.f2.length ≤ 20) (ho : okE x.length none l) : ∀ (d k : Nat), d ≤ l.length → 2000 + d < k → furrowlaw3_EditMany.l0 k l (ap x 0 l) (ap x 0 (l.drop d)) ((d : Int) - 1) = some true := by
  intro d
  induction d with
  | zero =>
    intro k hd hk
    obtain ⟨k, rfl⟩ : ∃ m, k = m + 1 := ⟨k - 1, by omega⟩
    have h4 := ap_length l 0 (ok_none ho (by omega)) (by omega) (by omega)
    have h5 : tot l ≤ 400 := Nat.le_trans (tot_le (b := 20) hf) (by omega)
    rw [furrowlaw3_EditMany.l0, if_neg (by omega), List.drop_zero, same_lines (by omega) (by omega)]
    rfl
  | succ d ih =>
    intro k hd hk
    obtain ⟨k, rfl⟩ : ∃ m, k = m + 1 := ⟨k - 1, by omega⟩
    have hi : (d : Int) < (l.length : Int) := by omega
    have hdr := rdT_drop (l := l) (i := (d : Int)) (by omega) hi
    rw [Int.toNat_natCast, show ((d : Int) + 1).toNat = d + 1 by omega] at hdr
    obtain ⟨q, hq⟩ := ok_drop d l none ho
    rw [hdr] at hq
    obtain ⟨⟨o1, o2, o3⟩, _, o5⟩ := hq
    have hfe := hf _ (rd_mem (l := l) (i := (d : Int)) (by omega) hi)
    obtain ⟨t1, t2, t3⟩ := ap_take o5 (by omega) o3
    have hD : ∀ e ∈ l.drop (d + 1), e.f2.length ≤ 20 := fun e he => hf e (List.mem_of_mem_drop he)
    have h4 := ap_length (l.drop (d + 1)) 0 (ok_weak o5 (by omega)) (by omega) (by omega)
    have h6 := tot_le (b := 20) hD
    rw [List.length_drop] at h6
    have h5 : tot (l.drop (d + 1)) ≤ 400 := by omega
    have hF : Few (ap x 0 (l.drop (d + 1))) [rd_T38 l (d : Int)] := ⟨by omega, by simp, fun e he => by rw [List.mem_singleton.1 he]; omega⟩
    have hok : okE (ap x 0 (l.drop (d + 1))).length none [rd_T38 l (d : Int)] := ⟨⟨o1, o2, t3⟩, fun t h => absurd h (by simp), trivial⟩
    have hap : ap (ap x 0 (l.drop (d + 1))) 0 [rd_T38 l (d : Int)] = ap x 0 (l.drop d) := by
      obtain ⟨s1, _, _⟩ := ap_take (D := l.drop (d + 1)) (s := (rd_T38 l (d : Int)).f0) (ok_weak o5 o2) o1 (by omega)
      rw [hdr]
      simp only [ap, Int.toNat_zero, List.drop_zero]
      rw [s1, t2]
    rw [show ((d + 1 : Nat) : Int) - 1 = (d : Int) by omega, furrowlaw3_EditMany.l0, if_pos (by omega), if_pos (by omega), if_pos hi, apply_ok hF (by omega) hok, Option.bind_some]
    rw [if_pos (by first | trivial | rfl), hap, w64 (by omega)]
    exact ih k (by omega) (by omega)
theorem editmany_true {x : List ByteArray} {l : List S38} {k : Nat} (hk : 50000 ≤ k) : furrowlaw3_EditMany.f k x l = some true := by
  unfold furrowlaw3_EditMany.f
  rw [known_more (by omega)]
  simp only [Option.bind_some, if_true]
  obtain ⟨b, hb, hb2⟩ := few_spec (x := x) (l := l) (k := k) (by omega)
  rw [hb]
  simp only [Option.bind_some]
  cases b with
  | false => rw [if_neg (by simp)]
  | true =>
    rw [if_pos rfl]
    obtain ⟨h1, h2, h3⟩ := hb2 rfl
    have hF : Few x l := ⟨by omega, by omega, fun e he => by have := h3 e he; omega⟩
    cases hc : chkS x.length 0 none l with
    | none =>
      have ho := (chk_ok l 0 none).1 hc
      rw [apply_ok hF (by omega) ho, Option.bind_some, if_pos (by first | trivial | rfl), w64 (by omega)]
      have h := many_l h1 h2 h3 ho l.length k (Nat.le_refl _) (by omega)
      rw [List.drop_length, show ap x 0 [] = x by simp [ap]] at h
      exact h
    | some y =>
      rw [apply_no h2 (by omega) hc, Option.bind_some, if_neg (by simp [flE])]

end Go.Proofs.YteeeoblpfepepaaDoor.Pure
