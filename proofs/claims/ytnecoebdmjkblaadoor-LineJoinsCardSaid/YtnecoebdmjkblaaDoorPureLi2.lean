/- Plain lemmas on the document's lines. -/
import Derived.Test.YtnecoebdmjkblaaDoorPureLi
import Derived.Test.YtnecoebdmjkblaaDoorXx2
import Derived.Laws.Bits64
namespace Go.Proofs.YtnecoebdmjkblaaDoor.Pure
open Go.RowKit Go.Proofs.YtnecoebdmjkblaaDoor.X Go.Proofs.YtnecoebdmjkblaaDoor.Flt Go.Proofs.YtnecoebdmjkblaaDoor.H Go.Proofs.YtnecoebdmjkblaaDoorW.PrintWords Go.Proofs.YtnecoebdmjkblaaDoorW.PrintLast Go.Proofs.YtnecoebdmjkblaaDoorW.PrintMore
set_option linter.unusedVariables false
set_option linter.unusedSimpArgs false
/-! the document's lines -/
theorem lns_cut (cur r : List UInt8) (h : ∀ c ∈ cur, c ≠ 10) : lns (cur ++ 10 :: r) = (cur ++ [10]) :: lns r := by
  induction cur with
  | nil => simp [lns]
  | cons c cs ih =>
    have hc : c ≠ 10 := h c (List.mem_cons_self ..)
    rw [List.cons_append]
    conv => lhs; unfold lns
    rw [if_neg hc, ih (fun x hx => h x (List.mem_cons_of_mem _ hx))]
    rfl
theorem lns_last (cur : List UInt8) (hne : cur ≠ []) (h : ∀ c ∈ cur, c ≠ 10) : lns cur = [cur] := by
  induction cur with
  | nil => exact absurd rfl hne
  | cons c cs ih =>
    have hc : c ≠ 10 := h c (List.mem_cons_self ..)
    unfold lns
    rw [if_neg hc]
    cases cs with
    | nil => rfl
    | cons d ds => rw [ih (by simp) (fun x hx => h x (List.mem_cons_of_mem _ hx))]
theorem extract_mid (l : List UInt8) (a b : Nat) (hb : b ≤ l.length) : (BA l).extract a b = BA ((l.drop a).take (b - a)) := by
  apply ByteArray.ext; apply Array.ext'; simp [ByteArray.data_extract]
theorem lines_loop (l : List UInt8) (hl : l.length ≤ 1000000) : ∀ (d i at_ k : Nat) (x : List (List UInt8)), i + d = l.length → at_ ≤ i → d < k → x.length + d ≤ 2000000 → (∀ c ∈ (l.drop at_).take (i - at_), c ≠ 10) →
    furrowref4_Lines.l0 k (BA l) (x.map BA) (at_ : Int) (i : Int) = some ((x ++ lns (l.drop at_)).map BA)
  | 0, i, at_, k, x, hi, ha, hk, hx, hc => by
    obtain ⟨k, rfl⟩ : ∃ m, k = m + 1 := ⟨k - 1, by omega⟩
    have hil : i = l.length := by omega
    simp only [furrowref4_Lines.l0]
    rw [BA_size, if_neg (by omega)]
    have ht : (l.drop at_).take (i - at_) = l.drop at_ := List.take_of_length_le (by rw [List.length_drop]; omega)
    rw [ht] at hc
    by_cases h : at_ < l.length
    · rw [if_pos (by omega), if_pos (by omega), if_pos (by omega), if_pos (by rw [List.length_map]; omega), Int.toNat_natCast, extract_mid _ _ _ (Nat.le_refl _)]
      have hne : l.drop at_ ≠ [] := by intro e; have := congrArg List.length e; rw [List.length_drop] at this; simp at this; omega
      rw [lns_last _ hne hc, List.take_of_length_le (by rw [List.length_drop]; omega)]
      simp
    · rw [if_neg (by omega), List.drop_eq_nil_of_le (by omega)]
      simp [lns]
  | d + 1, i, at_, k, x, hi, ha, hk, hx, hc => by
    obtain ⟨k, rfl⟩ : ∃ m, k = m + 1 := ⟨k - 1, by omega⟩
    have hlt : i < l.length := by omega
    have hw : wrap64 ((i : Int) + 1) = ((i + 1 : Nat) : Int) := by unfold wrap64; omega
    have hb : bt (BA l) (i : Int) = (l[i].toNat : Int) := bt_list (BA l) i hlt
    simp only [furrowref4_Lines.l0]
    rw [BA_size, if_pos (by omega), if_pos (by omega), hb, hw]
    have hs : (l.drop at_).take (i + 1 - at_) = (l.drop at_).take (i - at_) ++ [l[i]] := by
      rw [show i + 1 - at_ = (i - at_) + 1 by omega, List.take_add_one, List.getElem?_drop, show at_ + (i - at_) = i by omega, List.getElem?_eq_getElem hlt]
      rfl
    have hcut : l.drop at_ = (l.drop at_).take (i - at_) ++ l[i] :: l.drop (i + 1) := by
      have h1 := (List.take_append_drop (i - at_) (l.drop at_)).symm
      rw [List.drop_drop, show at_ + (i - at_) = i by omega, List.drop_eq_getElem_cons hlt] at h1
      exact h1
    by_cases h10 : l[i] = 10
    · have h10' : (l[i].toNat : Int) = 10 := by rw [h10]; rfl
      rw [if_pos h10', if_pos (by omega), if_pos (by omega), if_pos (by omega), if_pos (by rw [List.length_map]; omega), Int.toNat_natCast, Int.toNat_natCast, extract_mid _ _ _ (by omega), hs, h10]
      have ih := lines_loop l hl d (i + 1) (i + 1) k (x ++ [(l.drop at_).take (i - at_) ++ [10]]) (by omega) (Nat.le_refl _) (by omega) (by simp; omega) (by simp)
      rw [List.map_append] at ih
      refine ih.trans ?_
      rw [h10] at hcut
      conv => rhs; rw [hcut, lns_cut _ _ hc]
      simp
    · have h10' : ¬ ((l[i].toNat : Int) = 10) := by
        intro e
        apply h10
        apply UInt8.toNat_inj.1
        show l[i].toNat = 10
        omega
      rw [if_neg h10']
      exact lines_loop l hl d (i + 1) at_ k x (by omega) (by omega) (by omega) (by omega) (by
        rw [hs]; intro c hc'
        rcases List.mem_append.1 hc' with h | h
        · exact hc c h
        · rw [List.mem_singleton.1 h]; exact h10)
theorem lines_spec (l : List UInt8) (hl : l.length ≤ 1000000) : ∀ k, l.length < k → furrowref4_Lines.f k (BA l) = some ((lns l).map BA) := by
  intro k hk
  unfold furrowref4_Lines.f
  exact lines_loop l hl l.length 0 0 k [] (by omega) (Nat.le_refl _) hk (by simp; omega) (by simp)

end Go.Proofs.YtnecoebdmjkblaaDoor.Pure
