/- Plain lemmas on the document's Split. -/
import Derived.Test.YtnecoebdmjkblaaDoorPureLi2
import Derived.Test.YtnecoebdmjkblaaDoorXx3
import Derived.Test.YtnecoebdmjkblaaDoorXx2
import Derived.Test.YtnecoebdmjkblaaDoorHandE
import Derived.Test.YtnecoebdmjkblaaDoorHandX
import Derived.Laws.Bits64
namespace Go.Proofs.YtnecoebdmjkblaaDoor.Pure
open Go.RowKit Go.Proofs.YtnecoebdmjkblaaDoor.X Go.Proofs.YtnecoebdmjkblaaDoor.Flt Go.Proofs.YtnecoebdmjkblaaDoor.H Go.Proofs.YtnecoebdmjkblaaDoorW.PrintWords Go.Proofs.YtnecoebdmjkblaaDoorW.PrintLast Go.Proofs.YtnecoebdmjkblaaDoorW.PrintMore
set_option linter.unusedVariables false
set_option linter.unusedSimpArgs false
/-! the document's Split -/
theorem rd_map (ls : List (List UInt8)) (i : Nat) (h : i < ls.length) : rdOf ByteArray.empty (ls.map BA) (i : Int) = BA ls[i] := by
  unfold rdOf
  rw [Int.toNat_natCast, List.getD_eq_getElem?_getD, List.getElem?_map, List.getElem?_eq_getElem h]
  rfl
def refE (ls : List (List UInt8)) : Option (Nat × Int) → List ByteArray × List S63 × Int
  | none => (ls.map BA, [], 0)
  | some (i, c) => ([], [⟨lineW, (i : Int)⟩], c)
theorem split_l1 (ls : List (List UInt8)) (i : Nat) (hi : i < ls.length) (R : List ByteArray × List S63 × Int) (hlen : ls[i].length ≤ 200) (hbig : ls.length ≤ 1000000) (h : ∃ K, ∀ k, K ≤ k → furrowref4_Split.l0 k (ls.map BA) ((i + 1 : Nat) : Int) = some R) :
    ∀ (e j : Nat), j + e = ls[i].length → ∃ K, ∀ k, K ≤ k → furrowref4_Split.l1 k (ls.map BA) (i : Int) (j : Int) = some (if (ls[i].drop j).any badN then ([], [⟨lineW, (i : Int)⟩], 3) else R)
  | 0, j, hj => by
    obtain ⟨K, hK⟩ := h
    refine ⟨K + 1, fun k hk => ?_⟩
    obtain ⟨k, rfl⟩ : ∃ m, k = m + 1 := ⟨k - 1, by omega⟩
    have hw : wrap64 ((i : Int) + 1) = ((i + 1 : Nat) : Int) := by unfold wrap64; omega
    simp only [furrowref4_Split.l1]
    rw [rd_map ls i hi, BA_size, if_pos (by omega), if_pos (by rw [List.length_map]; omega), if_neg (by omega), hw, hK k (by omega), List.drop_eq_nil_of_le (by omega)]
    rfl
  | e + 1, j, hj => by
    obtain ⟨K, hK⟩ := split_l1 ls i hi R hlen hbig h e (j + 1) (by omega)
    refine ⟨K + 1, fun k hk => ?_⟩
    obtain ⟨k, rfl⟩ : ∃ m, k = m + 1 := ⟨k - 1, by omega⟩
    have hlt : j < ls[i].length := by omega
    have hw : wrap64 ((j : Int) + 1) = ((j + 1 : Nat) : Int) := by unfold wrap64; omega
    have hb : bt (BA ls[i]) (j : Int) = (ls[i][j].toNat : Int) := bt_list (BA ls[i]) j hlt
    have hd : ls[i].drop j = ls[i][j] :: ls[i].drop (j + 1) := List.drop_eq_getElem_cons hlt
    simp only [furrowref4_Split.l1]
    rw [rd_map ls i hi, BA_size, if_pos (by omega), if_pos (by rw [List.length_map]; omega), if_pos (by omega), if_pos (by omega), hb, hw, hK k (by omega), hd, List.any_cons]
    generalize hc : ls[i][j].toNat = c
    have hbd : badN ls[i][j] = ((decide (c < 32) || decide (126 < c)) && c != 9 && c != 10) := by unfold badN; rw [hc]
    rw [hbd]
    by_cases h1 : c < 32
    · rw [if_pos (by omega)]
      by_cases h9 : c = 9
      · rw [if_pos (by omega)]; simp [h9]
      · rw [if_neg (by omega)]
        by_cases h10 : c = 10
        · rw [if_pos (by omega)]; simp [h10]
        · rw [if_neg (by omega)]; simp [h1, h9, h10, furrowref4_At.f, lineW]
    · rw [if_neg (by omega)]
      by_cases h2 : 126 < c
      · rw [if_pos (by omega), if_neg (by omega), if_neg (by omega)]
        have h9 : c ≠ 9 := by omega
        have h10 : c ≠ 10 := by omega
        simp [h2, h9, h10, furrowref4_At.f, lineW]
      · rw [if_neg (by omega)]; simp [h1, h2]
theorem split_l0 (ls : List (List UInt8)) (hbig : ls.length ≤ 1000000) : ∀ (d i : Nat), i + d = ls.length → ∃ K, ∀ k, K ≤ k → furrowref4_Split.l0 k (ls.map BA) (i : Int) = some (refE ls (fb i (ls.drop i)))
  | 0, i, hi => ⟨1, fun k hk => by
      obtain ⟨k, rfl⟩ : ∃ m, k = m + 1 := ⟨k - 1, by omega⟩
      simp only [furrowref4_Split.l0]
      rw [if_neg (by rw [List.length_map]; omega), List.drop_eq_nil_of_le (by omega)]
      rfl⟩
  | d + 1, i, hi => by
    have hlt : i < ls.length := by omega
    have ih := split_l0 ls hbig d (i + 1) (by omega)
    have hd : ls.drop i = ls[i] :: ls.drop (i + 1) := List.drop_eq_getElem_cons hlt
    by_cases h200 : 200 < ls[i].length
    · refine ⟨1, fun k hk => ?_⟩
      obtain ⟨k, rfl⟩ : ∃ m, k = m + 1 := ⟨k - 1, by omega⟩
      simp only [furrowref4_Split.l0]
      rw [rd_map ls i hlt, BA_size, if_pos (by rw [List.length_map]; omega), if_pos (by omega), if_pos (by omega), hd]
      unfold fb chk
      rw [if_pos h200]
      simp [furrowref4_At.f, refE, lineW]
    · obtain ⟨K, hK⟩ := split_l1 ls i hlt _ (by omega) hbig ih ls[i].length 0 (by omega)
      refine ⟨K + 1, fun k hk => ?_⟩
      obtain ⟨k, rfl⟩ : ∃ m, k = m + 1 := ⟨k - 1, by omega⟩
      simp only [furrowref4_Split.l0]
      rw [rd_map ls i hlt, BA_size, if_pos (by rw [List.length_map]; omega), if_pos (by omega), if_neg (by omega)]
      refine (hK k (by omega)).trans ?_
      rw [hd, List.drop_zero]
      conv => rhs; unfold fb chk
      rw [if_neg h200]
      by_cases hb : ls[i].any badN = true
      · rw [if_pos hb, if_pos hb]; rfl
      · rw [if_neg hb, if_neg hb]
theorem rsplit_spec (l : List UInt8) (h : l.length ≤ 65536) (hls : (lns l).length ≤ 1000000) : ∃ K, ∀ k, K ≤ k → furrowref4_Split.f k (BA l) = some (refE (lns l) (fb 0 (lns l))) := by
  obtain ⟨K, hK⟩ := split_l0 (lns l) hls (lns l).length 0 (by omega)
  refine ⟨K + l.length + 1, fun k hk => ?_⟩
  unfold furrowref4_Split.f
  rw [BA_size, if_neg (by omega), lines_spec l (by omega) k (by omega)]
  simp only [Option.bind_some]
  exact hK k (by omega)
theorem rsplit_long (l : List UInt8) (h : 65536 < l.length) (k : Nat) : furrowref4_Split.f k (BA l) = some ([], [⟨⟨#[116, 101, 120, 116]⟩, 0⟩], 4) := by
  unfold furrowref4_Split.f
  rw [BA_size, if_pos (by omega)]; rfl
theorem lns_count (l : List UInt8) : (lns l).length ≤ l.length := by
  induction l with
  | nil => simp [lns]
  | cons c r ih =>
    unfold lns
    split
    · simp; omega
    · split
      · simp
      · rename_i h; rw [h] at ih; simp at ih ⊢; omega
theorem fb_code : ∀ (ls : List (List UInt8)) (i : Nat) (y : Nat × Int), fb i ls = some y → y.2 = 3 ∨ y.2 = 4
  | [], i, y, h => by simp [fb] at h
  | p :: ps, i, y, h => by
    unfold fb at h
    split at h
    · rename_i c hc
      cases h
      unfold chk at hc
      split at hc
      · cases hc; exact .inr rfl
      · split at hc
        · cases hc; exact .inl rfl
        · cases hc
    · exact fb_code ps (i + 1) y h
theorem tells_fb (ls : List (List UInt8)) (i : Nat) : furrowlaw2_Tells.f (splitE ls (fb i ls)).2 (refE ls (fb i ls)).2.1 (refE ls (fb i ls)).2.2 = some true := by
  cases h : fb i ls with
  | none => rfl
  | some y =>
    obtain ⟨j, c⟩ := y
    have hc := fb_code ls i _ h
    have h0 : c ≠ 0 := by rcases hc with e | e <;> (simp only at e; omega)
    simp [furrowlaw2_Tells.f, splitE, refE, h0]
theorem same_loop (ls : List ByteArray) (hb : ls.length ≤ 1000000) : ∀ (d i k : Nat), i + d = ls.length → d < k → furrowref4_SameLines.l0 k ls ls (i : Int) = some true
  | 0, i, k, hi, hk => by
    obtain ⟨k, rfl⟩ : ∃ m, k = m + 1 := ⟨k - 1, by omega⟩
    simp only [furrowref4_SameLines.l0]
    rw [if_neg (by omega)]
  | d + 1, i, k, hi, hk => by
    obtain ⟨k, rfl⟩ : ∃ m, k = m + 1 := ⟨k - 1, by omega⟩
    have hw : wrap64 ((i : Int) + 1) = ((i + 1 : Nat) : Int) := by unfold wrap64; omega
    simp only [furrowref4_SameLines.l0]
    rw [if_pos (by omega), if_pos (by omega), if_pos (by omega), if_pos True.intro, hw]
    exact same_loop ls hb d (i + 1) k (by omega) (by omega)
theorem same_self (ls : List ByteArray) (hb : ls.length ≤ 1000000) (k : Nat) (hk : ls.length < k) : furrowref4_SameLines.f k ls ls = some true := by
  unfold furrowref4_SameLines.f
  rw [if_pos rfl]
  exact same_loop ls hb ls.length 0 k (by omega) hk
theorem join_spec (ls : List (List UInt8)) (h : ls.length ≤ 1000000) (h' : ls.flatten.length ≤ 1000000) : line_Join.f (ls.map BA) = some (BA ls.flatten) := by
  have hm : (ls.map BA).map (·.data.toList) = ls := by rw [List.map_map]; conv => rhs; rw [← List.map_id ls]
                                                       rfl
  unfold line_Join.f
  rw [hm, if_pos ⟨by rw [List.length_map]; omega, by omega⟩]

end Go.Proofs.YtnecoebdmjkblaaDoor.Pure
