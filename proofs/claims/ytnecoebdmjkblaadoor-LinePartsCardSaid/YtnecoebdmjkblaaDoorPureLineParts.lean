/- LineParts over bytes alone. -/
import Derived.Test.YtnecoebdmjkblaaDoorPureLi2
import Derived.Test.YtnecoebdmjkblaaDoorPureKnown
import Derived.Test.YtnecoebdmjkblaaDoorXx5
import Derived.Test.YtnecoebdmjkblaaDoorHandX
import Derived.Laws.Bits64
namespace Go.Proofs.YtnecoebdmjkblaaDoor.Pure
open Go.RowKit Go.Proofs.YtnecoebdmjkblaaDoor.X Go.Proofs.YtnecoebdmjkblaaDoor.Flt Go.Proofs.YtnecoebdmjkblaaDoor.H Go.Proofs.YtnecoebdmjkblaaDoorW.PrintWords Go.Proofs.YtnecoebdmjkblaaDoorW.PrintLast Go.Proofs.YtnecoebdmjkblaaDoorW.PrintMore
set_option linter.unusedVariables false
set_option linter.unusedSimpArgs false
def tw (c : UInt8) (l : List UInt8) : Nat := (l.takeWhile (fun b => b != c)).length
theorem tw_le (c : UInt8) (l : List UInt8) : tw c l ≤ l.length := (List.takeWhile_sublist _).length_le
theorem tw_cons (c b : UInt8) (l : List UInt8) : tw c (b :: l) = if b = c then 0 else tw c l + 1 := by
  unfold tw
  rw [List.takeWhile_cons]
  by_cases h : b = c
  · simp [h]
  · have : (b != c) = true := by simpa using h
    rw [this, if_neg h]; rfl
theorem idx_spec (c : UInt8) : ∀ l : List UInt8, Lib.indexByte l c = if tw c l < l.length then (tw c l : Int) else -1
  | [] => rfl
  | b :: l => by
    have ih := idx_spec c l
    have hle := tw_le c l
    unfold Lib.indexByte
    rw [tw_cons, ih]
    by_cases h : b = c
    · subst h; simp
    · have hb : (b == c) = false := by simpa using h
      rw [hb, if_neg h]
      simp only [Bool.false_eq_true, if_false, List.length_cons]
      by_cases ht : tw c l < l.length
      · rw [if_pos ht]
        have : ((tw c l : Int) == -1) = false := by rw [beq_eq_false_iff_ne]; omega
        rw [this, if_neg (by decide), if_pos (show tw c l + 1 < l.length + 1 by omega)]; rfl
      · rw [if_neg ht, if_pos (by decide), if_neg (show ¬ (tw c l + 1 < l.length + 1) by omega)]
theorem tw_take (c : UInt8) : ∀ l : List UInt8, ∀ x ∈ l.take (tw c l), x ≠ c
  | [], x, h => by simp at h
  | b :: l, x, h => by
    rw [tw_cons] at h
    by_cases hb : b = c
    · rw [if_pos hb] at h; simp at h
    · rw [if_neg hb, List.take_succ_cons] at h
      rcases List.mem_cons.1 h with rfl | h
      · exact hb
      · exact tw_take c l x h
theorem tw_drop (c : UInt8) (l : List UInt8) (i : Nat) (hi : i < l.length) : tw c (l.drop i) = if l[i] = c then 0 else tw c (l.drop (i + 1)) + 1 := by
  rw [List.drop_eq_getElem_cons hi, tw_cons]
theorem parts_l0 (l : List UInt8) (e : ByteArray) (hl : l.length ≤ 1000000) : ∀ (d i k : Nat), i + d = l.length → d < k →
    furrowref4_Parts.l0 k (BA l) e (i : Int) = some (BA (l.take (i + tw 33 (l.drop i))), BA (l.drop (i + tw 33 (l.drop i))), e)
  | 0, i, k, hi, hk => by
    obtain ⟨k, rfl⟩ : ∃ m, k = m + 1 := ⟨k - 1, by omega⟩
    have hn : l.drop i = [] := List.drop_eq_nil_of_le (by omega)
    have ht : i + tw 33 (l.drop i) = l.length := by rw [hn]; simp [tw]; omega
    simp only [furrowref4_Parts.l0]
    rw [BA_size, if_neg (by omega), ht, List.take_of_length_le (Nat.le_refl _), List.drop_eq_nil_of_le (Nat.le_refl _)]
  | d + 1, i, k, hi, hk => by
    obtain ⟨k, rfl⟩ : ∃ m, k = m + 1 := ⟨k - 1, by omega⟩
    have hlt : i < l.length := by omega
    have hw : wrap64 ((i : Int) + 1) = ((i + 1 : Nat) : Int) := by unfold wrap64; omega
    have hb : bt (BA l) (i : Int) = (l[i].toNat : Int) := bt_list (BA l) i hlt
    have ih := parts_l0 l e hl d (i + 1) k (by omega) (by omega)
    simp only [furrowref4_Parts.l0]
    rw [BA_size, if_pos (show (i : Int) < (l.length : Int) by omega), if_pos (show (0 : Int) ≤ (i : Int) by omega), hb, hw, ih, tw_drop 33 l i hlt]
    by_cases h : l[i] = 33
    · have h' : (l[i].toNat : Int) = 33 := by rw [h]; rfl
      rw [if_pos h', if_pos (show (i : Int) ≤ (l.length : Int) by omega), if_pos h, Int.toNat_natCast, extract_mid _ _ _ (by omega), extract_mid _ _ _ (Nat.le_refl _), List.take_of_length_le (i := l.length - i) (by rw [List.length_drop]; omega)]
      simp
    · have h' : ¬ ((l[i].toNat : Int) = 33) := by intro e'; apply h; apply UInt8.toNat_inj.1; show l[i].toNat = 33; omega
      have e1 : i + 1 + tw 33 (l.drop (i + 1)) = i + (tw 33 (l.drop (i + 1)) + 1) := by omega
      rw [if_neg h', if_neg h, e1]
/-- Does a line end with an end? its text ahead of that. -/
def hasE (l : List UInt8) : Bool := l.getLast? == some 10
def bodyE (l : List UInt8) : List UInt8 := if hasE l then l.take (l.length - 1) else l
def endE (l : List UInt8) : List UInt8 := if hasE l then [10] else []
theorem bodyE_end (l : List UInt8) : bodyE l ++ endE l = l := by
  unfold bodyE endE
  by_cases h : hasE l = true
  · rw [if_pos h, if_pos h]
    have h1 : l.getLast? = some 10 := by unfold hasE at h; exact eq_of_beq h
    have hne : l ≠ [] := by intro e; rw [e] at h1; cases h1
    rw [List.getLast?_eq_some_getLast hne] at h1
    have h2 := List.dropLast_concat_getLast hne
    rw [Option.some.inj h1, List.dropLast_eq_take] at h2
    exact h2
  · rw [if_neg h, if_neg h]; simp
theorem bodyE_len (l : List UInt8) : (bodyE l).length ≤ l.length := by unfold bodyE; split <;> simp
theorem suffix_E (l : List UInt8) : Lib.hasSuffix l [10] = hasE l := by
  unfold Lib.hasSuffix hasE
  rw [Bool.eq_iff_iff, List.isSuffixOf_iff_suffix, beq_iff_eq]
  constructor
  · rintro ⟨t, rfl⟩; simp
  · intro h
    have hne : l ≠ [] := by intro e; rw [e] at h; cases h
    rw [List.getLast?_eq_some_getLast hne] at h
    exact ⟨l.dropLast, by have h2 := List.dropLast_concat_getLast hne; rw [Option.some.inj h] at h2; exact h2⟩
theorem part_spec (l : List UInt8) (hl : l.length ≤ 1000000) : line_Part.f (BA l) = some (BA ((bodyE l).take (tw 33 (bodyE l))), BA ((bodyE l).drop (tw 33 (bodyE l))), BA (endE l)) := by
  have hcut : strings_CutSuffix.f (BA l) ⟨#[10]⟩ = some (BA (bodyE l), hasE l) := by
    unfold strings_CutSuffix.f
    rw [BA_size, if_pos (by omega)]
    show some (BA (Lib.trimSuffix l [10]), Lib.hasSuffix l [10]) = _
    unfold Lib.trimSuffix
    rw [suffix_E]; rfl
  have hbl := bodyE_len l
  have htl := tw_le 33 (bodyE l)
  have hidx : strings_IndexByte.f (BA (bodyE l)) 33 = some (if tw 33 (bodyE l) < (bodyE l).length then (tw 33 (bodyE l) : Int) else -1) := by
    unfold strings_IndexByte.f
    exact congrArg some (idx_spec 33 (bodyE l))
  unfold line_Part.f
  rw [hcut, Option.bind_some]
  dsimp only
  rw [hidx, Option.bind_some]
  have key : ∀ e : ByteArray, (if (if tw 33 (bodyE l) < (bodyE l).length then (tw 33 (bodyE l) : Int) else -1) ≥ 0 then (if 0 ≤ (if tw 33 (bodyE l) < (bodyE l).length then (tw 33 (bodyE l) : Int) else -1) then (if (if tw 33 (bodyE l) < (bodyE l).length then (tw 33 (bodyE l) : Int) else -1) ≤ ((BA (bodyE l)).size : Int) then (some ((BA (bodyE l)).extract 0 ((if tw 33 (bodyE l) < (bodyE l).length then (tw 33 (bodyE l) : Int) else -1) : Int).toNat, (BA (bodyE l)).extract ((if tw 33 (bodyE l) < (bodyE l).length then (tw 33 (bodyE l) : Int) else -1) : Int).toNat (BA (bodyE l)).size, e)) else (none)) else (none)) else (some (BA (bodyE l), (⟨#[]⟩ : ByteArray), e))) = some (BA ((bodyE l).take (tw 33 (bodyE l))), BA ((bodyE l).drop (tw 33 (bodyE l))), e) := by
    intro e
    by_cases h : tw 33 (bodyE l) < (bodyE l).length
    · rw [if_pos h, if_pos (by omega), if_pos (by omega), BA_size, if_pos (by omega), Int.toNat_natCast, extract_mid _ _ _ (by omega), extract_mid _ _ _ (Nat.le_refl _), List.take_of_length_le (i := (bodyE l).length - _) (by rw [List.length_drop]; omega)]
      simp
    · rw [if_neg h, if_neg (by decide)]
      have ht : tw 33 (bodyE l) = (bodyE l).length := by omega
      rw [ht, List.take_of_length_le (Nat.le_refl _), List.drop_eq_nil_of_le (Nat.le_refl _)]
  cases hE : hasE l with
  | true =>
    rw [if_pos rfl]
    refine (key ⟨#[10]⟩).trans ?_
    unfold endE; rw [hE]; rfl
  | false =>
    rw [if_neg (by decide), Option.bind_some]
    refine (key ⟨#[]⟩).trans ?_
    unfold endE; rw [hE]; rfl
theorem rparts_j1 (b : List UInt8) (e : ByteArray) (hl : b.length ≤ 1000000) (k : Nat) (hk : b.length + 2 ≤ k) : furrowref4_Parts.j1 k (BA b) e = some (BA (b.take (tw 33 b)), BA (b.drop (tw 33 b)), e) := by
  obtain ⟨k, rfl⟩ : ∃ m, k = m + 1 := ⟨k - 1, by omega⟩
  simp only [furrowref4_Parts.j1]
  have h := parts_l0 b e hl b.length 0 k (by omega) (by omega)
  rw [List.drop_zero, Nat.zero_add] at h
  exact h
theorem rparts_spec (l : List UInt8) (hl : l.length ≤ 1000000) (k : Nat) (hk : l.length + 3 ≤ k) : furrowref4_Parts.f k (BA l) = some (BA ((bodyE l).take (tw 33 (bodyE l))), BA ((bodyE l).drop (tw 33 (bodyE l))), BA (endE l)) := by
  obtain ⟨k, rfl⟩ : ∃ m, k = m + 1 := ⟨k - 1, by omega⟩
  unfold furrowref4_Parts.f
  by_cases h0 : l = []
  · subst h0
    rw [if_neg (by rw [BA_size]; simp)]
    simp only [furrowref4_Parts.j0]
    rw [if_neg (by decide)]
    exact rparts_j1 [] _ (by simp) k (by simp at hk ⊢; omega)
  · have hp : 0 < l.length := List.length_pos_iff.2 h0
    have hw : wrap64 ((l.length : Int) - 1) = ((l.length - 1 : Nat) : Int) := by unfold wrap64; omega
    have hb : bt (BA l) ((l.length - 1 : Nat) : Int) = ((l[l.length - 1]'(by omega)).toNat : Int) := bt_list (BA l) _ (by show _ < l.length; omega)
    have hlast : l.getLast? = some (l[l.length - 1]'(by omega)) := by rw [List.getLast?_eq_getElem?, List.getElem?_eq_getElem]
    rw [BA_size, if_pos (by omega), hw, if_pos (by omega), if_pos (by omega), hb]
    by_cases h10 : l[l.length - 1]'(by omega) = 10
    · have hE : hasE l = true := by unfold hasE; rw [hlast, h10]; rfl
      have h' : (((l[l.length - 1]'(by omega)).toNat : Int) == 10) = true := by rw [h10]; rfl
      rw [h']
      simp only [furrowref4_Parts.j0]
      rw [if_pos True.intro, BA_size, hw, if_pos (by omega), if_pos (by omega), Int.toNat_natCast, extract_mid _ _ _ (by omega), List.drop_zero, Nat.sub_zero]
      have hbE : bodyE l = l.take (l.length - 1) := by unfold bodyE; rw [if_pos hE]
      have heE : BA (endE l) = ⟨#[10]⟩ := by unfold endE; rw [if_pos hE]
      rw [hbE, heE]
      exact rparts_j1 _ _ (by simp; omega) k (by simp; omega)
    · have hE : hasE l = false := by unfold hasE; rw [hlast]; simpa using h10
      have h' : (((l[l.length - 1]'(by omega)).toNat : Int) == 10) = false := by
        rw [beq_eq_false_iff_ne]; intro e; apply h10; apply UInt8.toNat_inj.1; show _ = 10; omega
      rw [h']
      simp only [furrowref4_Parts.j0]
      rw [if_neg (by decide)]
      have hbE : bodyE l = l := by unfold bodyE; rw [hE]; rfl
      have heE : BA (endE l) = ⟨#[]⟩ := by unfold endE; rw [hE]; rfl
      rw [hbE, heE]
      exact rparts_j1 _ _ hl k (by omega)
def blank (b : UInt8) : Bool := [(32 : UInt8), 9].contains b
def bw (l : List UInt8) : Nat := (l.takeWhile blank).length
theorem indent_spec (l : List UInt8) (hl : l.length ≤ 1000000) : line_Indent.f (BA l) = some (BA (l.take (bw l))) := by
  have htr : strings_TrimLeft.f (BA l) ⟨#[32, 9]⟩ = some (BA (l.dropWhile blank)) := by
    unfold strings_TrimLeft.f
    rw [if_pos (by decide), if_pos (by decide)]
    rfl
  have hlen : (l.takeWhile blank).length + (l.dropWhile blank).length = l.length := by rw [← List.length_append, List.takeWhile_append_dropWhile]
  unfold line_Indent.f
  rw [htr, Option.bind_some, BA_size, BA_size]
  have hw : wrap64 ((l.length : Int) - ((l.dropWhile blank).length : Int)) = (bw l : Int) := by unfold wrap64 bw; omega
  have hb : bw l ≤ l.length := by unfold bw; omega
  rw [hw, if_pos (by omega), if_pos (by omega), Int.toNat_natCast, extract_mid _ _ _ hb, List.drop_zero, Nat.sub_zero]
theorem bw_drop (l : List UInt8) (i : Nat) (hi : i < l.length) : bw (l.drop i) = if blank l[i] then bw (l.drop (i + 1)) + 1 else 0 := by
  unfold bw
  rw [List.drop_eq_getElem_cons hi, List.takeWhile_cons]
  split <;> simp_all
theorem rindent_l0 (l : List UInt8) (hl : l.length ≤ 1000000) : ∀ (d i k : Nat), i + d = l.length → d < k → furrowref4_Indent.l0 k (BA l) (i : Int) = some (BA (l.take (i + bw (l.drop i))))
  | 0, i, k, hi, hk => by
    obtain ⟨k, rfl⟩ : ∃ m, k = m + 1 := ⟨k - 1, by omega⟩
    have hn : l.drop i = [] := List.drop_eq_nil_of_le (by omega)
    simp only [furrowref4_Indent.l0]
    rw [BA_size, if_neg (by omega), if_pos (by omega), if_pos (by omega), Int.toNat_natCast, extract_mid _ _ _ (by omega), hn]
    simp [bw]
  | d + 1, i, k, hi, hk => by
    obtain ⟨k, rfl⟩ : ∃ m, k = m + 1 := ⟨k - 1, by omega⟩
    have hlt : i < l.length := by omega
    have hw : wrap64 ((i : Int) + 1) = ((i + 1 : Nat) : Int) := by unfold wrap64; omega
    have hb : bt (BA l) (i : Int) = (l[i].toNat : Int) := bt_list (BA l) i hlt
    have ih := rindent_l0 l hl d (i + 1) k (by omega) (by omega)
    have hk1 : i + 1 + bw (l.drop (i + 1)) = i + (bw (l.drop (i + 1)) + 1) := by omega
    simp only [furrowref4_Indent.l0]
    rw [BA_size, if_pos (by omega), if_pos (by omega), hb, hw, ih, bw_drop l i hlt]
    by_cases h32 : l[i] = 32
    · rw [if_pos (by rw [h32]; rfl), if_pos (by rw [h32]; rfl), hk1]
    · have h32' : ¬ ((l[i].toNat : Int) = 32) := by intro e; apply h32; apply UInt8.toNat_inj.1; show _ = 32; omega
      rw [if_neg h32']
      by_cases h9 : l[i] = 9
      · rw [if_pos (by rw [h9]; rfl), if_pos (by rw [h9]; rfl), hk1]
      · have h9' : ¬ ((l[i].toNat : Int) = 9) := by intro e; apply h9; apply UInt8.toNat_inj.1; show _ = 9; omega
        have hbl : blank l[i] = false := by unfold blank; simp [h32, h9]
        rw [if_neg h9', if_pos (by omega), hbl, Int.toNat_natCast, extract_mid _ _ _ (by omega)]
        simp
theorem rindent_spec (l : List UInt8) (hl : l.length ≤ 1000000) (k : Nat) (hk : l.length < k) : furrowref4_Indent.f k (BA l) = some (BA (l.take (bw l))) := by
  unfold furrowref4_Indent.f
  have h := rindent_l0 l hl l.length 0 k (by omega) hk
  rw [List.drop_zero, Nat.zero_add] at h
  exact h
theorem lp_l0 (s b n e : List UInt8) (hs : (b ++ n) ++ e = s) (hl : s.length ≤ 1000000) (hb : ∀ x ∈ b, x ≠ 33) : ∀ (d i k : Nat), i + d = b.length → d < k → furrowlaw2_LineParts.l0 k (BA s) (BA b) (BA n) (BA e) (i : Int) = some true
  | 0, i, k, hi, hk => by
    obtain ⟨k, rfl⟩ : ∃ m, k = m + 1 := ⟨k - 1, by omega⟩
    have hz : b.length + n.length + e.length ≤ 1000000 := by rw [← hs] at hl; simp at hl; omega
    simp only [furrowlaw2_LineParts.l0]
    rw [BA_size, if_neg (by omega), if_pos (by rw [BA_size]; omega), if_pos (by rw [ByteArray.size_append, BA_size, BA_size, BA_size]; omega), ByteArray.toList_eq, ByteArray.toList_eq]
    have hd : ((BA b ++ BA n) ++ BA e).data.toList = s := by rw [← hs]; simp [ByteArray.data_append]
    rw [hd]; simp
  | d + 1, i, k, hi, hk => by
    obtain ⟨k, rfl⟩ : ∃ m, k = m + 1 := ⟨k - 1, by omega⟩
    have hlt : i < b.length := by omega
    have hz : b.length + n.length + e.length ≤ 1000000 := by rw [← hs] at hl; simp at hl; omega
    have hw : wrap64 ((i : Int) + 1) = ((i + 1 : Nat) : Int) := by unfold wrap64; omega
    have hbt : bt (BA b) (i : Int) = (b[i].toNat : Int) := bt_list (BA b) i hlt
    have h33 : ¬ ((b[i].toNat : Int) = 33) := by intro e'; apply hb _ (List.getElem_mem hlt); apply UInt8.toNat_inj.1; show _ = 33; omega
    simp only [furrowlaw2_LineParts.l0]
    rw [BA_size, if_pos (by omega), if_pos (by omega), hbt, if_neg h33, hw]
    exact lp_l0 s b n e hs hl hb d (i + 1) k (by omega) (by omega)
theorem lineparts_true (l : List UInt8) : furrowlaw2_LineParts.f 1000 (BA l) = some true := by
  unfold furrowlaw2_LineParts.f
  rw [known_yes, Option.bind_some, if_pos rfl, BA_size]
  by_cases h4 : 400 < l.length
  · rw [if_pos (by omega)]
  · rw [if_neg (by omega), part_spec l (by omega), Option.bind_some, rparts_spec l (by omega) 1000 (by omega), Option.bind_some]
    dsimp only
    rw [if_pos rfl, if_pos rfl, if_pos rfl, indent_spec l (by omega), Option.bind_some, rindent_spec l (by omega) 1000 (by omega), Option.bind_some, bne_self_eq_false]
    simp only [furrowlaw2_LineParts.j0]
    rw [if_neg (by decide)]
    have hbl := bodyE_len l
    exact lp_l0 l _ _ _ (by rw [List.take_append_drop, bodyE_end]) (by omega) (tw_take 33 (bodyE l)) _ 0 999 (by rw [Nat.zero_add]) (by rw [List.length_take]; omega)
theorem LineParts : furrowlaw2_LineParts.Pure := fun s _ => ⟨1000, lineparts_true s.data.toList⟩

end Go.Proofs.YtnecoebdmjkblaaDoor.Pure
