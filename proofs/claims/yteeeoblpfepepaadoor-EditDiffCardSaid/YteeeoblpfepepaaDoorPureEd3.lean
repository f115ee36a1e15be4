/- Plain lemmas on edits: the edit from lines to lines. -/
import Derived.Test.YteeeoblpfepepaaDoorPureEd2
import Derived.Test.YteeeoblpfepepaaDoorXx13
import Derived.Test.YteeeoblpfepepaaDoorXx1
import Derived.Test.YteeeoblpfepepaaDoorXx2
import Derived.Test.YteeeoblpfepepaaDoorXx5
import Derived.Test.YteeeoblpfepepaaDoorHandN
import Derived.Laws.Bits64
namespace Go.Proofs.YteeeoblpfepepaaDoor.Pure
open Go.RowKit Go.Proofs.YteeeoblpfepepaaDoor.X Go.Proofs.YteeeoblpfepepaaDoor.Flt Go.Proofs.YteeeoblpfepepaaDoor.H Go.Proofs.YteeeoblpfepepaaDoorW.PrintWords Go.Proofs.YteeeoblpfepepaaDoorW.PrintLast Go.Proofs.YteeeoblpfepepaaDoorW.PrintMore
set_option linter.unusedVariables false
set_option linter.unusedSimpArgs false
/-! the edit from any lines to any others -/
theorem ba_inj {a b : ByteArray} : a.toList = b.toList ↔ a = b := by
  refine ⟨fun h => ?_, fun h => by rw [h]⟩
  rw [ByteArray.toList_eq, ByteArray.toList_eq] at h
  cases a with | mk a => cases b with | mk b => exact congrArg ByteArray.mk (Array.toList_inj.1 h)
theorem rdB_drop {x : List ByteArray} {i : Int} (h0 : 0 ≤ i) (h : i < (x.length : Int)) : x.drop i.toNat = rdOf ByteArray.empty x i :: x.drop (i + 1).toNat := by
  have hn : i.toNat < x.length := by omega
  have e : (i + 1).toNat = i.toNat + 1 := by omega
  rw [List.drop_eq_getElem_cons hn, e]
  congr 1
  simp [rdOf, List.getD, hn]
theorem equal_l {x y : List ByteArray} (hx : x.length < 1000) (hxy : x.length = y.length) (d : Nat) : ∀ (k : Nat) (i : Int), 0 ≤ i → (x.length : Int) - i = d → d < k → slices_Equal_string_string.l0 k x y (x.length : Int) i = some (decide (x.drop i.toNat = y.drop i.toNat)) := by
  induction d with
  | zero =>
    intro k i h0 hd hk
    obtain ⟨k, rfl⟩ : ∃ m, k = m + 1 := ⟨k - 1, by omega⟩
    rw [slices_Equal_string_string.l0, if_neg (by omega), dropT_end (by omega), dropT_end (by omega)]
    simp
  | succ d ih =>
    intro k i h0 hd hk
    obtain ⟨k, rfl⟩ : ∃ m, k = m + 1 := ⟨k - 1, by omega⟩
    rw [slices_Equal_string_string.l0, if_pos (by omega), if_pos h0, if_pos (by omega), if_pos (by omega), rdB_drop (x := x) h0 (by omega), rdB_drop (x := y) h0 (by omega)]
    by_cases c : rdOf ByteArray.empty x i = rdOf ByteArray.empty y i
    · rw [if_pos (ba_inj.2 c), w64 (by omega), ih k (i + 1) (by omega) (by omega) (by omega), c]
      simp
    · rw [if_neg (fun h => c (ba_inj.1 h))]
      simp [c]
theorem equal_spec {x y : List ByteArray} {k : Nat} (hx : x.length < 1000) (hk : 1000 < k) : slices_Equal_string_string.f k x y = some (decide (x = y)) := by
  unfold slices_Equal_string_string.f
  by_cases c : (x.length : Int) = (y.length : Int)
  · rw [if_pos c, equal_l hx (by omega) x.length k 0 (by omega) (by omega) (by omega)]
    simp
  · rw [if_neg c]
    have : x ≠ y := fun h => c (by rw [h])
    simp [this]
theorem lines_l {x y : List ByteArray} (hx : x.length < 1000) (hxy : x.length = y.length) (d : Nat) : ∀ (k : Nat) (i : Int), 0 ≤ i → (x.length : Int) - i = d → d < k → furrowref4_SameLines.l0 k x y i = some (decide (x.drop i.toNat = y.drop i.toNat)) := by
  induction d with
  | zero =>
    intro k i h0 hd hk
    obtain ⟨k, rfl⟩ : ∃ m, k = m + 1 := ⟨k - 1, by omega⟩
    rw [furrowref4_SameLines.l0, if_neg (by omega), dropT_end (by omega), dropT_end (by omega)]
    simp
  | succ d ih =>
    intro k i h0 hd hk
    obtain ⟨k, rfl⟩ : ∃ m, k = m + 1 := ⟨k - 1, by omega⟩
    rw [furrowref4_SameLines.l0, if_pos (by omega), if_pos h0, if_pos (by omega), rdB_drop (x := x) h0 (by omega), rdB_drop (x := y) h0 (by omega)]
    by_cases c : rdOf ByteArray.empty x i = rdOf ByteArray.empty y i
    · rw [if_pos (ba_inj.2 c), w64 (by omega), ih k (i + 1) (by omega) (by omega) (by omega), c]
      simp
    · rw [if_neg (fun h => c (ba_inj.1 h))]
      simp [c]
theorem lines_spec {x y : List ByteArray} {k : Nat} (hx : x.length < 1000) (hk : 1000 < k) : furrowref4_SameLines.f k x y = some (decide (x = y)) := by
  unfold furrowref4_SameLines.f
  by_cases c : (x.length : Int) = (y.length : Int)
  · rw [if_pos c, lines_l hx (by omega) x.length k 0 (by omega) (by omega) (by omega)]
    simp
  · rw [if_neg c]
    have : x ≠ y := fun h => c (by rw [h])
    simp [this]
def cp : List ByteArray → List ByteArray → Nat
  | a :: x, b :: y => if a = b then cp x y + 1 else 0
  | _, _ => 0
theorem cp_nil {x : List ByteArray} : cp x [] = 0 := by cases x <;> rfl
theorem cp_le : ∀ x y : List ByteArray, cp x y ≤ x.length ∧ cp x y ≤ y.length ∧ x.take (cp x y) = y.take (cp x y)
  | [], _ => by simp [cp]
  | _ :: _, [] => by simp [cp]
  | a :: x, b :: y => by
    have h := cp_le x y
    simp only [cp]
    split
    · next e => subst e; simp only [List.length_cons, List.take_succ_cons]; exact ⟨by omega, by omega, by rw [h.2.2]⟩
    · simp
theorem alike_l {x y : List ByteArray} (hx : x.length < 1000) (d : Nat) : ∀ (k : Nat) (i : Int), 0 ≤ i → (x.length : Int) - i = d → d < k → edit_alike.l0 k x y i = some (i + cp (x.drop i.toNat) (y.drop i.toNat)) := by
  induction d with
  | zero =>
    intro k i h0 hd hk
    obtain ⟨k, rfl⟩ : ∃ m, k = m + 1 := ⟨k - 1, by omega⟩
    rw [edit_alike.l0, if_neg (by omega), dropT_end (l := x) (by omega)]
    simp [cp]
  | succ d ih =>
    intro k i h0 hd hk
    obtain ⟨k, rfl⟩ : ∃ m, k = m + 1 := ⟨k - 1, by omega⟩
    rw [edit_alike.l0, if_pos (by omega)]
    by_cases hy : i < (y.length : Int)
    · rw [if_pos hy, if_pos h0, rdB_drop (x := x) h0 (by omega), rdB_drop (x := y) h0 (by omega)]
      simp only [cp]
      by_cases c : rdOf ByteArray.empty x i = rdOf ByteArray.empty y i
      · rw [if_pos (ba_inj.2 c), w64 (by omega), ih k (i + 1) (by omega) (by omega) (by omega), if_pos c]
        congr 1; omega
      · rw [if_neg (fun h => c (ba_inj.1 h)), if_neg c]; simp
    · rw [if_neg hy, dropT_end (l := y) (by omega), cp_nil]; simp
theorem alike_spec {x y : List ByteArray} {k : Nat} (hx : x.length < 1000) (hk : 1000 < k) : edit_alike.f k x y = some (cp x y : Int) := by
  unfold edit_alike.f
  rw [alike_l hx x.length k 0 (by omega) (by omega) (by omega)]
  simp
theorem set_mid {P R : List ByteArray} {a v : ByteArray} {i : Nat} (h : i = P.length) : (P ++ a :: R).set i v = P ++ v :: R := by subst h; simp
theorem rd_mid {P R : List ByteArray} {a : ByteArray} {i : Int} (h0 : 0 ≤ i) (h : i.toNat = P.length) : rdOf ByteArray.empty (P ++ a :: R) i = a := by simp [rdOf, h]
theorem rev_l : ∀ (n : Nat) (M P Q : List ByteArray) (k : Nat), M.length = n → P.length = Q.length → P.length + n < 1000 → n < k → slices_Reverse_string_string.l0 k (P ++ M ++ Q) (P.length : Int) ((P.length : Int) + n - 1) = some (P ++ M.reverse ++ Q) := by
  intro n
  induction n using Nat.strongRecOn with
  | ind n ih =>
    intro M P Q k hM hPQ hb hk
    obtain ⟨k, rfl⟩ : ∃ m, k = m + 1 := ⟨k - 1, by omega⟩
    cases M with
    | nil => simp at hM; subst hM; rw [slices_Reverse_string_string.l0, if_neg (by omega)]; simp
    | cons a M1 =>
      rcases List.eq_nil_or_concat M1 with rfl | ⟨M', b, rfl⟩
      · simp at hM; subst hM; rw [slices_Reverse_string_string.l0, if_neg (by omega)]; simp
      · simp only [List.concat_eq_append, List.length_cons, List.length_append, List.length_nil] at hM ⊢
        have e1 : P ++ a :: (M' ++ [b]) ++ Q = P ++ a :: (M' ++ b :: Q) := by simp
        have e2 : P ++ b :: (M' ++ b :: Q) = (P ++ b :: M') ++ b :: Q := by simp
        have e3 : P ++ a :: (M' ++ b :: Q) = (P ++ a :: M') ++ b :: Q := by simp
        have r1 : rdOf ByteArray.empty (P ++ a :: (M' ++ b :: Q)) (P.length : Int) = a := rd_mid (by omega) (by omega)
        have r2 : rdOf ByteArray.empty (P ++ a :: (M' ++ b :: Q)) ((P.length : Int) + n - 1) = b := by rw [e3]; exact rd_mid (by omega) (by simp; omega)
        have hL : ((P ++ a :: (M' ++ b :: Q)).length : Int) = 2 * P.length + n := by simp; omega
        have I := ih (n - 2) (by omega) M' (P ++ [b]) (a :: Q) k (by omega) (by simp; omega) (by simp; omega) (by omega)
        have e4 : (((P ++ [b]).length : Nat) : Int) = (P.length : Int) + 1 := by simp
        rw [e4] at I
        rw [e1, slices_Reverse_string_string.l0, if_pos (by omega), if_pos (by omega), if_pos (by omega), if_pos (by omega), if_pos (by omega), r1, r2, set_mid (by omega), e2, set_mid (by simp; omega), w64 (by omega), w64 (by omega),
          show P ++ b :: M' ++ a :: Q = (P ++ [b]) ++ M' ++ a :: Q by simp, show (P.length : Int) + n - 1 - 1 = (P.length : Int) + 1 + ((n - 2 : Nat) : Int) - 1 by omega, I]
        simp
theorem rev_spec {x : List ByteArray} {k : Nat} (hx : x.length < 1000) (hk : 1000 < k) : slices_Reverse_string_string.f k x = some x.reverse := by
  unfold slices_Reverse_string_string.f
  have h := rev_l x.length x [] [] k rfl rfl (by simpa using hx) (by omega)
  simp only [List.nil_append, List.append_nil, List.length_nil] at h
  rw [w64 (by omega), ← h]
  congr 1
  omega
def cs (x y : List ByteArray) : Nat := cp (x.drop (cp x y)).reverse (y.drop (cp x y)).reverse
def dE (x y : List ByteArray) : S38 := ⟨(cp x y : Int), (x.length : Int) - cs x y, (y.take (y.length - cs x y)).drop (cp x y)⟩
theorem cs_le (x y : List ByteArray) : cp x y + cs x y ≤ x.length ∧ cp x y + cs x y ≤ y.length ∧ x.drop (x.length - cs x y) = y.drop (y.length - cs x y) := by
  obtain ⟨a1, a2, a3⟩ := cp_le x y
  obtain ⟨b1, b2, b3⟩ := cp_le (x.drop (cp x y)).reverse (y.drop (cp x y)).reverse
  simp only [List.length_reverse, List.length_drop] at b1 b2
  refine ⟨by unfold cs; omega, by unfold cs; omega, ?_⟩
  change List.take (cs x y) _ = List.take (cs x y) _ at b3
  rw [List.take_reverse, List.take_reverse, List.reverse_inj, List.drop_drop, List.drop_drop] at b3
  simp only [List.length_drop] at b3
  unfold cs at b3 ⊢
  rw [show x.length - cp (x.drop (cp x y)).reverse (y.drop (cp x y)).reverse = cp x y + (x.length - cp x y - cp (x.drop (cp x y)).reverse (y.drop (cp x y)).reverse) by omega, show y.length - cp (x.drop (cp x y)).reverse (y.drop (cp x y)).reverse = cp x y + (y.length - cp x y - cp (x.drop (cp x y)).reverse (y.drop (cp x y)).reverse) by omega]
  exact b3
theorem diff_spec {x y : List ByteArray} {k : Nat} (hx : x.length < 900) (hy : y.length < 900) (hk : 1000 < k) : edit_Diff.f k x y = some (if x = y then [] else [dE x y]) := by
  unfold edit_Diff.f
  rw [equal_spec (by omega) hk]
  simp only [Option.bind_some]
  by_cases c : x = y
  · rw [if_pos (by simp [c]), if_pos c]
  · rw [if_neg (by simp [c]), if_neg c, alike_spec (by omega) hk]
    obtain ⟨a1, a2, a3⟩ := cp_le x y
    obtain ⟨b1, b2, b3⟩ := cs_le x y
    simp only [Option.bind_some]
    rw [if_pos (by omega), if_pos (by omega), clone_eq (by simp; omega)]
    simp only [Option.bind_some]
    rw [if_pos (by omega), clone_eq (by simp; omega)]
    simp only [Option.bind_some, Int.toNat_natCast]
    rw [rev_spec (by simp; omega) hk, rev_spec (by simp; omega) hk]
    simp only [Option.bind_some]
    rw [alike_spec (by simp; omega) hk]
    simp only [Option.bind_some]
    rw [show cp (x.drop (cp x y)).reverse (y.drop (cp x y)).reverse = cs x y from rfl, w64 (a := (y.length : Int) - _) (by omega), w64 (a := (x.length : Int) - _) (by omega), if_pos (by omega), if_pos (by omega), clone_eq (by simp; omega)]
    simp only [Option.bind_some]
    rw [show ((y.length : Int) - (cs x y : Int)).toNat = y.length - cs x y by omega]
    rfl
theorem dE_ok (x y : List ByteArray) : okE x.length none [dE x y] := by
  obtain ⟨b1, b2, b3⟩ := cs_le x y
  exact ⟨⟨by simp only [dE]; omega, by simp only [dE]; omega, by simp only [dE]; omega⟩, fun t h => absurd h (by simp), trivial⟩
theorem dE_ap (x y : List ByteArray) : ap x 0 [dE x y] = y := by
  obtain ⟨a1, a2, a3⟩ := cp_le x y
  obtain ⟨b1, b2, b3⟩ := cs_le x y
  simp only [ap, dE]
  rw [show ((x.length : Int) - (cs x y : Int)).toNat = x.length - cs x y by omega, b3, Int.toNat_natCast, cut_cut y (by omega) (by omega), a3]
  exact cut_cut y (Nat.zero_le _) (by omega)

/-! the document's edit from lines to lines -/
theorem rd_rev {x : List ByteArray} {s : Nat} {t : Int} (h0 : 0 ≤ t) (h : (s : Int) + t < (x.length : Int)) : rdOf ByteArray.empty (x.drop s).reverse t = rdOf ByteArray.empty x ((x.length : Int) - 1 - t) := by
  unfold rdOf
  rw [List.getD_eq_getElem?_getD, List.getD_eq_getElem?_getD, List.getElem?_reverse (by simp; omega), List.getElem?_drop, List.length_drop]
  congr 2
  omega
theorem rexit {x y : List ByteArray} {t : Int} (ht : t = cs x y) (hx : x.length < 900) (hy : y.length < 900) : ((some (([] : List ByteArray) : List ByteArray)).bind fun y248 => (if 0 ≤ (cp x y : Int) then (if (cp x y : Int) ≤ (wrap64 ((y.length : Int) - t)) then (if (wrap64 ((y.length : Int) - t)) ≤ (y.length : Int) then (if y248.length + ((y.take ((wrap64 ((y.length : Int) - t)) : Int).toNat).drop ((cp x y : Int) : Int).toNat).length < 8796093022208 then (some (([(⟨(cp x y : Int), wrap64 ((x.length : Int) - t), (y248 ++ ((y.take ((wrap64 ((y.length : Int) - t)) : Int).toNat).drop ((cp x y : Int) : Int).toNat))⟩ : S60)] : List (S60)))) else (none)) else (none)) else (none)) else (none))) = some [toR (dE x y)] := by
  obtain ⟨a1, a2, a3⟩ := cp_le x y
  obtain ⟨b1, b2, b3⟩ := cs_le x y
  subst ht
  simp only [Option.bind_some]
  rw [w64 (a := (y.length : Int) - _) (by omega), w64 (a := (x.length : Int) - _) (by omega), if_pos (by omega), if_pos (by omega), if_pos (by omega), if_pos (by simp; omega), show ((y.length : Int) - (cs x y : Int)).toNat = y.length - cs x y by omega, Int.toNat_natCast]
  simp [toR, dE]
theorem rl1 {x y : List ByteArray} (hx : x.length < 900) (hy : y.length < 900) (d : Nat) : ∀ (k : Nat) (t : Int), 0 ≤ t → (x.length : Int) - cp x y - t = d → d < k → t + cp ((x.drop (cp x y)).reverse.drop t.toNat) ((y.drop (cp x y)).reverse.drop t.toNat) = cs x y →
    furrowref4_Diff.l1 k x y (cp x y : Int) t = some [toR (dE x y)] := by
  obtain ⟨a1, a2, a3⟩ := cp_le x y
  induction d with
  | zero =>
    intro k t h0 hd hk hc
    obtain ⟨k, rfl⟩ : ∃ m, k = m + 1 := ⟨k - 1, by omega⟩
    rw [dropT_end (l := (x.drop (cp x y)).reverse) (by simp; omega)] at hc
    rw [furrowref4_Diff.l1, w64 (a := (x.length : Int) - _) (by omega), if_neg (by omega)]
    exact rexit (by simpa [cp] using hc) hx hy
  | succ d ih =>
    intro k t h0 hd hk hc
    obtain ⟨k, rfl⟩ : ∃ m, k = m + 1 := ⟨k - 1, by omega⟩
    rw [furrowref4_Diff.l1, w64 (a := (x.length : Int) - (cp x y : Int)) (by omega), if_pos (by omega), w64 (a := (y.length : Int) - (cp x y : Int)) (by omega)]
    by_cases hyt : t < (y.length : Int) - (cp x y : Int)
    · rw [rdB_drop (x := (x.drop (cp x y)).reverse) h0 (by simp; omega), rdB_drop (x := (y.drop (cp x y)).reverse) h0 (by simp; omega), rd_rev h0 (by omega), rd_rev h0 (by omega)] at hc
      simp only [cp] at hc
      rw [if_pos hyt, w64 (a := (x.length : Int) - 1) (by omega), w64 (a := (y.length : Int) - 1) (by omega), w64 (a := (x.length : Int) - 1 - t) (by omega), w64 (a := (y.length : Int) - 1 - t) (by omega), if_pos (by omega), if_pos (by omega), if_pos (by omega), if_pos (by omega)]
      by_cases c : rdOf ByteArray.empty x ((x.length : Int) - 1 - t) = rdOf ByteArray.empty y ((y.length : Int) - 1 - t)
      · rw [if_pos c] at hc
        rw [if_pos (ba_inj.2 c), w64 (by omega)]
        exact ih k (t + 1) (by omega) (by omega) (by omega) (by omega)
      · rw [if_neg c] at hc
        rw [if_neg (fun h => c (ba_inj.1 h))]
        exact rexit (by simpa using hc) hx hy
    · rw [if_neg hyt]
      rw [dropT_end (l := (y.drop (cp x y)).reverse) (by simp; omega), cp_nil] at hc
      exact rexit (by simpa using hc) hx hy
theorem rj1 {x y : List ByteArray} (hx : x.length < 900) (hy : y.length < 900) {k : Nat} {i : Int} (hi : i = cp x y) (hk : 1000 < k) : furrowref4_Diff.j1 k x y i = some [toR (dE x y)] := by
  obtain ⟨k, rfl⟩ : ∃ m, k = m + 1 := ⟨k - 1, by omega⟩
  obtain ⟨a1, a2, a3⟩ := cp_le x y
  subst hi
  rw [furrowref4_Diff.j1, rl1 hx hy (x.length - cp x y) k 0 (by omega) (by omega) (by omega) (by simp [cs])]
theorem rl0 {x y : List ByteArray} (hx : x.length < 900) (hy : y.length < 900) (d : Nat) : ∀ (k : Nat) (i : Int), 0 ≤ i → (x.length : Int) - i = d → 1001 + d < k → i + cp (x.drop i.toNat) (y.drop i.toNat) = cp x y →
    furrowref4_Diff.l0 k x y i = some [toR (dE x y)] := by
  induction d with
  | zero =>
    intro k i h0 hd hk hc
    obtain ⟨k, rfl⟩ : ∃ m, k = m + 1 := ⟨k - 1, by omega⟩
    rw [dropT_end (l := x) (by omega)] at hc
    rw [furrowref4_Diff.l0, if_neg (by omega), rj1 hx hy (by simpa [cp] using hc) (by omega)]
  | succ d ih =>
    intro k i h0 hd hk hc
    obtain ⟨k, rfl⟩ : ∃ m, k = m + 1 := ⟨k - 1, by omega⟩
    rw [furrowref4_Diff.l0, if_pos (by omega)]
    by_cases hyi : i < (y.length : Int)
    · rw [rdB_drop (x := x) h0 (by omega), rdB_drop (x := y) h0 (by omega)] at hc
      simp only [cp] at hc
      rw [if_pos hyi, if_pos h0]
      by_cases c : rdOf ByteArray.empty x i = rdOf ByteArray.empty y i
      · rw [if_pos c] at hc
        rw [if_pos (ba_inj.2 c), w64 (by omega), ih k (i + 1) (by omega) (by omega) (by omega) (by omega)]
      · rw [if_neg c] at hc
        rw [if_neg (fun h => c (ba_inj.1 h)), rj1 hx hy (by simpa using hc) (by omega)]
    · rw [dropT_end (l := y) (by omega), cp_nil] at hc
      rw [if_neg hyi, rj1 hx hy (by simpa using hc) (by omega)]
theorem rdiff_spec {x y : List ByteArray} {k : Nat} (hx : x.length < 900) (hy : y.length < 900) (hk : 5000 < k) : furrowref4_Diff.f k x y = some (if x = y then [] else [toR (dE x y)]) := by
  unfold furrowref4_Diff.f
  rw [lines_spec (by omega) (by omega)]
  simp only [Option.bind_some]
  by_cases c : x = y
  · rw [if_pos (by simp [c]), if_pos c]
  · rw [if_neg (by simp [c]), if_neg c, rl0 hx hy x.length k 0 (by omega) (by omega) (by omega) (by simp)]

end Go.Proofs.YteeeoblpfepepaaDoor.Pure
