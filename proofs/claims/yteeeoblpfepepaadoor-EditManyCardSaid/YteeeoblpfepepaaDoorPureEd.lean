/- Plain lemmas on edits: what is wrong with them. -/
import Derived.Test.YteeeoblpfepepaaDoorXx11
import Derived.Test.YteeeoblpfepepaaDoorXx6
import Derived.Test.YteeeoblpfepepaaDoorHandE
import Derived.Test.YteeeoblpfepepaaDoorHandF
import Derived.Laws.Bits64
namespace Go.Proofs.YteeeoblpfepepaaDoor.Pure
open Go.RowKit Go.Proofs.YteeeoblpfepepaaDoor.X Go.Proofs.YteeeoblpfepepaaDoor.Flt Go.Proofs.YteeeoblpfepepaaDoor.H Go.Proofs.YteeeoblpfepepaaDoorW.PrintWords Go.Proofs.YteeeoblpfepepaaDoorW.PrintLast Go.Proofs.YteeeoblpfepepaaDoorW.PrintMore
set_option linter.unusedVariables false
set_option linter.unusedSimpArgs false
theorem w64 {a : Int} (h : -9223372036854775808 ≤ a ∧ a ≤ 9223372036854775807) : wrap64 a = a := by unfold wrap64; omega

/-! edits: what is wrong with them -/
theorem rdT_drop {l : List S38} {i : Int} (h0 : 0 ≤ i) (h : i < (l.length : Int)) : l.drop i.toNat = rd_T38 l i :: l.drop (i + 1).toNat := by
  have hn : i.toNat < l.length := by omega
  have e : (i + 1).toNat = i.toNat + 1 := by omega
  rw [List.drop_eq_getElem_cons hn, e]
  congr 1
  simp [rd_T38, List.getD, hn]
theorem dropT_end {α : Type} {l : List α} {i : Int} (h : (l.length : Int) ≤ i) : l.drop i.toNat = [] := List.drop_of_length_le (by omega)
def toR (e : S38) : S60 := ⟨e.f0, e.f1, e.f2⟩
theorem rdT_map {l : List S38} {i : Int} (h0 : 0 ≤ i) (h : i < (l.length : Int)) : rd_T60 (l.map toR) i = toR (rd_T38 l i) := by
  have hn : i.toNat < l.length := by omega
  simp [rd_T60, rd_T38, List.getD, hn]
def flE (i c : Int) : List Flt := [⟨⟨#[101, 100, 105, 116]⟩, i, some c⟩]
theorem efault_eq (i c : Int) : edit_fault.f i c = some (flE i c) := rfl
def rfE (i c : Int) : List S67 × Int := ([⟨⟨#[101, 100, 105, 116]⟩, i⟩], c)
theorem rat_eq (i c : Int) : furrowref4_At.f (⟨#[101, 100, 105, 116]⟩ : ByteArray) i c = some (rfE i c) := rfl
def badE (n : Int) (e : S38) : Bool := decide (e.f0 < 0) || decide (e.f1 < e.f0) || decide (e.f1 > n)
def overE (p : Option Int) (e : S38) : Bool := match p with | some t => decide (e.f0 ≤ t) | none => false
/-- the first fault: its place, its number -/
def chkS (n : Int) : Int → Option Int → List S38 → Option (Int × Int)
  | _, _, [] => none
  | i, p, e :: l => if badE n e = true then some (i, 1) else if overE p e = true then some (i, 7) else chkS n (i + 1) (some e.f1) l
def fltO : Option (Int × Int) → List Flt
  | none => []
  | some x => flE x.1 x.2
def refO : Option (Int × Int) → List S67 × Int
  | none => ([], 0)
  | some x => rfE x.1 x.2
def prevE (l : List S38) (i : Int) : Option Int := if i > 0 then some (rd_T38 l (i - 1)).f1 else none
theorem prev_next {l : List S38} {i : Int} (h : 0 ≤ i) : prevE l (i + 1) = some (rd_T38 l i).f1 := by
  unfold prevE
  rw [if_pos (by omega), show i + 1 - 1 = i by omega]
theorem check_j {l : List S38} {n i : Int} {k : Nat} {e : S38} (he : e = rd_T38 l i) (hl : l.length < 9223372036854775807) (h0 : 0 ≤ i) (hi : i < (l.length : Int)) (b : Bool) (r : Option (Int × Int))
    (hr : ∃ k', k = k' + 1 ∧ edit_Check.l0 k' n l l (l.length : Int) (i + 1) = some (fltO r)) :
    edit_Check.j1 k n l i l (l.length : Int) i b e.f0 e.f1 e.f2 = some (fltO (if b = true then some (i, 1) else if overE (prevE l i) e = true then some (i, 7) else r)) := by
  obtain ⟨k', rfl, hr⟩ := hr
  rw [edit_Check.j1]
  cases b with
  | true => rw [if_pos rfl, if_pos rfl, efault_eq]; rfl
  | false =>
    rw [if_neg (show ¬ (false = true) by simp), if_neg (show ¬ (false = true) by simp), w64 (a := i + 1) (by omega)]
    by_cases c : i > 0
    · rw [if_pos c, w64 (a := i - 1) (by omega), if_pos (by omega), if_pos (by omega)]
      unfold prevE overE
      rw [if_pos c]
      by_cases c2 : e.f0 ≤ (rd_T38 l (i - 1)).f1
      · rw [if_pos c2, efault_eq]; simp [c2, fltO]
      · rw [if_neg c2, hr]; simp [c2]
    · rw [if_neg c, hr]
      unfold prevE overE
      rw [if_neg c]
      simp
theorem check_l {l : List S38} {n : Int} (hl : l.length < 4611686018427387904) (d : Nat) :
    ∀ (k : Nat) (i : Int), 0 ≤ i → (l.length : Int) - i = d → 2 * d + 1 < k → edit_Check.l0 k n l l (l.length : Int) i = some (fltO (chkS n i (prevE l i) (l.drop i.toNat))) := by
  induction d with
  | zero =>
    intro k i h0 hd hk
    obtain ⟨k, rfl⟩ : ∃ m, k = m + 1 := ⟨k - 1, by omega⟩
    rw [edit_Check.l0, if_neg (by omega), dropT_end (by omega)]
    rfl
  | succ d ih =>
    intro k i h0 hd hk
    obtain ⟨k, rfl⟩ : ∃ m, k = m + 1 := ⟨k - 1, by omega⟩
    obtain ⟨k, rfl⟩ : ∃ m, k = m + 1 := ⟨k - 1, by omega⟩
    have hi : i < (l.length : Int) := by omega
    have r := ih k (i + 1) (by omega) (by omega) (by omega)
    have J := fun b => check_j (n := n) (k := k + 1) rfl (by omega) h0 hi b _ ⟨k, rfl, r⟩
    rw [edit_Check.l0, if_pos hi, if_pos h0, if_pos hi, rdT_drop h0 hi]
    rw [prev_next h0] at J
    simp only [chkS, badE]
    by_cases c1 : (rd_T38 l i).f0 < 0
    · rw [if_pos c1, J]; simp [c1]
    · rw [if_neg c1]
      by_cases c2 : (rd_T38 l i).f1 < (rd_T38 l i).f0
      · rw [if_pos c2, J]; simp [c2]
      · rw [if_neg c2, J]; simp [c1, c2]
theorem check_spec {l : List S38} {n : Int} {k : Nat} (hl : l.length < 4611686018427387904) (hk : 2 * l.length + 1 < k) : edit_Check.f k n l = some (fltO (if n < 0 then some (0, 1) else chkS n 0 none l)) := by
  unfold edit_Check.f
  by_cases c : n < 0
  · rw [if_pos c, if_pos c, efault_eq]; rfl
  · rw [if_neg c, if_neg c, check_l hl l.length k 0 (by omega) (by omega) hk]
    rfl
theorem chkS_code (n : Int) : ∀ (l : List S38) (i : Int) (p : Option Int) (x : Int × Int), chkS n i p l = some x → x.2 = 1 ∨ x.2 = 7
  | [], _, _, _, h => by simp [chkS] at h
  | e :: l, i, p, x, h => by
    simp only [chkS] at h
    split at h
    · exact .inl (by rw [← Option.some.inj h])
    · split at h
      · exact .inr (by rw [← Option.some.inj h])
      · exact chkS_code n l _ _ x h
theorem tells_O (x : Option (Int × Int)) (h : ∀ y, x = some y → y.2 = 1 ∨ y.2 = 7) : furrowlaw2_Tells.f (fltO x) (refO x).1 (refO x).2 = some true := by
  cases x with
  | none => rfl
  | some y =>
    obtain ⟨i, c⟩ := y
    rcases h (i, c) rfl with e | e
    all_goals
      simp only at e
      subst e
      simp [furrowlaw2_Tells.f, fltO, refO, flE, rfE]

end Go.Proofs.YteeeoblpfepepaaDoor.Pure
