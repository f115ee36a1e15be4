/- Plain lemmas on lines. -/
import Derived.Test.YtnecoebdmjkblaaDoorHandU
import Derived.Test.YtnecoebdmjkblaaDoorXx0
import Derived.Laws.Bits64
namespace Go.Proofs.YtnecoebdmjkblaaDoor.Pure
open Go.RowKit Go.Proofs.YtnecoebdmjkblaaDoor.X Go.Proofs.YtnecoebdmjkblaaDoor.Flt Go.Proofs.YtnecoebdmjkblaaDoor.H Go.Proofs.YtnecoebdmjkblaaDoorW.PrintWords Go.Proofs.YtnecoebdmjkblaaDoorW.PrintLast Go.Proofs.YtnecoebdmjkblaaDoorW.PrintMore
set_option linter.unusedVariables false
set_option linter.unusedSimpArgs false
/-! bytes, lines -/
abbrev BA (l : List UInt8) : ByteArray := ⟨l.toArray⟩
theorem BA_list (l : List UInt8) : (BA l).data.toList = l := rfl
theorem BA_size (l : List UInt8) : (BA l).size = l.length := by rw [← data_length]
theorem BA_of (s : ByteArray) : BA s.data.toList = s := rfl
theorem BA_bytes (l : List UInt8) : bytesOf (BA l) = l.map fun b => (b.toNat : Int) := rfl
theorem bt_list (s : ByteArray) (i : Nat) (h : i < s.data.toList.length) : bt s (i : Int) = ((s.data.toList[i]).toNat : Int) := by
  rw [← rd_bytesOf]; unfold rd bytesOf
  rw [List.getD_eq_getElem?_getD, Int.toNat_natCast, List.getElem?_map, List.getElem?_eq_getElem h]
  rfl
def badN (c : UInt8) : Bool := (decide (c.toNat < 32) || decide (126 < c.toNat)) && c.toNat != 9 && c.toNat != 10
def chk (p : List UInt8) : Option Int := if 200 < p.length then some 4 else if p.any badN then some 3 else none
theorem chk_loop (l : List UInt8) (hl : l.length ≤ 9223372036854775806) : ∀ (d i k : Nat), i + d = l.length → d < k → line_check.l0 k (l.map fun b => (b.toNat : Int)) (l.length : Int) (i : Int) = some (if (l.drop i).any badN then some 3 else none)
  | 0, i, k, hi, hk => by
    obtain ⟨k, rfl⟩ : ∃ m, k = m + 1 := ⟨k - 1, by omega⟩
    simp only [line_check.l0]
    rw [if_neg (by omega), List.drop_eq_nil_of_le (by omega)]; rfl
  | d + 1, i, k, hi, hk => by
    obtain ⟨k, rfl⟩ : ∃ m, k = m + 1 := ⟨k - 1, by omega⟩
    have hlt : i < l.length := by omega
    have hr : rd (l.map fun b => (b.toNat : Int)) (i : Int) = (l[i].toNat : Int) := by unfold rd; simp [List.getD_eq_getElem?_getD, hlt]
    have hw : wrap64 ((i : Int) + 1) = ((i + 1 : Nat) : Int) := by unfold wrap64; omega
    have ih := chk_loop l hl d (i + 1) k (by omega) (by omega)
    have hd : l.drop i = l[i] :: l.drop (i + 1) := List.drop_eq_getElem_cons hlt
    simp only [line_check.l0]
    rw [if_pos (by omega), if_pos (by omega), if_pos (by simp; omega), hr, hw, ih, hd, List.any_cons]
    generalize hc : l[i].toNat = c
    have hb : badN l[i] = ((decide (c < 32) || decide (126 < c)) && c != 9 && c != 10) := by unfold badN; rw [hc]
    rw [hb]
    by_cases h1 : c < 32
    · rw [if_pos (by omega)]
      by_cases h9 : c = 9
      · rw [if_pos (by omega)]; simp [h9]
      · rw [if_neg (by omega)]
        by_cases h10 : c = 10
        · rw [if_pos (by omega)]; simp [h10]
        · rw [if_neg (by omega)]; simp [h1, h9, h10]
    · rw [if_neg (by omega)]
      by_cases h2 : 126 < c
      · rw [if_pos (by omega), if_neg (by omega), if_neg (by omega)]
        have h9 : c ≠ 9 := by omega
        have h10 : c ≠ 10 := by omega
        simp [h2, h9, h10]
      · rw [if_neg (by omega)]; simp [h1, h2]
theorem check_spec (l : List UInt8) (hl : l.length ≤ 9223372036854775806) : line_check.f (l.length + 2) (l.map fun b => (b.toNat : Int)) = some (chk l) := by
  unfold line_check.f chk
  rw [List.length_map]
  by_cases h : 200 < l.length
  · rw [if_pos (by omega), if_pos h]
  · rw [if_neg (by omega), if_neg h]
    exact (chk_loop l hl l.length 0 (l.length + 2) (by omega) (by omega)).trans (by rw [List.drop_zero])
/-- The lines of a text. -/
def lns : List UInt8 → List (List UInt8)
  | [] => []
  | c :: r => if c = 10 then [10] :: lns r else match lns r with
    | [] => [[c]]
    | p :: ps => (c :: p) :: ps
theorem lns_nil {l : List UInt8} (h : lns l = []) : l = [] := by
  cases l with
  | nil => rfl
  | cons c r => unfold lns at h; split at h; · cases h
                split at h <;> cases h
theorem lns_ne (l : List UInt8) : ∀ p ∈ lns l, p ≠ [] := by
  induction l with
  | nil => intro p hp; cases hp
  | cons c r ih =>
    intro p hp
    unfold lns at hp
    split at hp
    · rcases List.mem_cons.1 hp with rfl | h
      · simp
      · exact ih p h
    · split at hp
      · rcases List.mem_cons.1 hp with rfl | h
        · simp
        · cases h
      · rename_i h1
        rcases List.mem_cons.1 hp with rfl | h
        · simp
        · exact ih p (by rw [h1]; exact List.mem_cons_of_mem _ h)
theorem lns_flat (l : List UInt8) : (lns l).flatten = l := by
  induction l with
  | nil => rfl
  | cons c r ih =>
    unfold lns
    split
    · rename_i h; subst h; simp [ih]
    · split
      · rename_i h; rw [lns_nil h]; rfl
      · rename_i h; rw [h] at ih; simp at ih ⊢; exact ih
theorem pieces_lns (l : List UInt8) : ∃ t : List (List UInt8), (t = [] ∨ t = [[]]) ∧ pieces l = lns l ++ t := by
  induction l with
  | nil => exact ⟨[[]], .inr rfl, rfl⟩
  | cons c r ih =>
    obtain ⟨t, ht, e⟩ := ih
    by_cases hc : c = 10
    · exact ⟨t, ht, by unfold pieces lns; rw [if_pos hc, if_pos hc, e]; rfl⟩
    · cases hl : lns r with
      | nil =>
        rw [hl] at e
        refine ⟨[], .inl rfl, ?_⟩
        have hr := lns_nil hl
        subst hr
        unfold pieces lns
        rw [if_neg hc, if_neg hc]
        rfl
      | cons p ps =>
        rw [hl] at e
        refine ⟨t, ht, ?_⟩
        unfold pieces lns
        rw [if_neg hc, if_neg hc, e, hl]
        rfl
/-- The first line that may not be. -/
def fb : Nat → List (List UInt8) → Option (Nat × Int)
  | _, [] => none
  | i, p :: ps => match chk p with
    | some c => some (i, c)
    | none => fb (i + 1) ps
def lineW : ByteArray := ⟨#[108, 105, 110, 101]⟩
def splitE (ls : List (List UInt8)) : Option (Nat × Int) → List ByteArray × List Flt
  | none => (ls.map BA, [])
  | some (i, c) => ([], [⟨lineW, (i : Int), some c⟩])
theorem fold_spec : ∀ (ls t : List (List UInt8)) (out : List (List UInt8)), (∀ p ∈ ls, p ≠ []) → (∀ p ∈ ls, p.length ≤ 9223372036854775806) → (t = [] ∨ t = [[]]) →
    fold (out.map BA) ((ls ++ t).map BA) = some (splitE (out ++ ls) (fb out.length ls))
  | [], t, out, _, _, ht => by
    rcases ht with rfl | rfl
    · simp [fold, fb, splitE]
    · simp only [List.nil_append, List.map_cons, List.map_nil, fold]
      rw [if_pos (by rw [BA_size]; rfl)]
      simp [fb, splitE]
  | p :: ps, t, out, hne, hsz, ht => by
    have hp : p ≠ [] := hne p (List.mem_cons_self ..)
    have hps : p.length ≤ 9223372036854775806 := hsz p (List.mem_cons_self ..)
    simp only [List.cons_append, List.map_cons, fold]
    rw [if_neg (by rw [BA_size]; intro e; exact hp (List.eq_nil_of_length_eq_zero e)), BA_size, BA_bytes, check_spec p hps]
    unfold fb
    cases hk : chk p with
    | some c => simp [splitE, lineW]
    | none =>
      have ih := fold_spec ps t (out ++ [p]) (fun q hq => hne q (List.mem_cons_of_mem _ hq)) (fun q hq => hsz q (List.mem_cons_of_mem _ hq)) ht
      simp only [List.map_append, List.map_cons, List.map_nil, List.append_assoc, List.cons_append, List.nil_append, List.length_append, List.length_cons, List.length_nil] at ih ⊢
      exact ih
theorem lns_len {l p : List UInt8} (h : p ∈ lns l) : p.length ≤ l.length := by
  have := (List.sublist_flatten_of_mem h).length_le
  rwa [lns_flat] at this
theorem split_spec (l : List UInt8) (h : l.length ≤ 65536) : line_Split.f (BA l) = some (splitE (lns l) (fb 0 (lns l))) := by
  unfold line_Split.f cuts
  rw [BA_size, if_neg (by omega)]
  obtain ⟨t, ht, e⟩ := pieces_lns l
  rw [BA_list, e]
  exact fold_spec (lns l) t [] (lns_ne l) (fun p hp => by have := lns_len hp; omega) ht
theorem split_long (l : List UInt8) (h : 65536 < l.length) : line_Split.f (BA l) = some ([], [⟨⟨#[116, 101, 120, 116]⟩, 0, some 4⟩]) := by
  unfold line_Split.f
  rw [BA_size, if_pos h]

end Go.Proofs.YtnecoebdmjkblaaDoor.Pure
