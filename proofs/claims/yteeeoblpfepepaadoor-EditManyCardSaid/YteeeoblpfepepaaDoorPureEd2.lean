/- Plain lemmas on edits: done, and led back. -/
import Derived.Test.YteeeoblpfepepaaDoorPureEd
import Derived.Test.YteeeoblpfepepaaDoorXx12
import Derived.Test.YteeeoblpfepepaaDoorXx4
import Derived.Test.YteeeoblpfepepaaDoorXx3
import Derived.Test.YteeeoblpfepepaaDoorXx1
import Derived.Test.YteeeoblpfepepaaDoorHandB
import Derived.Test.YteeeoblpfepepaaDoorHandN
import Derived.Laws.Bits64
namespace Go.Proofs.YteeeoblpfepepaaDoor.Pure
open Go.RowKit Go.Proofs.YteeeoblpfepepaaDoor.X Go.Proofs.YteeeoblpfepepaaDoor.Flt Go.Proofs.YteeeoblpfepepaaDoor.H Go.Proofs.YteeeoblpfepepaaDoorW.PrintWords Go.Proofs.YteeeoblpfepepaaDoorW.PrintLast Go.Proofs.YteeeoblpfepepaaDoorW.PrintMore
set_option linter.unusedVariables false
set_option linter.unusedSimpArgs false
/-! edits done, and edits that lead back -/
def okE (n : Int) : Option Int → List S38 → Prop
  | _, [] => True
  | p, e :: l => (0 ≤ e.f0 ∧ e.f0 ≤ e.f1 ∧ e.f1 ≤ n) ∧ (∀ t, p = some t → t < e.f0) ∧ okE n (some e.f1) l
theorem bad_iff {n : Int} {e : S38} : badE n e = false ↔ 0 ≤ e.f0 ∧ e.f0 ≤ e.f1 ∧ e.f1 ≤ n := by
  simp only [badE, Bool.or_eq_false_iff, decide_eq_false_iff_not]; omega
theorem over_iff {p : Option Int} {e : S38} : overE p e = false ↔ ∀ t, p = some t → t < e.f0 := by
  cases p <;> simp [overE]
theorem chk_ok {n : Int} : ∀ (l : List S38) (i : Int) (p : Option Int), chkS n i p l = none ↔ okE n p l
  | [], _, _ => by simp [chkS, okE]
  | e :: l, i, p => by
    simp only [chkS, okE]
    rw [← bad_iff, ← over_iff, ← chk_ok l (i + 1) (some e.f1)]
    cases hb : badE n e <;> cases ho : overE p e <;> simp
theorem ok_weak {n s t : Int} {l : List S38} (h : okE n (some s) l) (ht : t ≤ s) : okE n (some t) l := by
  cases l with
  | nil => trivial
  | cons e l => exact ⟨h.1, fun u hu => by have := h.2.1 s rfl; obtain rfl := Option.some.inj hu; omega, h.2.2⟩
theorem ok_none {n t : Int} {l : List S38} (h : okE n none l) (ht : t < 0) : okE n (some t) l := by
  cases l with
  | nil => trivial
  | cons e l => exact ⟨h.1, fun u hu => by have := h.1.1; obtain rfl := Option.some.inj hu; omega, h.2.2⟩
def ap (x : List ByteArray) : Int → List S38 → List ByteArray
  | a, [] => x.drop a.toNat
  | a, e :: l => (x.take e.f0.toNat).drop a.toNat ++ (e.f2 ++ ap x e.f1 l)
def bk (x : List ByteArray) : Int → List S38 → List S38
  | _, [] => []
  | m, e :: l => ⟨e.f0 + m, e.f0 + m + (e.f2.length : Int), (x.take e.f1.toNat).drop e.f0.toNat⟩ :: bk x (m + ((e.f2.length : Int) - (e.f1 - e.f0))) l
def tot : List S38 → Nat
  | [] => 0
  | e :: l => e.f2.length + tot l
theorem cut_len {x : List ByteArray} {a b : Int} (ha : 0 ≤ a) (hab : a ≤ b) (hb : b ≤ (x.length : Int)) : ((x.take b.toNat).drop a.toNat).length = b.toNat - a.toNat := by
  simp only [List.length_drop, List.length_take]; omega
theorem apply_l {x : List ByteArray} {l : List S38} (hl : l.length < 1000) (d : Nat) : ∀ (k : Nat) (i a : Int) (o : List ByteArray), 0 ≤ i → (l.length : Int) - i = d → d < k →
    okE x.length (some (a - 1)) (l.drop i.toNat) → 0 ≤ a → a ≤ (x.length : Int) → o.length + (x.length - a.toNat) + tot (l.drop i.toNat) < 8796093022208 →
    edit_Apply.l0 k x o a l (l.length : Int) i = some (o ++ ap x a (l.drop i.toNat), []) := by
  induction d with
  | zero =>
    intro k i a o h0 hd hk ho ha hax hb
    obtain ⟨k, rfl⟩ : ∃ m, k = m + 1 := ⟨k - 1, by omega⟩
    rw [dropT_end (by omega)]
    rw [edit_Apply.l0, if_neg (by omega), if_pos ha, if_pos hax, if_pos (by simp only [List.length_drop]; omega)]
    rfl
  | succ d ih =>
    intro k i a o h0 hd hk ho ha hax hb
    obtain ⟨k, rfl⟩ : ∃ m, k = m + 1 := ⟨k - 1, by omega⟩
    have hi : i < (l.length : Int) := by omega
    rw [rdT_drop h0 hi] at ho hb ⊢
    obtain ⟨⟨o1, o2, o3⟩, o4, o5⟩ := ho
    have o6 := o4 _ rfl
    have hc := cut_len ha (show a ≤ (rd_T38 l i).f0 by omega) (show (rd_T38 l i).f0 ≤ (x.length : Int) by omega)
    simp only [tot] at hb
    rw [edit_Apply.l0, if_pos hi, if_pos h0, if_pos hi, if_pos ha, if_pos (by omega), if_pos (by omega), if_pos (by rw [hc]; omega)]
    simp only [Option.bind_some]
    rw [if_pos (by rw [List.length_append, hc]; omega), w64 (by omega), ih k (i + 1) _ _ (by omega) (by omega) (by omega) (ok_weak o5 (by omega)) (by omega) o3 (by simp only [List.length_append, hc]; omega)]
    simp [ap]
theorem rd_mem {l : List S38} {i : Int} (h0 : 0 ≤ i) (hi : i < (l.length : Int)) : rd_T38 l i ∈ l :=
  List.mem_of_mem_drop (i := i.toNat) (by rw [rdT_drop h0 hi]; exact List.mem_cons_self)
theorem clone_eq {l : List ByteArray} (h : l.length ≤ 100000) : slices_Clone_string_string.f l = some l := by
  unfold slices_Clone_string_string.f
  rw [if_pos (by omega)]
theorem back_l {x : List ByteArray} {l : List S38} (hx : x.length ≤ 1000) (hl : l.length ≤ 20) (hf : ∀ e ∈ l, e.f2.length ≤ 1000) (d : Nat) : ∀ (k : Nat) (i m : Int) (p : Option Int) (o : List S38), 0 ≤ i → (l.length : Int) - i = d → d < k →
    okE x.length p (l.drop i.toNat) → -2000 * i ≤ m → m ≤ 2000 * i → (o.length : Int) = i →
    edit_Back.l0 k x o m l (l.length : Int) i = some (o ++ bk x m (l.drop i.toNat), []) := by
  induction d with
  | zero =>
    intro k i m p o h0 hd hk ho hm1 hm2 hol
    obtain ⟨k, rfl⟩ : ∃ m, k = m + 1 := ⟨k - 1, by omega⟩
    rw [dropT_end (by omega)]
    rw [edit_Back.l0, if_neg (by omega)]
    simp [bk]
  | succ d ih =>
    intro k i m p o h0 hd hk ho hm1 hm2 hol
    obtain ⟨k, rfl⟩ : ∃ m, k = m + 1 := ⟨k - 1, by omega⟩
    have hi : i < (l.length : Int) := by omega
    have hfe := hf _ (rd_mem h0 hi)
    rw [rdT_drop h0 hi] at ho ⊢
    obtain ⟨⟨o1, o2, o3⟩, o4, o5⟩ := ho
    have hc := cut_len o1 o2 o3
    rw [edit_Back.l0, if_pos hi, if_pos h0, if_pos hi, if_pos o1, if_pos o2, if_pos o3, clone_eq (by rw [hc]; omega)]
    simp only [Option.bind_some]
    rw [if_pos (by omega), w64 (a := (rd_T38 l i).f0 + m) (by omega), w64 (a := (rd_T38 l i).f0 + m + _) (by omega), w64 (a := (rd_T38 l i).f1 - (rd_T38 l i).f0) (by omega), w64 (a := ((rd_T38 l i).f2.length : Int) - _) (by omega), w64 (a := m + _) (by omega), w64 (a := i + 1) (by omega),
      ih k (i + 1) _ _ _ (by omega) (by omega) (by omega) o5 (by omega) (by omega) (by simp; omega)]
    simp [bk]
theorem tot_le {l : List S38} {b : Nat} (h : ∀ e ∈ l, e.f2.length ≤ b) : tot l ≤ b * l.length := by
  induction l with
  | nil => simp [tot]
  | cons e l ih =>
    have h1 := h e List.mem_cons_self
    have h2 := ih (fun e he => h e (List.mem_cons_of_mem _ he))
    simp only [tot, List.length_cons, Nat.mul_add]; omega
structure Few (x : List ByteArray) (l : List S38) : Prop where
  lines : x.length ≤ 1000
  edits : l.length ≤ 20
  put : ∀ e ∈ l, e.f2.length ≤ 1000
theorem apply_ok {x : List ByteArray} {l : List S38} {k : Nat} (hF : Few x l) (hk : 50 < k) (ho : okE x.length none l) : edit_Apply.f k x l = some (ap x 0 l, []) := by
  have h1 := hF.edits; have h2 := hF.lines; have h3 := tot_le hF.put
  have h4 : tot l ≤ 20000 := Nat.le_trans h3 (by omega)
  unfold edit_Apply.f
  rw [check_spec (by omega) (by omega), if_neg (by omega), (chk_ok l 0 none).2 ho]
  simp only [fltO, Option.bind_some, List.length_nil]
  rw [if_pos (by first | trivial | rfl), apply_l (by omega) l.length k 0 0 [] (by omega) (by omega) (by omega) (by exact ok_none ho (by omega)) (by omega) (by omega) (by simp; omega)]
  simp
theorem apply_no {x : List ByteArray} {l : List S38} {k : Nat} (hl : l.length ≤ 20) (hk : 50 < k) {y : Int × Int} (hy : chkS x.length 0 none l = some y) : edit_Apply.f k x l = some ([], flE y.1 y.2) := by
  unfold edit_Apply.f
  rw [check_spec (by omega) (by omega), if_neg (by omega), hy]
  simp only [fltO, Option.bind_some]
  rw [if_neg (by simp [flE])]
theorem back_ok {x : List ByteArray} {l : List S38} {k : Nat} (hF : Few x l) (hk : 50 < k) (ho : okE x.length none l) : edit_Back.f k x l = some (bk x 0 l, []) := by
  have h1 := hF.edits
  unfold edit_Back.f
  rw [check_spec (by omega) (by omega), if_neg (by omega), (chk_ok l 0 none).2 ho]
  simp only [fltO, Option.bind_some, List.length_nil]
  rw [if_pos (by first | trivial | rfl), back_l hF.lines h1 hF.put l.length k 0 0 none [] (by omega) (by omega) (by omega) (by exact ho) (by omega) (by omega) rfl]
  simp
theorem back_no {x : List ByteArray} {l : List S38} {k : Nat} (hl : l.length ≤ 20) (hk : 50 < k) {y : Int × Int} (hy : chkS x.length 0 none l = some y) : edit_Back.f k x l = some ([], flE y.1 y.2) := by
  unfold edit_Back.f
  rw [check_spec (by omega) (by omega), if_neg (by omega), hy]
  simp only [fltO, Option.bind_some]
  rw [if_neg (by simp [flE])]
theorem same_lines_l {a : List ByteArray} (ha : a.length < 4611686018427387904) (d : Nat) : ∀ (k : Nat) (i : Int), 0 ≤ i → (a.length : Int) - i = d → d < k → furrowref4_SameLines.l0 k a a i = some true := by
  induction d with
  | zero =>
    intro k i h0 hd hk
    obtain ⟨k, rfl⟩ : ∃ m, k = m + 1 := ⟨k - 1, by omega⟩
    rw [furrowref4_SameLines.l0, if_neg (by omega)]
  | succ d ih =>
    intro k i h0 hd hk
    obtain ⟨k, rfl⟩ : ∃ m, k = m + 1 := ⟨k - 1, by omega⟩
    rw [furrowref4_SameLines.l0, if_pos (by omega), if_pos h0, if_pos (by omega), if_pos rfl, w64 (by omega), ih k (i + 1) (by omega) (by omega) (by omega)]
theorem same_lines {a : List ByteArray} {k : Nat} (ha : a.length < 4611686018427387904) (hk : a.length < k) : furrowref4_SameLines.f k a a = some true := by
  unfold furrowref4_SameLines.f
  rw [if_pos rfl, same_lines_l ha a.length k 0 (by omega) (by omega) hk]
theorem same_l {l : List S38} (hl : l.length ≤ 20) (hf : ∀ e ∈ l, e.f2.length ≤ 30000) (d : Nat) : ∀ (k : Nat) (i : Int), 0 ≤ i → (l.length : Int) - i = d → 30000 + d < k → furrowlaw3_Same.l0 k l (l.map toR) i = some true := by
  induction d with
  | zero =>
    intro k i h0 hd hk
    obtain ⟨k, rfl⟩ : ∃ m, k = m + 1 := ⟨k - 1, by omega⟩
    rw [furrowlaw3_Same.l0, if_neg (by omega)]
  | succ d ih =>
    intro k i h0 hd hk
    obtain ⟨k, rfl⟩ : ∃ m, k = m + 1 := ⟨k - 1, by omega⟩
    have hi : i < (l.length : Int) := by omega
    have hfe := hf _ (rd_mem h0 hi)
    rw [furrowlaw3_Same.l0, if_pos hi, if_pos h0, if_pos (by simpa using hi), rdT_map h0 hi, show (toR (rd_T38 l i)).f0 = (rd_T38 l i).f0 from rfl, show (toR (rd_T38 l i)).f1 = (rd_T38 l i).f1 from rfl, show (toR (rd_T38 l i)).f2 = (rd_T38 l i).f2 from rfl, if_pos rfl, if_pos rfl, same_lines (by omega) (by omega)]
    simp only [Option.bind_some, if_true]
    rw [w64 (by omega), ih k (i + 1) (by omega) (by omega) (by omega)]
theorem same_ok {l : List S38} {k : Nat} (hl : l.length ≤ 20) (hf : ∀ e ∈ l, e.f2.length ≤ 30000) (hk : 40000 < k) : furrowlaw3_Same.f k l (l.map toR) = some true := by
  unfold furrowlaw3_Same.f
  rw [if_pos (by simp), same_l hl hf l.length k 0 (by omega) (by omega) (by omega)]
theorem few_l {l : List S38} (hl : l.length ≤ 20) (d : Nat) : ∀ (k : Nat) (i : Int), 0 ≤ i → (l.length : Int) - i = d → d < k → ∃ b, furrowlaw3_few.l0 k l i = some b ∧ (b = true → ∀ e ∈ l.drop i.toNat, e.f2.length ≤ 20) := by
  induction d with
  | zero =>
    intro k i h0 hd hk
    obtain ⟨k, rfl⟩ : ∃ m, k = m + 1 := ⟨k - 1, by omega⟩
    rw [furrowlaw3_few.l0, if_neg (by omega), dropT_end (by omega)]
    exact ⟨true, rfl, fun _ e he => absurd he (by simp)⟩
  | succ d ih =>
    intro k i h0 hd hk
    obtain ⟨k, rfl⟩ : ∃ m, k = m + 1 := ⟨k - 1, by omega⟩
    have hi : i < (l.length : Int) := by omega
    rw [furrowlaw3_few.l0, if_pos hi, if_pos h0]
    by_cases c : ((rd_T38 l i).f2.length : Int) > 20
    · rw [if_pos c]; exact ⟨false, rfl, fun h => absurd h (by simp)⟩
    · rw [if_neg c, w64 (by omega)]
      obtain ⟨b, hb, hb2⟩ := ih k (i + 1) (by omega) (by omega) (by omega)
      refine ⟨b, hb, fun h e he => ?_⟩
      rw [rdT_drop h0 hi] at he
      rcases List.mem_cons.1 he with rfl | he
      · omega
      · exact hb2 h e he
theorem few_spec {x : List ByteArray} {l : List S38} {k : Nat} (hk : 50 < k) : ∃ b, furrowlaw3_few.f k x l = some b ∧ (b = true → x.length ≤ 40 ∧ l.length ≤ 20 ∧ ∀ e ∈ l, e.f2.length ≤ 20) := by
  obtain ⟨k, rfl⟩ : ∃ m, k = m + 1 := ⟨k - 1, by omega⟩
  unfold furrowlaw3_few.f
  by_cases c : (x.length : Int) > 40
  · rw [if_pos c, furrowlaw3_few.j0, if_pos rfl]; exact ⟨false, rfl, fun h => absurd h (by simp)⟩
  · rw [if_neg c, furrowlaw3_few.j0]
    by_cases c2 : (l.length : Int) > 20
    · rw [if_pos (by simpa using c2)]; exact ⟨false, rfl, fun h => absurd h (by simp)⟩
    · rw [if_neg (by simpa using c2)]
      obtain ⟨b, hb, hb2⟩ := few_l (l := l) (by omega) l.length k 0 (by omega) (by omega) (by omega)
      exact ⟨b, hb, fun h => ⟨by omega, by omega, hb2 h⟩⟩
theorem bk_length {x : List ByteArray} : ∀ (l : List S38) (m : Int), (bk x m l).length = l.length
  | [], _ => rfl
  | e :: l, m => by simp [bk, bk_length l]
theorem bk_put {x : List ByteArray} : ∀ (l : List S38) (m : Int), ∀ e ∈ bk x m l, e.f2.length ≤ x.length
  | [], _, e, he => absurd he (by simp [bk])
  | a :: l, m, e, he => by
    rcases List.mem_cons.1 he with rfl | he
    · simp only [List.length_drop, List.length_take]; omega
    · exact bk_put l _ e he
theorem ap_length {x : List ByteArray} : ∀ (l : List S38) (a : Int), okE x.length (some (a - 1)) l → 0 ≤ a → a ≤ (x.length : Int) → (ap x a l).length ≤ (x.length - a.toNat) + tot l
  | [], a, _, _, _ => by simp [ap, tot]
  | e :: l, a, ho, ha, hax => by
    obtain ⟨⟨o1, o2, o3⟩, o4, o5⟩ := ho
    have o6 := o4 _ rfl
    have h := ap_length l e.f1 (ok_weak o5 (by omega)) (by omega) o3
    simp only [ap, tot, List.length_append, cut_len ha (show a ≤ e.f0 by omega) (show e.f0 ≤ (x.length : Int) by omega)]
    omega

/-! what leads back, leads back -/
theorem mid_cut {α : Type} (pre mid rest : List α) : ((pre ++ (mid ++ rest)).take (pre.length + mid.length)).drop pre.length = mid := by
  rw [← List.append_assoc, List.take_left' (by simp), List.drop_left]
theorem cut_cut {α : Type} (x : List α) {a b : Nat} (h : a ≤ b) (hb : b ≤ x.length) : (x.take b).drop a ++ x.drop b = x.drop a := by
  conv => rhs; rw [← List.take_append_drop b x]
  rw [List.drop_append_of_le_length (by simp; omega)]
theorem ap_bk {x A : List ByteArray} : ∀ (l : List S38) (a m : Int) (p : Option Int) (pre : List ByteArray), okE x.length p l → (∀ t, p = some t → t = a) → (p = none → a = 0) → 0 ≤ a → a ≤ (x.length : Int) → A = pre ++ ap x a l → (pre.length : Int) = a + m →
    okE A.length (p.map (· + m)) (bk x m l) ∧ ap A (pre.length : Int) (bk x m l) = x.drop a.toNat
  | [], a, m, p, pre, _, _, _, _, _, hA, hp => by
    refine ⟨trivial, ?_⟩
    simp only [bk, ap, hA]
    simp
  | e :: l, a, m, p, pre, ho, h1, h2, ha, hax, hA, hp => by
    obtain ⟨⟨o1, o2, o3⟩, o4, o5⟩ := ho
    have hae : a ≤ e.f0 := by
      cases p with
      | none => have := h2 rfl; omega
      | some t => have := h1 t rfl; have := o4 t rfl; omega
    have hc := cut_len ha hae (show e.f0 ≤ (x.length : Int) by omega)
    have hA2 : A = (pre ++ (x.take e.f0.toNat).drop a.toNat ++ e.f2) ++ ap x e.f1 l := by rw [hA]; simp [ap]
    have hp2 : ((pre ++ (x.take e.f0.toNat).drop a.toNat ++ e.f2).length : Int) = e.f1 + (m + ((e.f2.length : Int) - (e.f1 - e.f0))) := by
      simp only [List.length_append, hc]; omega
    obtain ⟨q1, q2⟩ := ap_bk l e.f1 (m + ((e.f2.length : Int) - (e.f1 - e.f0))) (some e.f1) _ o5 (fun t ht => (Option.some.inj ht).symm) (fun h => absurd h (by simp)) (by omega) o3 hA2 hp2
    have hle : ((pre ++ (x.take e.f0.toNat).drop a.toNat ++ e.f2).length : Int) ≤ A.length := by
      have h := congrArg List.length hA2
      rw [List.length_append] at h
      omega
    rw [hp2] at hle q2
    have hm2 : e.f1 + (m + ((e.f2.length : Int) - (e.f1 - e.f0))) = e.f0 + m + (e.f2.length : Int) := by omega
    refine ⟨⟨⟨by dsimp only; omega, by dsimp only; omega, by dsimp only; omega⟩, ?_, ?_⟩, ?_⟩
    · intro t ht
      cases p with
      | none => simp at ht
      | some s => have := o4 s rfl; simp at ht; dsimp only; omega
    · dsimp only
      rw [← hm2]; exact q1
    · simp only [bk, ap]
      rw [← hm2, q2]
      have e1 : (A.take (e.f0 + m).toNat).drop (pre.length : Int).toNat = (x.take e.f0.toNat).drop a.toNat := by
        rw [hA2, List.append_assoc, List.append_assoc, Int.toNat_natCast, show (e.f0 + m).toNat = pre.length + ((x.take e.f0.toNat).drop a.toNat).length by rw [hc]; omega]
        exact mid_cut _ _ _
      rw [e1, cut_cut x (by omega) (by omega), cut_cut x (by omega) (by omega)]
theorem back_back {x : List ByteArray} {l : List S38} (ho : okE x.length none l) : okE (ap x 0 l).length none (bk x 0 l) ∧ ap (ap x 0 l) 0 (bk x 0 l) = x := by
  have h := ap_bk (x := x) (A := ap x 0 l) l 0 0 none [] ho (by simp) (fun _ => rfl) (by omega) (by omega) rfl rfl
  simpa using h

end Go.Proofs.YteeeoblpfepepaaDoor.Pure
