/- Plain lemmas on systems: forms made tight row by row, a system at a point. -/
import Derived.Test.YtkkpgjkjkcmcbaaDoorPureSys2
import Derived.Test.YtkkpgjkjkcmcbaaDoorXx9
import Derived.Test.YtkkpgjkjkcmcbaaDoorHandH
import Derived.Laws.Bits64
namespace Go.Proofs.YtkkpgjkjkcmcbaaDoor.Pure
open Go.RowKit Go.Proofs.YtkkpgjkjkcmcbaaDoor.X Go.Proofs.YtkkpgjkjkcmcbaaDoor.Flt Go.Proofs.YtkkpgjkjkcmcbaaDoor.H Go.Proofs.YtkkpgjkjkcmcbaaDoorW.PrintWords Go.Proofs.YtkkpgjkjkcmcbaaDoorW.PrintLast Go.Proofs.YtkkpgjkjkcmcbaaDoorW.PrintMore
set_option linter.unusedVariables false
set_option linter.unusedSimpArgs false
/-! rows of forms made tight; a system at a point -/
def okF (N : Nat) (f : S59) : Prop := f.f0.length = N ∧ (∀ c ∈ f.f0, inC c) ∧ inC f.f1
theorem rd59_at (l : List S59) (i : Nat) (h : i < l.length) : rd_T59 l (i : Int) = l[i] := by
  unfold rd_T59; rw [Int.toNat_natCast, List.getD_eq_getElem?_getD, List.getElem?_eq_getElem h]; rfl
theorem rd65_at (l : List S65) (i : Nat) (h : i < l.length) : rd_T65 l (i : Int) = l[i] := by
  unfold rd_T65; rw [Int.toNat_natCast, List.getD_eq_getElem?_getD, List.getElem?_eq_getElem h]; rfl
theorem w_succ {i n : Nat} (h : i < n) (hn : n ≤ 4611686018427387904) : wrap64 ((i : Int) + 1) = ((i + 1 : Nat) : Int) := by unfold wrap64; omega
/-- What rows tells. -/
def rowsS (kind : Int) : List S59 → Option (List S59)
  | [] => some []
  | f :: fs => if (tS f.f0 f.f1 kind).2.2.2 = true then (rowsS kind fs).map fun r => if (tS f.f0 f.f1 kind).2.2.1 = true then (⟨(tS f.f0 f.f1 kind).1, (tS f.f0 f.f1 kind).2.1⟩ : S59) :: r else r else none
def rowsR (out : List S59) : Option (List S59) → List S59 × Bool
  | some r => (out ++ r, true)
  | none => ([], false)
theorem rows_l0 {N : Nat} (kind : Int) (hk1 : kind = 0 ∨ kind = 1) (l : List S59) (hl : ∀ f ∈ l, okF N f) (hN : N ≤ 16) (hlen : l.length ≤ 70) : ∀ (d i k : Nat) (out : List S59), i + d = l.length → 17179869217 + d < k → out.length ≤ i →
    sys_rows.l0 k kind out l (l.length : Int) (i : Int) = some (rowsR out (rowsS kind (l.drop i))) := by
  intro d
  induction d with
  | zero =>
    intro i k out hi hk ho
    obtain ⟨k, rfl⟩ : ∃ m, k = m + 1 := ⟨k - 1, by omega⟩
    simp only [sys_rows.l0]
    rw [if_neg (by omega), List.drop_eq_nil_of_le (by omega)]
    simp [rowsS, rowsR]
  | succ d ih =>
    intro i k out hi hk ho
    obtain ⟨k, rfl⟩ : ∃ m, k = m + 1 := ⟨k - 1, by omega⟩
    have hlt : i < l.length := by omega
    obtain ⟨h1, h2, h3⟩ := hl _ (List.getElem_mem hlt)
    have hd : l.drop i = l[i] :: l.drop (i + 1) := List.drop_eq_getElem_cons hlt
    simp only [sys_rows.l0]
    rw [if_pos (by omega), if_pos (by omega), if_pos (by omega), rd59_at l i hlt, tight_spec _ _ kind h2 h3 (by omega) hk1 k (by omega), Option.bind_some, hd, w_succ hlt (by omega)]
    simp only [rowsS]
    by_cases hm : (tS l[i].f0 l[i].f1 kind).2.2.2 = true
    · rw [if_pos hm, if_pos hm]
      by_cases hs : (tS l[i].f0 l[i].f1 kind).2.2.1 = true
      · rw [if_pos hs, if_pos (by omega), ih (i + 1) k _ (by omega) (by omega) (by simp; omega)]
        cases rowsS kind (l.drop (i + 1)) with
        | none => rfl
        | some r => simp [rowsR, hs]
      · rw [if_neg hs, ih (i + 1) k _ (by omega) (by omega) (by omega)]
        cases rowsS kind (l.drop (i + 1)) with
        | none => rfl
        | some r => simp [rowsR, hs]
    · rw [if_neg hm, if_neg hm]
      rfl
theorem rows_spec {N : Nat} (kind : Int) (hk1 : kind = 0 ∨ kind = 1) (l : List S59) (hl : ∀ f ∈ l, okF N f) (hN : N ≤ 16) (hlen : l.length ≤ 70) (k : Nat) (hk : 17179869300 ≤ k) : sys_rows.f k l kind = some (rowsR [] (rowsS kind l)) := by
  unfold sys_rows.f
  have h := rows_l0 kind hk1 l hl hN hlen l.length 0 k [] (by omega) (by omega) (by simp)
  rw [List.drop_zero] at h
  exact h
theorem rowsS_holds {kind : Int} (hk1 : kind = 0 ∨ kind = 1) (p : List Int) : ∀ l : List S59, (∀ f ∈ l, holdsF kind f.f0 f.f1 p) ↔ ∃ r, rowsS kind l = some r ∧ ∀ f ∈ r, holdsF kind f.f0 f.f1 p
  | [] => by simp [rowsS]
  | f :: fs => by
    have ih := rowsS_holds hk1 p fs
    have ht := tS_holds (C := f.f0) (K := f.f1) hk1 p
    rw [List.forall_mem_cons, ih, ht]
    simp only [rowsS]
    constructor
    · rintro ⟨⟨h1, h2⟩, r, h3, h4⟩
      rw [if_pos h1, h3]
      refine ⟨_, rfl, ?_⟩
      dsimp only
      by_cases hs : (tS f.f0 f.f1 kind).2.2.1 = true
      · rw [if_pos hs]
        intro x hx
        rcases List.mem_cons.1 hx with rfl | hx
        · exact h2 hs
        · exact h4 x hx
      · rw [if_neg hs]; exact h4
    · rintro ⟨r, h1, h2⟩
      by_cases hm : (tS f.f0 f.f1 kind).2.2.2 = true
      · rw [if_pos hm] at h1
        cases hr : rowsS kind fs with
        | none => rw [hr] at h1; cases h1
        | some r' =>
          rw [hr] at h1
          obtain rfl := Option.some.inj h1
          dsimp only at h2
          by_cases hs : (tS f.f0 f.f1 kind).2.2.1 = true
          · rw [if_pos hs] at h2
            exact ⟨⟨hm, fun _ => h2 ⟨_, _⟩ (by simp)⟩, r', rfl, fun x hx => h2 x (by simp [hx])⟩
          · rw [if_neg hs] at h2
            exact ⟨⟨hm, fun h => absurd h hs⟩, r', rfl, h2⟩
      · rw [if_neg hm] at h1; cases h1
theorem rowsS_ok {kind : Int} {N : Nat} : ∀ (l r : List S59), (∀ f ∈ l, okF N f) → rowsS kind l = some r → (∀ f ∈ r, okF N f) ∧ r.length ≤ l.length
  | [], r, _, h => by
    simp only [rowsS] at h
    obtain rfl := Option.some.inj h
    simp
  | f :: fs, r, hl, h => by
    simp only [rowsS] at h
    by_cases hm : (tS f.f0 f.f1 kind).2.2.2 = true
    · rw [if_pos hm] at h
      cases hr : rowsS kind fs with
      | none => rw [hr] at h; cases h
      | some r' =>
        rw [hr] at h
        obtain rfl := Option.some.inj h
        obtain ⟨h1, h2⟩ := rowsS_ok fs r' (fun x hx => hl x (by simp [hx])) hr
        obtain ⟨k1, k2, k3⟩ := hl f (by simp)
        dsimp only
        by_cases hs : (tS f.f0 f.f1 kind).2.2.1 = true
        · rw [if_pos hs]
          refine ⟨fun x hx => ?_, by simp; omega⟩
          rcases List.mem_cons.1 hx with rfl | hx
          · exact ⟨by rw [← k1]; exact tS_len hs, (tS_in k2 k3).1, (tS_in k2 k3).2⟩
          · exact h1 x hx
        · rw [if_neg hs]
          exact ⟨h1, by simp; omega⟩
    · rw [if_neg hm] at h; cases h
/-- What Tight tells. -/
def tightS (N : Int) (eq ge : List S59) : Int × List S59 × List S59 × Bool := match rowsS 0 eq, rowsS 1 ge with
  | some a, some b => (N, a, b, true)
  | _, _ => (0, [], [], false)
theorem Tight_spec {N : Nat} (n : Int) (eq ge : List S59) (he : ∀ f ∈ eq, okF N f) (hg : ∀ f ∈ ge, okF N f) (hN : N ≤ 16) (le : eq.length ≤ 70) (lg : ge.length ≤ 70) (k : Nat) (hk : 17179869300 ≤ k) : sys_Tight.f k n eq ge = some (tightS n eq ge) := by
  unfold sys_Tight.f tightS
  rw [rows_spec 0 (.inl rfl) eq he hN le k hk, rows_spec 1 (.inr rfl) ge hg hN lg k hk, Option.bind_some, Option.bind_some]
  cases rowsS 0 eq <;> cases rowsS 1 ge <;> simp [rowsR]
/-- Does all of a system hold at a point. -/
def holdsAll (eq ge : List S59) (p : List Int) : Bool := eq.all (fun f => decide (holdsF 0 f.f0 f.f1 p)) && ge.all (fun f => decide (holdsF 1 f.f0 f.f1 p))
theorem holdsAll_iff {eq ge : List S59} {p : List Int} : holdsAll eq ge p = true ↔ (∀ f ∈ eq, holdsF 0 f.f0 f.f1 p) ∧ ∀ f ∈ ge, holdsF 1 f.f0 f.f1 p := by
  unfold holdsAll
  simp [List.all_eq_true]
theorem idx_spec (G : List Int → Int → Option Bool) (g : S59 → Bool) (l : List S59) (hG : ∀ f ∈ l, G f.f0 f.f1 = some (g f)) (hlen : l.length ≤ 4611686018427387904) : ∀ (d i k : Nat), i + d = l.length → d < k →
    ∃ r : Int, idxF G k l (i : Int) = some r ∧ (0 ≤ r ↔ (l.drop i).any g = true) := by
  intro d
  induction d with
  | zero =>
    intro i k hi hk
    obtain ⟨k, rfl⟩ : ∃ m, k = m + 1 := ⟨k - 1, by omega⟩
    refine ⟨-1, ?_, ?_⟩
    · simp only [idxF]; rw [if_neg (by omega)]
    · rw [List.drop_eq_nil_of_le (by omega)]; simp
  | succ d ih =>
    intro i k hi hk
    obtain ⟨k, rfl⟩ : ∃ m, k = m + 1 := ⟨k - 1, by omega⟩
    have hlt : i < l.length := by omega
    have hd : l.drop i = l[i] :: l.drop (i + 1) := List.drop_eq_getElem_cons hlt
    simp only [idxF]
    rw [if_pos (by omega), if_pos (by omega), rd59_at l i hlt, hG _ (List.getElem_mem hlt), Option.bind_some, hd, w_succ hlt hlen]
    by_cases h : g l[i] = true
    · rw [if_pos h]
      exact ⟨i, rfl, by rw [List.any_cons, h, Bool.true_or]; exact ⟨fun _ => rfl, fun _ => by omega⟩⟩
    · rw [if_neg h]
      obtain ⟨r, h1, h2⟩ := ih (i + 1) k (by omega) (by omega)
      exact ⟨r, h1, by rw [h2, List.any_cons]; simp [h]⟩
theorem Holds_spec {N : Nat} (n : Int) (eq ge : List S59) (p : List Int) (he : ∀ f ∈ eq, okF N f) (hg : ∀ f ∈ ge, okF N f) (hN : N ≤ 16) (hp : p.length = N) (hp2 : ∀ x ∈ p, inP x) (le : eq.length ≤ 70) (lg : ge.length ≤ 70) (k : Nat) (hk : 100 ≤ k) : sys_Holds.f k n eq ge p = some (holdsAll eq ge p) := by
  have ho : ∀ f : S59, okF N f → sys_of.f k f.f0 f.f1 p = some (f.f1 + dot f.f0 p) := fun f hf => of_spec f.f0 p f.f1 hf.2.2 (by rw [hf.1, hp]; omega) hf.2.1 hp2 (by rw [hf.1]; exact hN) k (by rw [hf.1]; omega)
  have h1 : ∀ f ∈ eq, isNot k p f.f0 f.f1 = some (!decide (holdsF 0 f.f0 f.f1 p)) := fun f hf => by
    unfold isNot holdsF
    rw [ho f (he f hf), Option.bind_some]
    by_cases h : f.f1 + dot f.f0 p = 0 <;> simp [h]
  have h2 : ∀ f ∈ ge, isNeg k p f.f0 f.f1 = some (!decide (holdsF 1 f.f0 f.f1 p)) := fun f hf => by
    unfold isNeg holdsF
    rw [ho f (hg f hf), Option.bind_some]
    congr 1
    by_cases h : 0 ≤ f.f1 + dot f.f0 p
    · simp [h]
    · simp [h]; omega
  obtain ⟨r, e1, e2⟩ := idx_spec _ (fun f => !decide (holdsF 0 f.f0 f.f1 p)) eq h1 (by omega) eq.length 0 k (by omega) (by omega)
  obtain ⟨s, e3, e4⟩ := idx_spec _ (fun f => !decide (holdsF 1 f.f0 f.f1 p)) ge h2 (by omega) ge.length 0 k (by omega) (by omega)
  have z : ((0 : Nat) : Int) = 0 := rfl
  rw [z] at e1 e3
  rw [List.drop_zero] at e2 e4
  unfold sys_Holds.f
  rw [e1, Option.bind_some]
  have hall : ∀ (l : List S59) (g : S59 → Bool), l.any (fun f => !g f) = !l.all g := fun l g => by
    induction l with
    | nil => rfl
    | cons a l ih => simp only [List.any_cons, List.all_cons, ih, Bool.not_and]
  rw [hall] at e2 e4
  unfold holdsAll
  by_cases h : r ≥ 0
  · rw [if_pos h]
    have := e2.1 h
    rw [Bool.not_eq_true'] at this
    rw [this]; rfl
  · rw [if_neg h, e3, Option.bind_some]
    have h5 : eq.all (fun f => decide (holdsF 0 f.f0 f.f1 p)) = true := by
      cases hq : eq.all (fun f => decide (holdsF 0 f.f0 f.f1 p)) with
      | true => rfl
      | false => rw [hq] at e2; exact absurd (e2.2 rfl) h
    rw [h5, Bool.true_and]
    congr 1
    cases hq : ge.all (fun f => decide (holdsF 1 f.f0 f.f1 p)) with
    | true => rw [hq] at e4; have : ¬ 0 ≤ s := fun z => by have := e4.1 z; cases this
              simp; omega
    | false => rw [hq] at e4; have := e4.2 rfl; simp; omega
/-! as the document's -/
def toR (f : S59) : S65 := ⟨f.f0, f.f1⟩
theorem value_ok {N : Nat} {p : List Int} (hN : N ≤ 16) (hp : p.length = N) (hp2 : ∀ x ∈ p, inP x) {k : Nat} (hk : 100 ≤ k) (f : S59) (hf : okF N f) : furrowref20_value.f k (toR f).f0 (toR f).f1 p = some (f.f1 + dot f.f0 p) :=
  value_spec f.f0 p f.f1 hf.2.2 (by rw [hf.1, hp]; omega) hf.2.1 hp2 (by rw [hf.1]; exact hN) k (by rw [hf.1]; omega)
theorem rHolds_l1 {N : Nat} (n : Int) (eq ge : List S59) (p : List Int) (hg : ∀ f ∈ ge, okF N f) (hN : N ≤ 16) (hp : p.length = N) (hp2 : ∀ x ∈ p, inP x) (lg : ge.length ≤ 70) : ∀ (d i k : Nat), i + d = ge.length → 100 + d < k →
    furrowref20_Holds.l1 k p (i : Int) n (eq.map toR) (ge.map toR) = some ((ge.drop i).all fun f => decide (holdsF 1 f.f0 f.f1 p)) := by
  intro d
  induction d with
  | zero =>
    intro i k hi hk
    obtain ⟨k, rfl⟩ : ∃ m, k = m + 1 := ⟨k - 1, by omega⟩
    simp only [furrowref20_Holds.l1, List.length_map]
    rw [if_neg (by omega), List.drop_eq_nil_of_le (by omega)]
    rfl
  | succ d ih =>
    intro i k hi hk
    obtain ⟨k, rfl⟩ : ∃ m, k = m + 1 := ⟨k - 1, by omega⟩
    have hlt : i < ge.length := by omega
    have hd : ge.drop i = ge[i] :: ge.drop (i + 1) := List.drop_eq_getElem_cons hlt
    simp only [furrowref20_Holds.l1, List.length_map]
    rw [if_pos (by omega), if_pos (by omega), rd65_at _ i (by rw [List.length_map]; exact hlt), List.getElem_map, value_ok hN hp hp2 (by omega) _ (hg _ (List.getElem_mem hlt)), Option.bind_some, hd, List.all_cons, w_succ hlt (by omega)]
    unfold holdsF
    by_cases h : ge[i].f1 + dot ge[i].f0 p < 0
    · rw [if_pos h]
      have : ¬ 0 ≤ ge[i].f1 + dot ge[i].f0 p := by omega
      simp [this]
    · rw [if_neg h, ih (i + 1) k (by omega) (by omega)]
      have : 0 ≤ ge[i].f1 + dot ge[i].f0 p := by omega
      simp [this, holdsF]
theorem rHolds_l0 {N : Nat} (n : Int) (eq ge : List S59) (p : List Int) (he : ∀ f ∈ eq, okF N f) (hg : ∀ f ∈ ge, okF N f) (hN : N ≤ 16) (hp : p.length = N) (hp2 : ∀ x ∈ p, inP x) (le : eq.length ≤ 70) (lg : ge.length ≤ 70) : ∀ (d i k : Nat), i + d = eq.length → 200 + d < k →
    furrowref20_Holds.l0 k p (i : Int) n (eq.map toR) (ge.map toR) = some (((eq.drop i).all fun f => decide (holdsF 0 f.f0 f.f1 p)) && ge.all fun f => decide (holdsF 1 f.f0 f.f1 p)) := by
  intro d
  induction d with
  | zero =>
    intro i k hi hk
    obtain ⟨k, rfl⟩ : ∃ m, k = m + 1 := ⟨k - 1, by omega⟩
    simp only [furrowref20_Holds.l0, List.length_map]
    have h := rHolds_l1 n eq ge p hg hN hp hp2 lg ge.length 0 k (by omega) (by omega)
    rw [List.drop_zero] at h
    rw [if_neg (by omega), List.drop_eq_nil_of_le (by omega)]
    simpa using h
  | succ d ih =>
    intro i k hi hk
    obtain ⟨k, rfl⟩ : ∃ m, k = m + 1 := ⟨k - 1, by omega⟩
    have hlt : i < eq.length := by omega
    have hd : eq.drop i = eq[i] :: eq.drop (i + 1) := List.drop_eq_getElem_cons hlt
    simp only [furrowref20_Holds.l0, List.length_map]
    rw [if_pos (by omega), if_pos (by omega), rd65_at _ i (by rw [List.length_map]; exact hlt), List.getElem_map, value_ok hN hp hp2 (by omega) _ (he _ (List.getElem_mem hlt)), Option.bind_some, hd, List.all_cons, w_succ hlt (by omega)]
    by_cases h : eq[i].f1 + dot eq[i].f0 p = 0
    · rw [if_pos h, ih (i + 1) k (by omega) (by omega)]
      simp [h, holdsF]
    · rw [if_neg h]
      simp [h, holdsF]
theorem rHolds_spec {N : Nat} (n : Int) (eq ge : List S59) (p : List Int) (he : ∀ f ∈ eq, okF N f) (hg : ∀ f ∈ ge, okF N f) (hN : N ≤ 16) (hp : p.length = N) (hp2 : ∀ x ∈ p, inP x) (le : eq.length ≤ 70) (lg : ge.length ≤ 70) (k : Nat) (hk : 300 ≤ k) : furrowref20_Holds.f k n (eq.map toR) (ge.map toR) p = some (holdsAll eq ge p) := by
  unfold furrowref20_Holds.f holdsAll
  have h := rHolds_l0 n eq ge p he hg hN hp hp2 le lg eq.length 0 k (by omega) (by omega)
  rw [List.drop_zero] at h
  exact h
theorem Of_l1 (n m : Int) (eq ge : List S59) (out : List S65) (lg : ge.length ≤ 70) : ∀ (d i k : Nat) (o : List S65), i + d = ge.length → d < k → o.length = i →
    furrowlaw15_Of.l1 k (i : Int) n eq ge m out o = some (m, out, o ++ (ge.drop i).map toR) := by
  intro d
  induction d with
  | zero =>
    intro i k o hi hk ho
    obtain ⟨k, rfl⟩ : ∃ m, k = m + 1 := ⟨k - 1, by omega⟩
    simp only [furrowlaw15_Of.l1]
    rw [if_neg (by omega), List.drop_eq_nil_of_le (by omega)]
    simp
  | succ d ih =>
    intro i k o hi hk ho
    obtain ⟨k, rfl⟩ : ∃ m, k = m + 1 := ⟨k - 1, by omega⟩
    have hlt : i < ge.length := by omega
    have hd : ge.drop i = ge[i] :: ge.drop (i + 1) := List.drop_eq_getElem_cons hlt
    simp only [furrowlaw15_Of.l1, furrowlaw11_Of.f, Option.bind_some]
    rw [if_pos (by omega), if_pos (by omega), if_pos (by omega), rd59_at ge i hlt, w_succ hlt (by omega), ih (i + 1) k _ (by omega) (by omega) (by simp [ho]), hd, List.append_assoc]
    rfl
theorem Of_l0 (n m : Int) (eq ge : List S59) (le : eq.length ≤ 70) (lg : ge.length ≤ 70) : ∀ (d i k : Nat) (o : List S65), i + d = eq.length → d + 100 < k → o.length = i →
    furrowlaw15_Of.l0 k (i : Int) n eq ge m o = some (m, o ++ (eq.drop i).map toR, ge.map toR) := by
  intro d
  induction d with
  | zero =>
    intro i k o hi hk ho
    obtain ⟨k, rfl⟩ : ∃ m, k = m + 1 := ⟨k - 1, by omega⟩
    simp only [furrowlaw15_Of.l0]
    have h := Of_l1 n m eq ge o lg ge.length 0 k [] (by omega) (by omega) rfl
    rw [List.drop_zero] at h
    rw [if_neg (by omega), List.drop_eq_nil_of_le (by omega)]
    simpa using h
  | succ d ih =>
    intro i k o hi hk ho
    obtain ⟨k, rfl⟩ : ∃ m, k = m + 1 := ⟨k - 1, by omega⟩
    have hlt : i < eq.length := by omega
    have hd : eq.drop i = eq[i] :: eq.drop (i + 1) := List.drop_eq_getElem_cons hlt
    simp only [furrowlaw15_Of.l0, furrowlaw11_Of.f, Option.bind_some]
    rw [if_pos (by omega), if_pos (by omega), if_pos (by omega), rd59_at eq i hlt, w_succ hlt (by omega), ih (i + 1) k _ (by omega) (by omega) (by simp [ho]), hd, List.append_assoc]
    rfl
theorem Of_spec (n : Int) (eq ge : List S59) (le : eq.length ≤ 70) (lg : ge.length ≤ 70) (k : Nat) (hk : 200 ≤ k) : furrowlaw15_Of.f k n eq ge = some (n, eq.map toR, ge.map toR) := by
  unfold furrowlaw15_Of.f
  have h := Of_l0 n n eq ge le lg eq.length 0 k [] (by omega) (by omega) rfl
  rw [List.drop_zero] at h
  simpa using h

end Go.Proofs.YtkkpgjkjkcmcbaaDoor.Pure
