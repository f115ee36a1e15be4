/- What is known of each variable, on both sides; no conditions. -/
import Derived.Test.YtkkpgjkjkcmcbaaDoorPureAny1
import Derived.Test.YtkkpgjkjkcmcbaaDoorXx21
import Derived.Laws.Bits64
namespace Go.Proofs.YtkkpgjkjkcmcbaaDoor.Pure
open Go.RowKit Go.Proofs.YtkkpgjkjkcmcbaaDoor.X Go.Proofs.YtkkpgjkjkcmcbaaDoor.Flt Go.Proofs.YtkkpgjkjkcmcbaaDoor.H Go.Proofs.YtkkpgjkjkcmcbaaDoorW.PrintWords Go.Proofs.YtkkpgjkjkcmcbaaDoorW.PrintLast Go.Proofs.YtkkpgjkjkcmcbaaDoorW.PrintMore
set_option linter.unusedVariables false
set_option linter.unusedSimpArgs false
/-! what is known of each variable: the same on both sides -/
instance decInP (a : Int) : Decidable (inP a) := by unfold inP; infer_instance
def okS (s : S92) : Bool := s.f2 && (s.f3 && (decide (inP s.f0) && decide (inP s.f1)))
def fin (l : List S92) : List Int × List Int × Bool := if l.all okS then (l.map S92.f0, l.map S92.f1, true) else ([], [], false)
theorem far_spec (a : Int) : H.sys_far.f a = some (!decide (inP a)) := by
  unfold H.sys_far.f
  by_cases h : a > 268435456
  · rw [if_pos h, decide_eq_false (by unfold inP; omega)]; rfl
  · rw [if_neg h]
    by_cases h2 : a < -268435456
    · rw [decide_eq_true h2, decide_eq_false (by unfold inP; omega)]; rfl
    · rw [decide_eq_false h2, decide_eq_true (by unfold inP; omega)]; rfl
theorem bey_spec (a : Int) : furrowref20_beyond.f a 268435456 = some (!decide (inP a)) := by
  unfold furrowref20_beyond.f
  have hw : wrap64 (-268435456) = -268435456 := by decide +kernel
  rw [hw]
  exact far_spec a
theorem not_iff_false {p : Prop} [Decidable p] (h : ¬ p) : decide p = false := decide_eq_false h
theorem sb_l2 (l : List S92) (hl : l.length ≤ 16) : ∀ (d i k : Nat) (lo hi : List Int), i + d = l.length → d < k → lo.length = i → hi.length = i →
    sys_Bounds.l2 k lo hi l (l.length : Int) (i : Int) = some (if (l.drop i).all okS then (lo ++ (l.drop i).map S92.f0, hi ++ (l.drop i).map S92.f1, true) else ([], [], false)) := by
  intro d
  induction d with
  | zero =>
    intro i k lo hi hi' hk h1 h2
    obtain ⟨k, rfl⟩ : ∃ m, k = m + 1 := ⟨k - 1, by omega⟩
    simp only [sys_Bounds.l2]
    rw [if_neg (by omega), List.drop_eq_nil_of_le (by omega)]; simp
  | succ d ih =>
    intro i k lo hi hi' hk h1 h2
    obtain ⟨k, rfl⟩ : ∃ m, k = m + 1 := ⟨k - 1, by omega⟩
    have hlt : i < l.length := by omega
    simp only [sys_Bounds.l2]
    rw [if_pos (by omega), if_pos (by omega), if_pos (by omega), rd92_at l i hlt, List.drop_eq_getElem_cons hlt, w_succ hlt (by omega), far_spec, far_spec]
    simp only [Option.bind_some, List.all_cons, List.map_cons, List.length_cons, List.length_nil]
    by_cases a1 : l[i].f2 = true
    · by_cases a2 : l[i].f3 = true
      · by_cases a3 : inP l[i].f0
        · by_cases a4 : inP l[i].f1
          · rw [if_pos a1, if_pos a2, if_neg (by simp [a3]), if_neg (by simp [a4]), if_pos (by omega), if_pos (by omega), ih (i + 1) k _ _ (by omega) (by omega) (by simp; omega) (by simp; omega)]
            have : okS l[i] = true := by unfold okS; rw [a1, a2, decide_eq_true a3, decide_eq_true a4]; rfl
            rw [this]; simp
          · have : okS l[i] = false := by unfold okS; rw [a1, a2, decide_eq_true a3, decide_eq_false a4]; rfl
            rw [if_pos a1, if_pos a2, if_neg (by simp [a3]), if_pos (by simp [a4]), this]; simp
        · have : okS l[i] = false := by unfold okS; rw [a1, a2, decide_eq_false a3]; rfl
          rw [if_pos a1, if_pos a2, if_pos (by simp [a3]), this]; simp
      · have : okS l[i] = false := by unfold okS; simp [a1, a2]
        rw [if_pos a1, if_neg a2, this]; simp
    · have : okS l[i] = false := by unfold okS; simp [a1]
      rw [if_neg a1, this]; simp
theorem sb_fin (l : List S92) (hl : l.length ≤ 16) (k : Nat) (hk : 20 ≤ k) : sys_Bounds.l2 k [] [] l (l.length : Int) 0 = some (fin l) := by
  have := sb_l2 l hl l.length 0 k [] [] (by omega) (by omega) rfl rfl
  simpa [fin] using this
theorem eta92 (s : S92) : (⟨s.f0, s.f1, s.f2, s.f3⟩ : S92) = s := rfl
theorem sb_l1 {N : Nat} (hN : N ≤ 16) (ge : List S59) (hg : ∀ f ∈ ge, okF N f) (lg : ge.length ≤ 70) : ∀ (d i k : Nat) (l : List S92), i + d = ge.length → 100 + d < k → l.length = N →
    sys_Bounds.l1 k l ge (ge.length : Int) (i : Int) = some (fin ((ge.drop i).foldl (stF false) l)) := by
  intro d
  induction d with
  | zero =>
    intro i k l hi hk hl
    obtain ⟨k, rfl⟩ : ∃ m, k = m + 1 := ⟨k - 1, by omega⟩
    simp only [sys_Bounds.l1]
    rw [if_neg (by omega), List.drop_eq_nil_of_le (by omega), sb_fin l (by omega) k (by omega)]; rfl
  | succ d ih =>
    intro i k l hi hk hl
    obtain ⟨k, rfl⟩ : ∃ m, k = m + 1 := ⟨k - 1, by omega⟩
    have hlt : i < ge.length := by omega
    obtain ⟨f1, f2, f3⟩ := hg ge[i] (List.getElem_mem hlt)
    simp only [sys_Bounds.l1]
    rw [if_pos (by omega), if_pos (by omega), if_pos (by omega), rd59_at ge i hlt, List.drop_eq_getElem_cons hlt, w_succ hlt (by omega), salone _ (by omega) (by omega)]
    simp only [Option.bind_some, List.foldl_cons]
    have hs : stF false l ge[i] = if alone ge[i].f0 < 0 then l else l.set (alone ge[i].f0).toNat (stp false (rd ge[i].f0 (alone ge[i].f0)) ge[i].f1 (rd_T92 l (alone ge[i].f0))) := rfl
    rcases alone_in ge[i].f0 with h | ⟨n, h1, h2, h3⟩
    · rw [if_neg (by omega), ih (i + 1) k l (by omega) (by omega) hl, hs, if_pos h]
    · have hc : inC (rd ge[i].f0 (n : Int)) := by rw [rd_at _ n h2]; exact f2 _ (List.getElem_mem h2)
      rw [h1] at hs ⊢
      rw [if_neg (by omega)] at hs
      rw [if_pos (by omega), if_pos (by omega), if_pos (by omega), if_pos (by omega), take_ge hc f3 h3]
      simp only [Option.bind_some, eta92]
      rw [← hs, ih (i + 1) k _ (by omega) (by omega) (by rw [stF_len]; exact hl)]
theorem sb_l0 {N : Nat} (n : Int) (hN : N ≤ 16) (eq ge : List S59) (he : ∀ f ∈ eq, okF N f) (hg : ∀ f ∈ ge, okF N f) (le : eq.length ≤ 70) (lg : ge.length ≤ 70) : ∀ (d i k : Nat) (l : List S92), i + d = eq.length → 200 + d < k → l.length = N →
    sys_Bounds.l0 k l eq (eq.length : Int) (i : Int) n eq ge = some (fin (ge.foldl (stF false) ((eq.drop i).foldl (stF true) l))) := by
  intro d
  induction d with
  | zero =>
    intro i k l hi hk hl
    obtain ⟨k, rfl⟩ : ∃ m, k = m + 1 := ⟨k - 1, by omega⟩
    simp only [sys_Bounds.l0]
    rw [if_neg (by omega), List.drop_eq_nil_of_le (by omega)]
    exact sb_l1 hN ge hg lg ge.length 0 k l (by omega) (by omega) hl
  | succ d ih =>
    intro i k l hi hk hl
    obtain ⟨k, rfl⟩ : ∃ m, k = m + 1 := ⟨k - 1, by omega⟩
    have hlt : i < eq.length := by omega
    obtain ⟨f1, f2, f3⟩ := he eq[i] (List.getElem_mem hlt)
    simp only [sys_Bounds.l0]
    rw [if_pos (by omega), if_pos (by omega), if_pos (by omega), rd59_at eq i hlt, List.drop_eq_getElem_cons hlt, w_succ hlt (by omega), salone _ (by omega) (by omega)]
    simp only [Option.bind_some, List.foldl_cons]
    have hs : stF true l eq[i] = if alone eq[i].f0 < 0 then l else l.set (alone eq[i].f0).toNat (stp true (rd eq[i].f0 (alone eq[i].f0)) eq[i].f1 (rd_T92 l (alone eq[i].f0))) := rfl
    rcases alone_in eq[i].f0 with h | ⟨m, h1, h2, h3⟩
    · rw [if_neg (by omega), ih (i + 1) k l (by omega) (by omega) hl, hs, if_pos h]
    · have hc : inC (rd eq[i].f0 (m : Int)) := by rw [rd_at _ m h2]; exact f2 _ (List.getElem_mem h2)
      rw [h1] at hs ⊢
      rw [if_neg (by omega), Int.toNat_natCast] at hs
      obtain ⟨a, b, c, e, t1, t2⟩ := take_eq (s := rd_T92 l (m : Int)) hc f3 h3
      rw [if_pos (by omega), if_pos (by omega), if_pos (by omega), if_pos (by omega), t1]
      simp only [Option.bind_some, Int.toNat_natCast]
      rw [rd92_at (l.set m ⟨a, b, c, e⟩) m (by rw [List.length_set]; omega), List.getElem_set_self, t2]
      simp only [Option.bind_some, eta92, List.set_set]
      rw [← hs, ih (i + 1) k _ (by omega) (by omega) (by rw [stF_len]; exact hl)]
def bndS (n : Nat) (eq ge : List S59) : List Int × List Int × Bool := fin (ge.foldl (stF false) (eq.foldl (stF true) (List.replicate n z92)))
theorem sbounds {n : Int} (hn : 0 ≤ n ∧ n ≤ 16) (eq ge : List S59) (he : ∀ f ∈ eq, okF n.toNat f) (hg : ∀ f ∈ ge, okF n.toNat f) (le : eq.length ≤ 70) (lg : ge.length ≤ 70) (k : Nat) (hk : 500 ≤ k) : sys_Bounds.f k n eq ge = some (bndS n.toNat eq ge) := by
  unfold sys_Bounds.f
  have hm : mx n 0 = n := by unfold mx; split <;> omega
  rw [hm, if_pos (by omega), if_pos (by omega)]
  exact sb_l0 n (by omega) eq ge he hg le lg eq.length 0 k _ (by omega) (by omega) (by simp)
/-! the document's side -/
theorem rd_map0 (l : List S92) (i : Nat) (h : i < l.length) : rd (l.map S92.f0) (i : Int) = l[i].f0 := by rw [rd_at _ i (by simpa using h)]; simp
theorem rd_map1 (l : List S92) (i : Nat) (h : i < l.length) : rd (l.map S92.f1) (i : Int) = l[i].f1 := by rw [rd_at _ i (by simpa using h)]; simp
theorem rdB_at (l : List Bool) (i : Nat) (h : i < l.length) : rdOf false l (i : Int) = l[i] := by
  unfold rdOf; rw [Int.toNat_natCast, List.getD_eq_getElem?_getD, List.getElem?_eq_getElem h]; rfl
theorem rd_map2 (l : List S92) (i : Nat) (h : i < l.length) : rdOf false (l.map S92.f2) (i : Int) = l[i].f2 := by rw [rdB_at _ i (by simpa using h)]; simp
theorem rd_map3 (l : List S92) (i : Nat) (h : i < l.length) : rdOf false (l.map S92.f3) (i : Int) = l[i].f3 := by rw [rdB_at _ i (by simpa using h)]; simp
theorem rb_l1 (n : Int) (E G : List S65) (l : List S92) (hl : (l.length : Int) = n) (h16 : n ≤ 16) : ∀ (d i k : Nat), i + d = l.length → d < k →
    furrowref20_Bounds.l1 k (i : Int) n E G (l.map S92.f0) (l.map S92.f1) (l.map S92.f2) (l.map S92.f3) = some (if (l.drop i).all okS then (l.map S92.f0, l.map S92.f1, true) else ([], [], false)) := by
  intro d
  induction d with
  | zero =>
    intro i k hi hk
    obtain ⟨k, rfl⟩ : ∃ m, k = m + 1 := ⟨k - 1, by omega⟩
    simp only [furrowref20_Bounds.l1]
    rw [if_neg (by omega), List.drop_eq_nil_of_le (by omega)]; simp
  | succ d ih =>
    intro i k hi hk
    obtain ⟨k, rfl⟩ : ∃ m, k = m + 1 := ⟨k - 1, by omega⟩
    have hlt : i < l.length := by omega
    simp only [furrowref20_Bounds.l1, List.length_map]
    rw [if_pos (by omega), if_pos (by omega), if_pos (by omega), rd_map0 l i hlt, rd_map1 l i hlt, rd_map2 l i hlt, rd_map3 l i hlt, List.drop_eq_getElem_cons hlt, w_succ hlt (by omega), bey_spec, bey_spec, ih (i + 1) k (by omega) (by omega)]
    simp only [Option.bind_some, List.all_cons]
    by_cases a1 : l[i].f2 = true
    · rw [if_pos a1, if_pos (by omega)]
      by_cases a2 : l[i].f3 = true
      · rw [if_pos a2, if_pos (by omega)]
        by_cases a3 : inP l[i].f0
        · rw [if_neg (by simp [a3]), if_pos (by omega)]
          by_cases a4 : inP l[i].f1
          · have : okS l[i] = true := by unfold okS; rw [a1, a2, decide_eq_true a3, decide_eq_true a4]; rfl
            rw [if_neg (by simp [a4])]; simp [this]
          · have : okS l[i] = false := by unfold okS; rw [a1, a2, decide_eq_true a3, decide_eq_false a4]; rfl
            rw [if_pos (by simp [a4])]; simp [this]
        · have : okS l[i] = false := by unfold okS; rw [a1, a2, decide_eq_false a3]; rfl
          rw [if_pos (by simp [a3])]; simp [this]
      · have : okS l[i] = false := by unfold okS; simp [a1, a2]
        rw [if_neg a2]; simp [this]
    · have : okS l[i] = false := by unfold okS; simp [a1]
      rw [if_neg a1]; simp [this]
/-- All forms, from the i-th on; the first m are equalities. -/
def stAll (m : Nat) : Nat → List S59 → List S92 → List S92
  | _, [], l => l
  | i, f :: fs, l => stAll m (i + 1) fs (stF (decide ((i : Int) < (m : Int))) l f)
theorem stAll_ge (m : Nat) : ∀ (fs : List S59) (i : Nat) (l : List S92), m ≤ i → stAll m i fs l = fs.foldl (stF false) l := by
  intro fs
  induction fs with
  | nil => intro i l h; rfl
  | cons f fs ih => intro i l h; unfold stAll; rw [decide_eq_false (by omega), ih _ _ (by omega)]; rfl
theorem stAll_eq (ge : List S59) : ∀ (eq : List S59) (i m : Nat) (l : List S92), i + eq.length = m → stAll m i (eq ++ ge) l = ge.foldl (stF false) (eq.foldl (stF true) l) := by
  intro eq
  induction eq with
  | nil => intro i m l h; exact stAll_ge m ge i l (by simp at h; omega)
  | cons f fs ih => intro i m l h; simp only [List.length_cons] at h; show stAll m (i + 1) (fs ++ ge) _ = _; rw [decide_eq_true (by omega), ih _ _ _ (by omega)]; rfl
theorem rb_l0 {N : Nat} (n : Int) (hn : (N : Int) = n) (hN : N ≤ 16) (E G : List S65) (fs : List S59) (hf : ∀ f ∈ fs, okF N f) (lf : fs.length ≤ 140) : ∀ (d i k : Nat) (l : List S92), i + d = fs.length → 100 + d < k → l.length = N →
    furrowref20_Bounds.l0 k (fs.map toR) (i : Int) n E G (l.map S92.f0) (l.map S92.f1) (l.map S92.f2) (l.map S92.f3) = some (fin (stAll E.length i (fs.drop i) l)) := by
  intro d
  induction d with
  | zero =>
    intro i k l hi hk hl
    obtain ⟨k, rfl⟩ : ∃ m, k = m + 1 := ⟨k - 1, by omega⟩
    simp only [furrowref20_Bounds.l0, List.length_map]
    rw [if_neg (by omega), List.drop_eq_nil_of_le (by omega)]
    have := rb_l1 n E G l (by omega) (by omega) l.length 0 k (by omega) (by omega)
    simpa [fin, stAll] using this
  | succ d ih =>
    intro i k l hi hk hl
    obtain ⟨k, rfl⟩ : ∃ m, k = m + 1 := ⟨k - 1, by omega⟩
    have hlt : i < fs.length := by omega
    obtain ⟨f1, f2, f3⟩ := hf fs[i] (List.getElem_mem hlt)
    have hr : rd_T65 (fs.map toR) (i : Int) = toR fs[i] := by rw [rd65_at _ i (by simpa using hlt)]; simp
    simp only [furrowref20_Bounds.l0, List.length_map]
    rw [if_pos (by omega), if_pos (by omega), hr, List.drop_eq_getElem_cons hlt, w_succ hlt (by omega)]
    show ((furrowref20_alone.f k fs[i].f0 fs[i].f1).bind _) = _
    rw [ralone _ (by omega) (by omega)]
    simp only [Option.bind_some]
    have hs : ∀ e, stF e l fs[i] = if alone fs[i].f0 < 0 then l else l.set (alone fs[i].f0).toNat (stp e (rd fs[i].f0 (alone fs[i].f0)) fs[i].f1 (rd_T92 l (alone fs[i].f0))) := fun _ => rfl
    unfold stAll
    rcases alone_in fs[i].f0 with h | ⟨m, h1, h2, h3⟩
    · rw [if_pos h, ih (i + 1) k l (by omega) (by omega) hl, hs, if_pos h]
    · have hc : inC (rd fs[i].f0 (m : Int)) := by rw [rd_at _ m h2]; exact f2 _ (List.getElem_mem h2)
      have hm : m < l.length := by omega
      have hw : wrap64 (-fs[i].f1) = -fs[i].f1 := w64 (by unfold inC at f3; omega)
      rw [h1] at hs ⊢
      show (if (m : Int) < 0 then _ else if 0 ≤ (m : Int) then if (m : Int) < (fs[i].f0.length : Int) then (furrowref4_Ceil.f k (wrap64 (-fs[i].f1)) (rd fs[i].f0 (m : Int))).bind _ else none else none) = _
      rw [if_neg (by omega), if_pos (by omega), if_pos (by omega), hw, rceil (by unfold inC at f3; omega) h3 (by omega)]
      simp only [Option.bind_some]
      show ((furrowref4_Floor.f k (wrap64 (-fs[i].f1)) (rd fs[i].f0 (m : Int))).bind _) = _
      rw [hw, rfloor (by unfold inC at f3; omega) h3 (by omega)]
      simp only [Option.bind_some]
      rw [if_pos (by omega), if_pos (by omega), rd_map0 l m hm, rd_map1 l m hm, rd_map2 l m hm, rd_map3 l m hm]
      unfold furrowref20_Box_low.f furrowref20_Box_high.f
      simp only [Option.bind_some]
      rw [if_pos (by omega), if_pos (by omega), Int.toNat_natCast]
      have hx : stF (decide ((i : Int) < (E.length : Int))) l fs[i] = l.set m (stp (decide ((i : Int) < (E.length : Int))) (rd fs[i].f0 (m : Int)) fs[i].f1 l[m]) := by
        rw [hs, if_neg (by omega), Int.toNat_natCast, rd92_at l m hm]
      have hi2 := ih (i + 1) k (stF (decide ((i : Int) < (E.length : Int))) l fs[i]) (by omega) (by omega) (by rw [stF_len]; exact hl)
      rw [← hi2, hx, List.map_set, List.map_set, List.map_set, List.map_set]
      rfl
theorem rbounds {n : Int} (hn : 0 ≤ n ∧ n ≤ 16) (eq ge : List S59) (he : ∀ f ∈ eq, okF n.toNat f) (hg : ∀ f ∈ ge, okF n.toNat f) (le : eq.length ≤ 70) (lg : ge.length ≤ 70) (k : Nat) (hk : 500 ≤ k) : furrowref20_Bounds.f k n (eq.map toR) (ge.map toR) = some (bndS n.toNat eq ge) := by
  unfold furrowref20_Bounds.f
  rw [if_pos hn.1, if_pos (by omega), if_pos (by omega), all_spec n _ _ (by simp; omega) (by simp; omega)]
  simp only [Option.bind_some]
  rw [← List.map_append]
  have := rb_l0 (N := n.toNat) n (by omega) (by omega) (eq.map toR) (ge.map toR) (eq ++ ge) (fun f hf => (List.mem_append.1 hf).elim (he f) (hg f)) (by simp; omega) (eq ++ ge).length 0 k (List.replicate n.toNat z92) (by omega) (by simp; omega) (by simp)
  simp only [List.map_replicate, List.drop_zero, List.length_map] at this
  rw [stAll_eq ge eq 0 eq.length _ (by omega)] at this
  exact this

end Go.Proofs.YtkkpgjkjkcmcbaaDoor.Pure
