/- Tightened alike, the same; no conditions. -/
import Derived.Test.YtkkpgjkjkcmcbaaDoorPureAny1
import Derived.Test.YtkkpgjkjkcmcbaaDoorXx14
import Derived.Test.YtkkpgjkjkcmcbaaDoorXx12
import Derived.Test.YtkkpgjkjkcmcbaaDoorXx15
import Derived.Laws.Bits64
namespace Go.Proofs.YtkkpgjkjkcmcbaaDoor.Pure
open Go.RowKit Go.Proofs.YtkkpgjkjkcmcbaaDoor.X Go.Proofs.YtkkpgjkjkcmcbaaDoor.Flt Go.Proofs.YtkkpgjkjkcmcbaaDoor.H Go.Proofs.YtkkpgjkjkcmcbaaDoorW.PrintWords Go.Proofs.YtkkpgjkjkcmcbaaDoorW.PrintLast Go.Proofs.YtkkpgjkjkcmcbaaDoorW.PrintMore
set_option linter.unusedVariables false
set_option linter.unusedSimpArgs false
/-! tightened alike -/
theorem rG_l0 (b : Nat) : ∀ (a k : Nat), b < k → furrowref4_Gcd.l0 k (a : Int) (b : Int) = some ((Nat.gcd a b : Nat) : Int) := by
  induction b using Nat.strongRecOn with
  | _ b ih =>
    intro a k hk
    obtain ⟨k, rfl⟩ : ∃ m, k = m + 1 := ⟨k - 1, by omega⟩
    simp only [furrowref4_Gcd.l0]
    by_cases hb : b = 0
    · subst hb
      rw [if_pos (show ((0 : Nat) : Int) = 0 from rfl), Nat.gcd_zero_right]
    · have hlt : a % b < b := Nat.mod_lt _ (by omega)
      have hm : Int.tmod (a : Int) (b : Int) = ((a % b : Nat) : Int) := by rw [Int.tmod_eq_emod_of_nonneg (by omega)]; rfl
      rw [if_neg (by omega), hm, ih (a % b) hlt b k (by omega), Nat.gcd_comm a b, Nat.gcd_rec b a, Nat.gcd_comm]
theorem rsize {a : Int} (h : inC a) : furrowref4_Size.f a = some (a.natAbs : Int) := by
  unfold inC at h
  unfold furrowref4_Size.f; simp only [IntKind.wrap_u64]; split <;> (congr 1; omega)
theorem rG {g : Nat} {c : Int} (hg : g ≤ 1073741824) (hc : inC c) {k : Nat} (hk : 1073741826 ≤ k) : furrowref4_Gcd.f k (g : Int) c = some ((Nat.gcd g c.natAbs : Nat) : Int) := by
  unfold furrowref4_Gcd.f
  rw [rsize (a := (g : Int)) (by unfold inC; omega), rsize hc, Option.bind_some, Option.bind_some, Int.natAbs_natCast]
  exact rG_l0 _ _ k (by unfold inC at hc; omega)
theorem rgcd_l0 (C : List Int) (K : Int) (hC : ∀ c ∈ C, inC c) (hn : C.length ≤ 16) : ∀ (d i k g : Nat), i + d = C.length → 1073741826 + d < k → g ≤ 1073741824 → furrowref20_gcd.l0 k (g : Int) (i : Int) C K = some ((gL g (C.drop i) : Nat) : Int) := by
  intro d
  induction d with
  | zero =>
    intro i k g hi hk hg
    obtain ⟨k, rfl⟩ : ∃ m, k = m + 1 := ⟨k - 1, by omega⟩
    simp only [furrowref20_gcd.l0]
    rw [if_neg (by omega), List.drop_eq_nil_of_le (by omega), w64 (by omega)]; rfl
  | succ d ih =>
    intro i k g hi hk hg
    obtain ⟨k, rfl⟩ : ∃ m, k = m + 1 := ⟨k - 1, by omega⟩
    have hlt : i < C.length := by omega
    have hc := hC C[i] (List.getElem_mem hlt)
    simp only [furrowref20_gcd.l0]
    rw [if_pos (by omega), if_pos (by omega), rd_at C i hlt, w64 (a := (g : Int)) (by omega), rG hg hc (by omega), Option.bind_some, w_succ hlt (by omega), List.drop_eq_getElem_cons hlt]
    refine ih (i + 1) k _ (by omega) (by omega) ?_
    rcases Nat.eq_zero_or_pos g with h | h
    · subst h; rw [Nat.gcd_zero_left]; unfold inC at hc; omega
    · exact Nat.le_trans (Nat.gcd_le_left _ h) hg
theorem rgcd (C : List Int) (K : Int) (hC : ∀ c ∈ C, inC c) (hn : C.length ≤ 16) {k : Nat} (hk : 1073741900 ≤ k) : furrowref20_gcd.f k C K = some ((gL 0 C : Nat) : Int) := rgcd_l0 C K hC hn C.length 0 k 0 (by omega) (by omega) (by omega)
theorem less_l0 (C : List Int) (K g k2 : Int) (hg : g ≠ 0) (hC : ∀ c ∈ C, inC c) (hn : C.length ≤ 16) : ∀ (d i k : Nat) (A : List Int), i + d = C.length → d < k → A.length = i → furrowref20_less.l0 k g (i : Int) C K (A ++ List.replicate d 0) k2 = some (A ++ quoL g (C.drop i), k2) := by
  intro d
  induction d with
  | zero =>
    intro i k A hi hk hA
    obtain ⟨k, rfl⟩ : ∃ m, k = m + 1 := ⟨k - 1, by omega⟩
    simp only [furrowref20_less.l0]
    rw [if_neg (by omega), List.drop_eq_nil_of_le (by omega)]; rfl
  | succ d ih =>
    intro i k A hi hk hA
    obtain ⟨k, rfl⟩ : ∃ m, k = m + 1 := ⟨k - 1, by omega⟩
    have hlt : i < C.length := by omega
    have hc := hC C[i] (List.getElem_mem hlt)
    have hd := tdiv_in (a := C[i]) (b := g) (by unfold inC at hc; omega)
    simp only [furrowref20_less.l0]
    rw [if_pos (by omega), if_pos (by omega), if_neg hg, if_pos (by simp; omega), rd_at C i hlt, w64 (a := Int.tdiv C[i] g) (by omega), w_succ hlt (by omega), Int.toNat_natCast, List.set_append_right _ _ (by omega), hA, Nat.sub_self, List.replicate_succ, List.set_cons_zero, List.drop_eq_getElem_cons hlt]
    have := ih (i + 1) k (A ++ [Int.tdiv C[i] g]) (by omega) (by omega) (by simp; omega)
    rw [List.append_assoc] at this
    rw [show A ++ Int.tdiv C[i] g :: List.replicate d 0 = A ++ ([Int.tdiv C[i] g] ++ List.replicate d 0) from rfl, this, List.append_assoc]; rfl
theorem rless (C : List Int) (K g k2 : Int) (hg : g ≠ 0) (hC : ∀ c ∈ C, inC c) (hn : C.length ≤ 16) {k : Nat} (hk : 20 ≤ k) : furrowref20_less.f k C K g k2 = some (quoL g C, k2) := by
  unfold furrowref20_less.f furrowref14_Const.f
  rw [if_neg (by omega), if_pos (by omega), if_pos (by omega), Option.bind_some, Int.toNat_natCast]
  exact less_l0 C K g k2 hg hC hn C.length 0 k [] (by omega) (by omega) rfl
theorem tS_zero {C : List Int} {K kind : Int} (h : gL 0 C = 0) : tS C K kind = ([], 0, false, decide (K = 0) || (kind == 1 && decide (K > 0))) := by unfold tS; rw [if_pos h]
theorem quoL_one (C : List Int) : quoL 1 C = C := by unfold quoL; simp
theorem tS_div {C : List Int} {K : Int} (h : gL 0 C ≠ 0) (hm : Int.tmod K (gL 0 C : Int) = 0) : tS C K 0 = (quoL (gL 0 C : Int) C, Int.tdiv K (gL 0 C : Int), true, true) := by
  unfold tS
  rw [if_neg h]
  by_cases h1 : gL 0 C = 1
  · rw [if_pos h1, h1]; simp [quoL_one]
  · rw [if_neg h1, if_neg (fun z => z.2 hm)]
    have : Int.tdiv K (gL 0 C : Int) = K / (gL 0 C : Int) := Int.tdiv_eq_ediv_of_dvd (Int.dvd_iff_tmod_eq_zero.2 hm)
    rw [this]
theorem tS_rest {C : List Int} {K : Int} (h : gL 0 C ≠ 0) (hm : Int.tmod K (gL 0 C : Int) ≠ 0) : tS C K 0 = ([], 0, false, false) := by
  unfold tS
  rw [if_neg h, if_neg (fun z => hm (by rw [z]; simp)), if_pos ⟨rfl, hm⟩]
theorem tS_one {C : List Int} {K : Int} (h : gL 0 C ≠ 0) : tS C K 1 = (quoL (gL 0 C : Int) C, K / (gL 0 C : Int), true, true) := by
  unfold tS
  rw [if_neg h]
  by_cases h1 : gL 0 C = 1
  · rw [if_pos h1, h1]; simp [quoL_one]
  · rw [if_neg h1, if_neg (by omega)]
theorem rt_l1 {N : Nat} (n m : Int) (E A : List S65) (ge : List S59) (hg : ∀ f ∈ ge, okF N f) (hN : N ≤ 16) (lg : ge.length ≤ 70) : ∀ (d i k : Nat) (out : List S65), i + d = ge.length → 1073742000 + 2 * d < k → out.length ≤ i →
    furrowref20_Tight.l1 k (i : Int) n E (ge.map toR) m A out = some (match rowsS 1 (ge.drop i) with | some r => (m, A, out ++ r.map toR, true) | none => (0, [], [], false)) := by
  intro d
  induction d with
  | zero =>
    intro i k out hi hk ho
    obtain ⟨k, rfl⟩ : ∃ m, k = m + 1 := ⟨k - 1, by omega⟩
    simp only [furrowref20_Tight.l1, List.length_map]
    rw [if_neg (by omega), List.drop_eq_nil_of_le (by omega)]; simp [rowsS]
  | succ d ih =>
    intro i k out hi hk ho
    obtain ⟨k, rfl⟩ : ∃ m, k = m + 2 := ⟨k - 2, by omega⟩
    have hlt : i < ge.length := by omega
    obtain ⟨f1, f2, f3⟩ := hg ge[i] (List.getElem_mem hlt)
    have hr : rd_T65 (ge.map toR) (i : Int) = toR ge[i] := by rw [rd65_at _ i (by simpa using hlt)]; simp
    have hgl := gL_le f2
    simp only [furrowref20_Tight.l1, List.length_map]
    rw [if_pos (by omega), if_pos (by omega), hr, List.drop_eq_getElem_cons hlt]
    simp only [toR, rowsS]
    rw [rgcd _ _ f2 (by omega) (by omega), Option.bind_some]
    by_cases h : gL 0 ge[i].f0 = 0
    · rw [if_pos (by omega)]
      simp only [furrowref20_Tight.j3]
      rw [tS_zero h]
      by_cases h2 : ge[i].f1 < 0
      · refine (if_pos (decide_eq_true h2)).trans ?_; rw [if_neg (by simp; omega)]
      · refine (if_neg (fun z => h2 (of_decide_eq_true z))).trans ?_; rw [if_pos (by omega), w_succ hlt (by omega), if_pos (by simp; omega)]
        have := ih (i + 1) k out (by omega) (by omega) (by omega)
        rw [show ((i + 1 : Nat) : Int) = ((i + 1 : Nat) : Int) from rfl, this]
        cases rowsS 1 (ge.drop (i + 1)) <;> rfl
    · rw [if_neg (by omega)]
      simp only [furrowref20_Tight.j3]
      have hfl : furrowref4_Floor.f k ge[i].f1 (gL 0 ge[i].f0 : Int) = some (ge[i].f1 / (gL 0 ge[i].f0 : Int), true) := by
        rw [← floor_spec (a := ge[i].f1) (b := (gL 0 ge[i].f0 : Int)) (k := k) (by unfold inC at f3; omega) (by omega) (by omega)]
        obtain ⟨q, rfl⟩ : ∃ m, k = m + 1 := ⟨k - 1, by omega⟩
        rfl
      rw [if_neg (by simp), if_neg (by omega), hfl, Option.bind_some, rless _ _ _ _ (by omega) f2 (by omega) (by omega), Option.bind_some, if_pos (by omega), w_succ hlt (by omega), tS_one h, if_pos rfl, ih (i + 1) k _ (by omega) (by omega) (by simp; omega)]
      cases rowsS 1 (ge.drop (i + 1)) with
      | none => rfl
      | some r => simp [toR]
theorem rt_l0 {N : Nat} (n : Int) (eq ge : List S59) (he : ∀ f ∈ eq, okF N f) (hg : ∀ f ∈ ge, okF N f) (hN : N ≤ 16) (le : eq.length ≤ 70) (lg : ge.length ≤ 70) : ∀ (d i k : Nat) (out : List S65), i + d = eq.length → 1073742200 + 2 * d < k → out.length ≤ i →
    furrowref20_Tight.l0 k (i : Int) n (eq.map toR) (ge.map toR) n out = some (match rowsS 0 (eq.drop i), rowsS 1 ge with | some a, some b => (n, out ++ a.map toR, b.map toR, true) | _, _ => (0, [], [], false)) := by
  intro d
  induction d with
  | zero =>
    intro i k out hi hk ho
    obtain ⟨k, rfl⟩ : ∃ m, k = m + 1 := ⟨k - 1, by omega⟩
    simp only [furrowref20_Tight.l0, List.length_map]
    have := rt_l1 n n (eq.map toR) out ge hg hN lg ge.length 0 k [] (by omega) (by omega) (by simp)
    rw [show ((0 : Nat) : Int) = 0 from rfl] at this
    rw [if_neg (by omega), List.drop_eq_nil_of_le (by omega), this]
    simp only [rowsS, List.drop_zero]
    cases rowsS 1 ge <;> simp
  | succ d ih =>
    intro i k out hi hk ho
    obtain ⟨k, rfl⟩ : ∃ m, k = m + 2 := ⟨k - 2, by omega⟩
    have hlt : i < eq.length := by omega
    obtain ⟨f1, f2, f3⟩ := he eq[i] (List.getElem_mem hlt)
    have hr : rd_T65 (eq.map toR) (i : Int) = toR eq[i] := by rw [rd65_at _ i (by simpa using hlt)]; simp
    have hgl := gL_le f2
    simp only [furrowref20_Tight.l0, List.length_map]
    rw [if_pos (by omega), if_pos (by omega), hr, List.drop_eq_getElem_cons hlt]
    simp only [toR, rowsS]
    rw [rgcd _ _ f2 (by omega) (by omega), Option.bind_some]
    by_cases h : gL 0 eq[i].f0 = 0
    · rw [if_pos (by omega)]
      simp only [furrowref20_Tight.j1]
      rw [tS_zero h]
      by_cases h2 : eq[i].f1 = 0
      · rw [if_neg (by simp [h2]), if_pos (by omega), w_succ hlt (by omega), if_pos (by simp [h2]), ih (i + 1) k out (by omega) (by omega) (by omega)]
        cases rowsS 0 (eq.drop (i + 1)) <;> rfl
      · rw [if_pos (by simp [h2]), if_neg (by simp [h2])]
    · rw [if_neg (by omega)]
      simp only [furrowref20_Tight.j1]
      rw [if_neg (by simp), if_neg (by omega)]
      by_cases hm : Int.tmod eq[i].f1 (gL 0 eq[i].f0 : Int) = 0
      · have hd := tdiv_in (a := eq[i].f1) (b := (gL 0 eq[i].f0 : Int)) (by unfold inC at f3; omega)
        rw [if_pos hm, w64 (a := Int.tdiv _ _) (by omega), rless _ _ _ _ (by omega) f2 (by omega) (by omega), Option.bind_some, if_pos (by omega), w_succ hlt (by omega), tS_div h hm, if_pos rfl, ih (i + 1) k _ (by omega) (by omega) (by simp; omega)]
        cases rowsS 0 (eq.drop (i + 1)) with
        | none => rfl
        | some r => cases rowsS 1 ge <;> simp [toR]
      · rw [if_neg hm, tS_rest h hm, if_neg (by simp)]
theorem rtight {N : Nat} (n : Int) (eq ge : List S59) (he : ∀ f ∈ eq, okF N f) (hg : ∀ f ∈ ge, okF N f) (hN : N ≤ 16) (le : eq.length ≤ 70) (lg : ge.length ≤ 70) {k : Nat} (hk : 1073742500 ≤ k) : furrowref20_Tight.f k n (eq.map toR) (ge.map toR) = some ((tightS n eq ge).1, (tightS n eq ge).2.1.map toR, (tightS n eq ge).2.2.1.map toR, (tightS n eq ge).2.2.2) := by
  unfold furrowref20_Tight.f tightS
  have := rt_l0 n eq ge he hg hN le lg eq.length 0 k [] (by omega) (by omega) (by simp)
  rw [show ((0 : Nat) : Int) = 0 from rfl] at this
  rw [this, List.drop_zero]
  cases rowsS 0 eq <;> cases rowsS 1 ge <;> rfl
theorem tightS_len {N : Nat} {n : Int} {eq ge : List S59} (he : ∀ f ∈ eq, okF N f) (hg : ∀ f ∈ ge, okF N f) : (tightS n eq ge).2.1.length ≤ eq.length ∧ (tightS n eq ge).2.2.1.length ≤ ge.length := by
  unfold tightS
  cases h1 : rowsS 0 eq with
  | none => simp
  | some a =>
    cases h2 : rowsS 1 ge with
    | none => simp
    | some b => exact ⟨(rowsS_ok eq a he h1).2, (rowsS_ok ge b hg h2).2⟩
theorem tightS_small {N : Nat} {n : Int} {eq ge : List S59} (he : ∀ f ∈ eq, okF N f) (hg : ∀ f ∈ ge, okF N f) (hN : N ≤ 16) : (∀ f ∈ (tightS n eq ge).2.1.map toR, f.f0.length ≤ 1000) ∧ ∀ f ∈ (tightS n eq ge).2.2.1.map toR, f.f0.length ≤ 1000 := by
  have key : ∀ (l r : List S59) (kind : Int), (∀ f ∈ l, okF N f) → rowsS kind l = some r → ∀ f ∈ r.map toR, f.f0.length ≤ 1000 := by
    intro l r kind hl h f hf
    obtain ⟨g, hg, rfl⟩ := List.mem_map.1 hf
    have := ((rowsS_ok l r hl h).1 g hg).1
    show g.f0.length ≤ 1000
    omega
  unfold tightS
  cases h1 : rowsS 0 eq with
  | none => simp
  | some a =>
    cases h2 : rowsS 1 ge with
    | none => simp
    | some b => exact ⟨key eq a 0 he h1, key ge b 1 hg h2⟩
/-! what is the same is the same -/
theorem same_l0 (C : List Int) (K : Int) (hC : C.length ≤ 1000) : ∀ (d i k : Nat), i + d = C.length → 2 * d + 1 < k → furrowref14_Same.l0 k (i : Int) C K C K = some true := by
  intro d
  induction d with
  | zero =>
    intro i k hi hk
    obtain ⟨k, rfl⟩ : ∃ m, k = m + 2 := ⟨k - 2, by omega⟩
    simp only [furrowref14_Same.l0]
    rw [if_neg (by omega), decide_eq_false (by omega)]
    simp only [furrowref14_Same.j1]
    simp
  | succ d ih =>
    intro i k hi hk
    obtain ⟨k, rfl⟩ : ∃ m, k = m + 2 := ⟨k - 2, by omega⟩
    have hlt : i < C.length := by omega
    have hc : furrowref14_coef.f C K (i : Int) = some C[i] := by
      unfold furrowref14_coef.f; rw [if_neg (by omega), if_pos (by omega), if_pos (by omega), rd_at C i hlt]
    simp only [furrowref14_Same.l0]
    rw [if_pos (by omega)]
    simp only [furrowref14_Same.j1]
    rw [if_pos True.intro, hc, Option.bind_some, Option.bind_some, if_pos rfl, w_succ hlt (by omega)]
    exact ih (i + 1) k (by omega) (by omega)
theorem sameF_l0 (L : List S65) (hL : L.length ≤ 1000) (hC : ∀ f ∈ L, f.f0.length ≤ 1000) : ∀ (d i k : Nat), i + d = L.length → 2100 + d < k → furrowlaw15_sameForms.l0 k L L (i : Int) = some true := by
  intro d
  induction d with
  | zero =>
    intro i k hi hk
    obtain ⟨k, rfl⟩ : ∃ m, k = m + 1 := ⟨k - 1, by omega⟩
    simp only [furrowlaw15_sameForms.l0]
    rw [if_neg (by omega)]
  | succ d ih =>
    intro i k hi hk
    obtain ⟨k, rfl⟩ : ∃ m, k = m + 1 := ⟨k - 1, by omega⟩
    have hlt : i < L.length := by omega
    have hc := hC L[i] (List.getElem_mem hlt)
    simp only [furrowlaw15_sameForms.l0]
    rw [if_pos (by omega), if_pos (by omega), if_pos (by omega), if_pos True.intro, rd65_at L i hlt]
    have := same_l0 L[i].f0 L[i].f1 hc L[i].f0.length 0 k (by omega) (by omega)
    unfold furrowref14_Same.f
    rw [show ((0 : Nat) : Int) = 0 from rfl] at this
    rw [this, Option.bind_some, if_pos rfl, w_succ hlt (by omega)]
    exact ih (i + 1) k (by omega) (by omega)
theorem same_refl (n : Int) (A B : List S65) (hA : A.length ≤ 1000) (hB : B.length ≤ 1000) (cA : ∀ f ∈ A, f.f0.length ≤ 1000) (cB : ∀ f ∈ B, f.f0.length ≤ 1000) {k : Nat} (hk : 4000 ≤ k) : furrowlaw15_Same.f k n A B n A B = some true := by
  unfold furrowlaw15_Same.f furrowlaw15_sameForms.f
  have h1 := sameF_l0 A hA cA A.length 0 k (by omega) (by omega)
  have h2 := sameF_l0 B hB cB B.length 0 k (by omega) (by omega)
  rw [show ((0 : Nat) : Int) = 0 from rfl] at h1 h2
  rw [if_pos rfl, if_pos rfl, if_pos rfl, h1, h2]; rfl

end Go.Proofs.YtkkpgjkjkcmcbaaDoor.Pure
