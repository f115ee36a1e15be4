/- Plain lemmas on systems: the bounds of each variable. -/
import Derived.Test.YtkkpgjkjkcmcbaaDoorPureSys3
import Derived.Test.YtkkpgjkjkcmcbaaDoorHandB
import Derived.Laws.Bits64
namespace Go.Proofs.YtkkpgjkjkcmcbaaDoor.Pure
open Go.RowKit Go.Proofs.YtkkpgjkjkcmcbaaDoor.X Go.Proofs.YtkkpgjkjkcmcbaaDoor.Flt Go.Proofs.YtkkpgjkjkcmcbaaDoor.H Go.Proofs.YtkkpgjkjkcmcbaaDoorW.PrintWords Go.Proofs.YtkkpgjkjkcmcbaaDoorW.PrintLast Go.Proofs.YtkkpgjkjkcmcbaaDoorW.PrintMore
set_option linter.unusedVariables false
set_option linter.unusedSimpArgs false
/-! the bounds of each variable -/
def at0 (C : List Int) (j : Nat) : Int := C.getD j 0
theorem at0_get {C : List Int} {j : Nat} (h : j < C.length) : at0 C j = C[j] := by unfold at0; rw [List.getD_eq_getElem?_getD, List.getElem?_eq_getElem h]; rfl
theorem at0_cons (c : Int) (C : List Int) (j : Nat) : at0 (c :: C) (j + 1) = at0 C j := rfl
theorem dot_one : ∀ (C p : List Int) (n : Nat), n < C.length → n < p.length → (∀ j, j ≠ n → j < C.length → at0 C j = 0) → dot C p = at0 C n * at0 p n
  | [], p, n, h, _, _ => absurd h (by simp)
  | c :: cs, [], n, _, h, _ => absurd h (by simp)
  | c :: cs, x :: xs, n, h1, h2, h => by
    simp only [dot]
    cases n with
    | zero =>
      have : ∀ c ∈ cs, c = 0 := fun z hz => by
        obtain ⟨j, hj, rfl⟩ := List.mem_iff_getElem.1 hz
        have := h (j + 1) (by omega) (by simp; omega)
        rwa [at0_cons, at0_get hj] at this
      rw [dot_zero cs xs this, Int.add_zero]
      rfl
    | succ n =>
      have h0 : c = 0 := h 0 (by omega) (by simp)
      rw [dot_one cs xs n (by simpa using h1) (by simpa using h2) (fun j hj hl => by
        have := h (j + 1) (by omega) (by simp; omega)
        rwa [at0_cons] at this), h0, Int.zero_mul, Int.zero_add]
      rfl
/-- The one variable of a form, or none. -/
def AloneR (C : List Int) (r : Int) : Prop := r < 0 ∨ ∃ n : Nat, r = n ∧ n < C.length ∧ at0 C n ≠ 0 ∧ ∀ j, j ≠ n → j < C.length → at0 C j = 0
def AloneI (C : List Int) (i : Nat) (r : Int) : Prop := (r = -1 ∧ ∀ j, j < i → at0 C j = 0) ∨ ∃ n : Nat, r = n ∧ n < i ∧ at0 C n ≠ 0 ∧ ∀ j, j ≠ n → j < i → at0 C j = 0
theorem alone_l0 (C : List Int) (hn : C.length ≤ 16) : ∀ (d i k : Nat) (r : Int), i + d = C.length → 2 * d < k → AloneI C i r → ∃ r', sys_alone.l0 k r C (C.length : Int) (i : Int) = some r' ∧ AloneR C r' := by
  intro d
  induction d with
  | zero =>
    intro i k r hi hk h
    obtain ⟨k, rfl⟩ : ∃ m, k = m + 1 := ⟨k - 1, by omega⟩
    refine ⟨r, by simp only [sys_alone.l0]; rw [if_neg (by omega)], ?_⟩
    have : i = C.length := by omega
    subst this
    rcases h with ⟨h1, h2⟩ | ⟨n, h1, h2, h3, h4⟩
    · exact .inl (by omega)
    · exact .inr ⟨n, h1, h2, h3, h4⟩
  | succ d ih =>
    intro i k r hi hk h
    obtain ⟨k, rfl⟩ : ∃ m, k = m + 2 := ⟨k - 2, by omega⟩
    have hlt : i < C.length := by omega
    simp only [sys_alone.l0]
    rw [if_pos (by omega), if_pos (by omega), if_pos (by omega), rd_at C i hlt]
    have hc := at0_get hlt
    by_cases h0 : C[i] = 0
    · rw [if_pos h0]
      simp only [sys_alone.j1]
      rw [if_neg (by simp), if_pos h0, w_succ hlt (by omega)]
      refine ih (i + 1) k r (by omega) (by omega) ?_
      rcases h with ⟨h1, h2⟩ | ⟨n, h1, h2, h3, h4⟩
      · refine .inl ⟨h1, fun j hj => ?_⟩
        by_cases e : j = i
        · subst e; omega
        · exact h2 j (by omega)
      · refine .inr ⟨n, h1, by omega, h3, fun j hj hl => ?_⟩
        by_cases e : j = i
        · subst e; omega
        · exact h4 j hj (by omega)
    · rw [if_neg h0]
      rcases h with ⟨h1, h2⟩ | ⟨n, h1, h2, h3, h4⟩
      · subst h1
        rw [show decide ((-1 : Int) ≥ 0) = false from by decide]
        simp only [sys_alone.j1]
        rw [if_neg (by simp), if_neg h0, w_succ hlt (by omega)]
        refine ih (i + 1) k _ (by omega) (by omega) (.inr ⟨i, rfl, by omega, by omega, fun j hj hl => h2 j (by omega)⟩)
      · subst h1
        rw [decide_eq_true (show ((n : Int) ≥ 0) by omega)]
        simp only [sys_alone.j1]
        exact ⟨-1, by simp, .inl (by omega)⟩
theorem alone_spec (C : List Int) (K : Int) (hn : C.length ≤ 16) (k : Nat) (hk : 40 ≤ k) : ∃ r, sys_alone.f k C K = some r ∧ AloneR C r := by
  unfold sys_alone.f
  exact alone_l0 C hn C.length 0 k (-1) (by omega) (by omega) (.inl ⟨rfl, fun j hj => by omega⟩)
/-- What is known of a variable: it is within a span. -/
def inS (s : S92) (x : Int) : Prop := (s.f2 = true → s.f0 ≤ x) ∧ (s.f3 = true → x ≤ s.f1)
theorem take_spec {lo hi c K : Int} {ab be : Bool} (hc : inC c) (hK : inC K) (h0 : c ≠ 0) : ∃ a b d e, sys_span_take.f lo hi ab be c K = some (a, b, d, e) ∧ ∀ x, 0 ≤ K + c * x → inS ⟨lo, hi, ab, be⟩ x → inS ⟨a, b, d, e⟩ x := by
  unfold inC at hc hK
  unfold H.sys_span_take.f
  by_cases hp : c > 0
  · rw [if_pos hp, w64 (a := -K) (by omega)]
    have hf : num_Floor.f 5 (-K) c = some (-K / c, true) := floor_spec (by omega) (by omega) (by omega)
    unfold num_Ceil.f
    rw [hf, Option.bind_some]
    simp only [if_true]
    rw [if_neg h0]
    have he := Int.emod_add_mul_ediv (-K) c
    have hr := Int.emod_nonneg (-K) (b := c) (by omega)
    have hr2 := Int.emod_lt_of_pos (-K) (b := c) hp
    have hm : Int.tmod (-K) c = 0 ↔ (-K) % c = 0 := by rw [← Int.dvd_iff_tmod_eq_zero, Int.dvd_iff_emod_eq_zero]
    have hq : -1073741825 ≤ -K / c ∧ -K / c ≤ 1073741825 := by
      constructor
      · refine (Int.le_ediv_iff_mul_le hp).2 ?_
        have : c * 1073741825 ≥ 1073741825 := by omega
        omega
      · exact Int.le_trans (Int.ediv_le_ediv hp (show -K ≤ 1073741825 by omega)) (Int.ediv_le_self _ (by omega))
    -- the least number that holds
    have key : ∀ n : Int, (∀ x, 0 ≤ K + c * x → n ≤ x) → ∃ a b d e, (some ((loS lo n ab).1, hi, (loS lo n ab).2, be) : Option (Int × Int × Bool × Bool)) = some (a, b, d, e) ∧ ∀ x, 0 ≤ K + c * x → inS ⟨lo, hi, ab, be⟩ x → inS ⟨a, b, d, e⟩ x := fun n hn => by
      refine ⟨_, _, _, _, rfl, fun x hx hs => ⟨fun h => ?_, hs.2⟩⟩
      have h1 := hn x hx
      have h2 := hs.1
      show (loS lo n ab).1 ≤ x
      have h : (loS lo n ab).2 = true := h
      unfold loS at h ⊢
      by_cases q : ab = false ∨ n > lo
      · rw [if_pos q]; exact h1
      · rw [if_neg q] at h ⊢; exact h2 h
    by_cases hz : Int.tmod (-K) c = 0
    · rw [if_pos hz]
      simp only [Option.bind_some, if_true]
      refine key _ fun x hx => ?_
      have : (-K) % c = 0 := hm.1 hz
      refine Int.not_lt.1 fun hl => ?_
      have h2 : c * x ≤ c * (-K / c - 1) := Int.mul_le_mul_of_nonneg_left (by omega) (by omega)
      have h3 : c * (-K / c - 1) = c * (-K / c) - c := by rw [Int.mul_sub, Int.mul_one]
      omega
    · rw [if_neg hz, w64 (a := -K / c + 1) (by omega)]
      simp only [Option.bind_some, if_true]
      refine key _ fun x hx => ?_
      have hne : (-K) % c ≠ 0 := fun z => hz (hm.2 z)
      refine Int.not_lt.1 fun hl => ?_
      have h2 : c * x ≤ c * (-K / c) := Int.mul_le_mul_of_nonneg_left (by omega) (by omega)
      omega
  · rw [if_neg hp, w64 (a := -c) (by omega)]
    have hf : num_Floor.f 5 K (-c) = some (K / (-c), true) := floor_spec (by omega) (by omega) (by omega)
    rw [hf, Option.bind_some]
    simp only [if_true]
    have he := Int.emod_add_mul_ediv K (-c)
    have hr := Int.emod_nonneg K (b := -c) (by omega)
    have hr2 := Int.emod_lt_of_pos K (b := -c) (by omega)
    generalize hq : K / (-c) = q at *
    refine ⟨_, _, _, _, rfl, fun x hx hs => ⟨hs.1, fun h => ?_⟩⟩
    have h2 := hs.2
    have h1 : x ≤ q := by
      refine Int.not_lt.1 fun hl => ?_
      have h3 : -c * (q + 1) ≤ -c * x := Int.mul_le_mul_of_nonneg_left (by omega) (by omega)
      have h4 : -c * (q + 1) = -c * q + -c := by rw [Int.mul_add, Int.mul_one]
      have h5 : -c * x = -(c * x) := Int.neg_mul _ _
      omega
    show x ≤ (hiS hi q be).1
    have h : (hiS hi q be).2 = true := h
    unfold hiS at h ⊢
    by_cases z : be = false ∨ q < hi
    · rw [if_pos z]; exact h1
    · rw [if_neg z] at h ⊢; exact h2 h
theorem rd92_at (l : List S92) (i : Nat) (h : i < l.length) : rd_T92 l (i : Int) = l[i] := by
  unfold rd_T92; rw [Int.toNat_natCast, List.getD_eq_getElem?_getD, List.getElem?_eq_getElem h]; rfl
/-- Each span has its variable. -/
def InvB (HP : Prop) (N : Nat) (p : List Int) (l : List S92) : Prop := l.length = N ∧ (HP → ∀ i, (h : i < l.length) → inS l[i] (at0 p i))
theorem InvB.set {HP : Prop} {N : Nat} {p : List Int} {l : List S92} (h : InvB HP N p l) {n : Nat} {s : S92} (hs : HP → inS s (at0 p n)) : InvB HP N p (l.set n s) := by
  refine ⟨by rw [List.length_set]; exact h.1, fun hH i hi => ?_⟩
  rw [List.getElem_set]
  by_cases e : n = i
  · subst e; rw [if_pos rfl]; exact hs hH
  · rw [if_neg e]; exact h.2 hH i (by rwa [List.length_set] at hi)
def BoundsR (HP : Prop) (N : Nat) (p : List Int) (o : Option (List Int × List Int × Bool)) : Prop := ∃ lo hi is, o = some (lo, hi, is) ∧ (is = true → lo.length = N ∧ hi.length = N ∧ (HP → ∀ i, i < N → at0 lo i ≤ at0 p i ∧ at0 p i ≤ at0 hi i))
theorem bounds_l2 (HP : Prop) (N : Nat) (p : List Int) (hN : N ≤ 16) (l : List S92) (hl : InvB HP N p l) : ∀ (d i k : Nat) (lo hi : List Int), i + d = l.length → d < k → lo.length = i → hi.length = i → (HP → ∀ j, j < i → at0 lo j ≤ at0 p j ∧ at0 p j ≤ at0 hi j) →
    BoundsR HP N p (sys_Bounds.l2 k lo hi l (l.length : Int) (i : Int)) := by
  have hlen := hl.1
  intro d
  induction d with
  | zero =>
    intro i k lo hi hi' hk h1 h2 h3
    obtain ⟨k, rfl⟩ : ∃ m, k = m + 1 := ⟨k - 1, by omega⟩
    refine ⟨lo, hi, true, by simp only [sys_Bounds.l2]; rw [if_neg (by omega)], fun _ => ⟨by omega, by omega, fun hH j hj => h3 hH j (by omega)⟩⟩
  | succ d ih =>
    intro i k lo hi hi' hk h1 h2 h3
    obtain ⟨k, rfl⟩ : ∃ m, k = m + 1 := ⟨k - 1, by omega⟩
    have hlt : i < l.length := by omega
    have no : BoundsR HP N p (some (([] : List Int), ([] : List Int), false)) := ⟨_, _, _, rfl, fun h => Bool.noConfusion h⟩
    have hs := fun hH => hl.2 hH i hlt
    simp only [sys_Bounds.l2]
    rw [if_pos (by omega), if_pos (by omega), if_pos (by omega), rd92_at l i hlt]
    by_cases a2 : l[i].f2 = true
    · rw [if_pos a2]
      by_cases a3 : l[i].f3 = true
      · rw [if_pos a3]
        have hfar : ∀ n, ∃ b, H.sys_far.f n = some b := fun n => by
          unfold H.sys_far.f
          split
          · exact ⟨_, rfl⟩
          · exact ⟨_, rfl⟩
        obtain ⟨b1, e1⟩ := hfar l[i].f0
        obtain ⟨b2, e2⟩ := hfar l[i].f1
        rw [e1, Option.bind_some]
        cases b1 with
        | true => rw [if_pos rfl]; exact no
        | false =>
          rw [if_neg (by simp), e2, Option.bind_some]
          cases b2 with
          | true => rw [if_pos rfl]; exact no
          | false =>
            rw [if_neg (by simp), Option.bind_some, if_pos (by simp; omega), Option.bind_some, if_pos (by simp; omega), w_succ hlt (by omega)]
            refine ih (i + 1) k _ _ (by omega) (by omega) (by simp [h1]) (by simp [h2]) fun hH j hj => ?_
            have hap : ∀ (l : List Int) (z : Int), at0 (l ++ [z]) j = if j < l.length then at0 l j else if j = l.length then z else 0 := fun l z => by
              unfold at0
              rw [List.getD_eq_getElem?_getD, List.getD_eq_getElem?_getD]
              by_cases q : j < l.length
              · rw [if_pos q, List.getElem?_append_left q]
              · rw [if_neg q, List.getElem?_append_right (by omega)]
                by_cases q2 : j = l.length
                · rw [if_pos q2, q2, Nat.sub_self]; rfl
                · rw [if_neg q2, List.getElem?_eq_none (by simp; omega)]; rfl
            rw [hap, hap]
            by_cases q : j < i
            · rw [if_pos (by omega), if_pos (by omega)]; exact h3 hH j q
            · have e : j = i := by omega
              rw [if_neg (by omega), if_pos (by omega), if_neg (by omega), if_pos (by omega), e]
              exact ⟨(hs hH).1 a2, (hs hH).2 a3⟩
      · rw [if_neg a3]; exact no
    · rw [if_neg a2]; exact no
theorem bounds_l1 (HP : Prop) (N : Nat) (p : List Int) (hN : N ≤ 16) (hp : p.length = N) (ge : List S59) (hg : ∀ f ∈ ge, okF N f) (lg : ge.length ≤ 70) (hh : HP → ∀ f ∈ ge, 0 ≤ f.f1 + dot f.f0 p) : ∀ (d i k : Nat) (l : List S92), i + d = ge.length → 100 + d < k → InvB HP N p l →
    BoundsR HP N p (sys_Bounds.l1 k l ge (ge.length : Int) (i : Int)) := by
  intro d
  induction d with
  | zero =>
    intro i k l hi hk hl
    obtain ⟨k, rfl⟩ : ∃ m, k = m + 1 := ⟨k - 1, by omega⟩
    simp only [sys_Bounds.l1]
    rw [if_neg (by omega)]
    have := hl.1
    exact bounds_l2 HP N p hN l hl l.length 0 k [] [] (by omega) (by omega) rfl rfl (fun _ j hj => by omega)
  | succ d ih =>
    intro i k l hi hk hl
    obtain ⟨k, rfl⟩ : ∃ m, k = m + 1 := ⟨k - 1, by omega⟩
    have hlt : i < ge.length := by omega
    have hm := List.getElem_mem hlt
    obtain ⟨f1, f2, f3⟩ := hg _ hm
    obtain ⟨r, e1, e2⟩ := alone_spec ge[i].f0 ge[i].f1 (by omega) k (by omega)
    have hlen := hl.1
    simp only [sys_Bounds.l1]
    rw [if_pos (by omega), if_pos (by omega), if_pos (by omega), rd59_at ge i hlt, e1, Option.bind_some, w_succ hlt (by omega)]
    by_cases hr : r ≥ 0
    · rw [if_pos hr]
      rcases e2 with e2 | ⟨n, rfl, e3, e4, e5⟩
      · omega
      · rw [if_pos (by omega), if_pos (by omega), if_pos (by omega), rd92_at l n (by omega), rd_at _ n e3]
        rw [at0_get e3] at e4
        obtain ⟨a, b, c, e, t1, t2⟩ := take_spec (lo := l[n].f0) (hi := l[n].f1) (ab := l[n].f2) (be := l[n].f3) (f2 _ (List.getElem_mem e3)) f3 e4
        rw [t1, Option.bind_some, Int.toNat_natCast]
        refine ih (i + 1) k _ (by omega) (by omega) (hl.set fun hH => t2 _ ?_ (hl.2 hH n (by omega)))
        have := hh hH _ hm
        rwa [dot_one _ p n e3 (by omega) e5, at0_get e3] at this
    · rw [if_neg hr]
      exact ih (i + 1) k l (by omega) (by omega) hl
theorem bounds_l0 (HP : Prop) (N : Nat) (n : Int) (p : List Int) (hN : N ≤ 16) (hp : p.length = N) (eq ge : List S59) (he : ∀ f ∈ eq, okF N f) (hg : ∀ f ∈ ge, okF N f) (le : eq.length ≤ 70) (lg : ge.length ≤ 70) (hh : HP → (∀ f ∈ eq, f.f1 + dot f.f0 p = 0) ∧ ∀ f ∈ ge, 0 ≤ f.f1 + dot f.f0 p) : ∀ (d i k : Nat) (l : List S92), i + d = eq.length → 200 + d < k → InvB HP N p l →
    BoundsR HP N p (sys_Bounds.l0 k l eq (eq.length : Int) (i : Int) n eq ge) := by
  intro d
  induction d with
  | zero =>
    intro i k l hi hk hl
    obtain ⟨k, rfl⟩ : ∃ m, k = m + 1 := ⟨k - 1, by omega⟩
    simp only [sys_Bounds.l0]
    rw [if_neg (by omega)]
    exact bounds_l1 HP N p hN hp ge hg lg (fun h => (hh h).2) ge.length 0 k l (by omega) (by omega) hl
  | succ d ih =>
    intro i k l hi hk hl
    obtain ⟨k, rfl⟩ : ∃ m, k = m + 1 := ⟨k - 1, by omega⟩
    have hlt : i < eq.length := by omega
    have hm := List.getElem_mem hlt
    obtain ⟨f1, f2, f3⟩ := he _ hm
    obtain ⟨r, e1, e2⟩ := alone_spec eq[i].f0 eq[i].f1 (by omega) k (by omega)
    have hlen := hl.1
    simp only [sys_Bounds.l0]
    rw [if_pos (by omega), if_pos (by omega), if_pos (by omega), rd59_at eq i hlt, e1, Option.bind_some, w_succ hlt (by omega)]
    by_cases hr : r ≥ 0
    · rw [if_pos hr]
      rcases e2 with e2 | ⟨m, rfl, e3, e4, e5⟩
      · omega
      · rw [if_pos (by omega), if_pos (by omega), if_pos (by omega), rd92_at l m (by omega), rd_at _ m e3]
        rw [at0_get e3] at e4
        have hc := f2 _ (List.getElem_mem e3)
        have hc' := hc
        have f3' := f3
        unfold inC at hc' f3'
        have hval : HP → eq[i].f1 + eq[i].f0[m] * at0 p m = 0 := fun hH => by
          have := (hh hH).1 _ hm
          rwa [dot_one _ p m e3 (by omega) e5, at0_get e3] at this
        obtain ⟨a, b, c, e, t1, t2⟩ := take_spec (lo := l[m].f0) (hi := l[m].f1) (ab := l[m].f2) (be := l[m].f3) hc f3 e4
        rw [t1, Option.bind_some, Option.bind_some, Int.toNat_natCast]
        have hl1 : InvB HP N p (l.set m ⟨a, b, c, e⟩) := hl.set fun hH => t2 _ (by have := hval hH; omega) (hl.2 hH m (by omega))
        rw [rd92_at _ m (by rw [List.length_set]; omega), w64 (a := -eq[i].f0[m]) (by omega), w64 (a := -eq[i].f1) (by omega), List.getElem_set_self]
        obtain ⟨a', b', c', e', t3, t4⟩ := take_spec (lo := a) (hi := b) (ab := c) (be := e) (c := -eq[i].f0[m]) (K := -eq[i].f1) (by unfold inC; omega) (by unfold inC; omega) (by omega)
        simp only [] at t3 ⊢
        rw [t3, Option.bind_some]
        refine ih (i + 1) k _ (by omega) (by omega) (hl1.set fun hH => t4 _ ?_ ?_)
        · have := hval hH
          have h5 : -eq[i].f0[m] * at0 p m = -(eq[i].f0[m] * at0 p m) := Int.neg_mul _ _
          omega
        · have := hl1.2 hH m (by rw [List.length_set]; omega)
          rwa [List.getElem_set_self] at this
    · rw [if_neg hr]
      exact ih (i + 1) k l (by omega) (by omega) hl
theorem Bounds_spec (HP : Prop) (n : Int) (p : List Int) (hn : 0 ≤ n ∧ n ≤ 16) (hp : p.length = n.toNat) (eq ge : List S59) (he : ∀ f ∈ eq, okF n.toNat f) (hg : ∀ f ∈ ge, okF n.toNat f) (le : eq.length ≤ 70) (lg : ge.length ≤ 70) (hh : HP → (∀ f ∈ eq, f.f1 + dot f.f0 p = 0) ∧ ∀ f ∈ ge, 0 ≤ f.f1 + dot f.f0 p) (k : Nat) (hk : 300 ≤ k) :
    BoundsR HP n.toNat p (sys_Bounds.f k n eq ge) := by
  unfold H.sys_Bounds.f
  have hm : mx n 0 = n := by unfold mx; split <;> omega
  rw [hm, if_pos (by omega), if_pos (by omega)]
  refine bounds_l0 HP n.toNat n p (by omega) hp eq ge he hg le lg hh eq.length 0 k _ (by omega) (by omega) ⟨by simp, fun _ i hi => ?_⟩
  rw [List.getElem_replicate]
  exact ⟨fun h => Bool.noConfusion h, fun h => Bool.noConfusion h⟩

end Go.Proofs.YtkkpgjkjkcmcbaaDoor.Pure
