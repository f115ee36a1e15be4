/- Quotients, what has one variable, what is known of each; no conditions. -/
import Derived.Test.YtkkpgjkjkcmcbaaDoorPureSys1
import Derived.Test.YtkkpgjkjkcmcbaaDoorXx1
import Derived.Test.YtkkpgjkjkcmcbaaDoorXx15
import Derived.Test.YtkkpgjkjkcmcbaaDoorXx12
import Derived.Test.YtkkpgjkjkcmcbaaDoorXx7
import Derived.Test.YtkkpgjkjkcmcbaaDoorHandB
import Derived.Laws.Bits64
namespace Go.Proofs.YtkkpgjkjkcmcbaaDoor.Pure
open Go.RowKit Go.Proofs.YtkkpgjkjkcmcbaaDoor.X Go.Proofs.YtkkpgjkjkcmcbaaDoor.Flt Go.Proofs.YtkkpgjkjkcmcbaaDoor.H Go.Proofs.YtkkpgjkjkcmcbaaDoorW.PrintWords Go.Proofs.YtkkpgjkjkcmcbaaDoorW.PrintLast Go.Proofs.YtkkpgjkjkcmcbaaDoorW.PrintMore
set_option linter.unusedVariables false
set_option linter.unusedSimpArgs false
/-! quotients, what has one variable, what is known of each -/
def fl (a b : Int) : Int := if Int.tmod a b = 0 then Int.tdiv a b else if ((decide (a < 0)) != (decide (b < 0))) = true then Int.tdiv a b - 1 else Int.tdiv a b
def ce (a b : Int) : Int := if Int.tmod a b = 0 then Int.tdiv a b else if ((decide (a < 0)) == (decide (b < 0))) = true then Int.tdiv a b + 1 else Int.tdiv a b
theorem neg_lt {a : Int} (h : a ≠ 0) : decide (-a < 0) = !decide (a < 0) := by
  by_cases z : a < 0
  · rw [decide_eq_true z, decide_eq_false (by omega)]; rfl
  · rw [decide_eq_false z, decide_eq_true (by omega)]; rfl
theorem fl_neg {a b : Int} (hb : b ≠ 0) : fl (-a) (-b) = fl a b := by
  unfold fl
  rw [Int.tmod_neg, Int.neg_tmod, Int.tdiv_neg, Int.neg_tdiv, Int.neg_neg]
  by_cases h : Int.tmod a b = 0
  · rw [if_pos (by omega), if_pos h]
  · have ha : a ≠ 0 := fun e => h (by rw [e]; simp)
    rw [if_neg (by omega), if_neg h, neg_lt ha, neg_lt hb]
    cases decide (a < 0) <;> cases decide (b < 0) <;> rfl
theorem ce_neg {a b : Int} (hb : b ≠ 0) : ce (-a) (-b) = ce a b := by
  unfold ce
  rw [Int.tmod_neg, Int.neg_tmod, Int.tdiv_neg, Int.neg_tdiv, Int.neg_neg]
  by_cases h : Int.tmod a b = 0
  · rw [if_pos (by omega), if_pos h]
  · have ha : a ≠ 0 := fun e => h (by rw [e]; simp)
    rw [if_neg (by omega), if_neg h, neg_lt ha, neg_lt hb]
    cases decide (a < 0) <;> cases decide (b < 0) <;> rfl
theorem tdiv_in {a b : Int} (ha : -2147483648 ≤ a ∧ a ≤ 2147483648) : -2147483648 ≤ Int.tdiv a b ∧ Int.tdiv a b ≤ 2147483648 := by
  have h1 := Int.natAbs_tdiv a b
  have h2 := Nat.div_le_self a.natAbs b.natAbs
  have h3 : (Int.tdiv a b).natAbs ≤ a.natAbs := by rw [h1]; exact h2
  omega
theorem nfloor {a b : Int} (ha : -2147483648 ≤ a ∧ a ≤ 2147483648) (hb : b ≠ 0) {k : Nat} (hk : 1 ≤ k) : num_Floor.f k a b = some (fl a b, true) := by
  obtain ⟨k, rfl⟩ : ∃ m, k = m + 1 := ⟨k - 1, by omega⟩
  have hd := tdiv_in (b := b) ha
  unfold num_Floor.f fl
  rw [if_neg hb, if_neg (by omega)]
  simp only [num_Floor.j0]
  rw [if_neg (by simp), if_neg hb]
  by_cases h : Int.tmod a b = 0
  · rw [if_pos h, if_pos h, w64 (by omega)]
  · rw [if_neg h, if_neg h]
    by_cases s : ((decide (a < 0)) != (decide (b < 0))) = true
    · rw [if_pos s, if_pos s, w64 (a := Int.tdiv a b) (by omega), w64 (by omega)]
    · rw [if_neg s, if_neg s, w64 (by omega)]
theorem rfloor {a b : Int} (ha : -2147483648 ≤ a ∧ a ≤ 2147483648) (hb : b ≠ 0) {k : Nat} (hk : 1 ≤ k) : furrowref4_Floor.f k a b = some (fl a b, true) := by
  rw [← nfloor ha hb hk]
  obtain ⟨k, rfl⟩ : ∃ m, k = m + 1 := ⟨k - 1, by omega⟩
  rfl
theorem rceil {a b : Int} (ha : -2147483648 ≤ a ∧ a ≤ 2147483648) (hb : b ≠ 0) {k : Nat} (hk : 1 ≤ k) : furrowref4_Ceil.f k a b = some (ce a b, true) := by
  obtain ⟨k, rfl⟩ : ∃ m, k = m + 1 := ⟨k - 1, by omega⟩
  have hd := tdiv_in (b := b) ha
  unfold furrowref4_Ceil.f ce
  rw [if_neg hb, if_neg (by omega)]
  simp only [furrowref4_Ceil.j0]
  rw [if_neg (by simp), if_neg hb]
  by_cases h : Int.tmod a b = 0
  · rw [if_pos h, if_pos h, w64 (by omega)]
  · rw [if_neg h, if_neg h]
    by_cases s : ((decide (a < 0)) == (decide (b < 0))) = true
    · rw [if_pos s, if_pos s, w64 (a := Int.tdiv a b) (by omega), w64 (by omega)]
    · rw [if_neg s, if_neg s, w64 (by omega)]
theorem nceil {a b : Int} (ha : -2147483648 ≤ a ∧ a ≤ 2147483648) (hb : b ≠ 0) {k : Nat} (hk : 1 ≤ k) : num_Ceil.f k a b = some (ce a b, true) := by
  have hd := tdiv_in (b := b) ha
  unfold num_Ceil.f
  rw [nfloor ha hb hk]
  simp only [Option.bind_some, if_true]
  rw [if_neg hb]
  unfold ce fl
  by_cases h : Int.tmod a b = 0
  · rw [if_pos h, if_pos h, if_pos h]
  · rw [if_neg h, if_neg h, if_neg h]
    by_cases s : ((decide (a < 0)) != (decide (b < 0))) = true
    · have s2 : ¬ ((decide (a < 0)) == (decide (b < 0))) = true := by revert s; cases decide (a < 0) <;> cases decide (b < 0) <;> simp
      rw [if_pos s, if_neg s2, w64 (by omega)]; congr 2; omega
    · have s2 : ((decide (a < 0)) == (decide (b < 0))) = true := by revert s; cases decide (a < 0) <;> cases decide (b < 0) <;> simp
      rw [if_neg s, if_pos s2, w64 (by omega)]
/-- The one variable of a form, from the i-th on. -/
def al (r i : Int) : List Int → Int
  | [] => r
  | c :: C => if c = 0 then al r (i + 1) C else if 0 ≤ r then -1 else al i (i + 1) C
theorem salone_l0 (C : List Int) (hn : C.length ≤ 16) : ∀ (d i k : Nat) (r : Int), i + d = C.length → 2 * d < k → sys_alone.l0 k r C (C.length : Int) (i : Int) = some (al r i (C.drop i)) := by
  intro d
  induction d with
  | zero =>
    intro i k r hi hk
    obtain ⟨k, rfl⟩ : ∃ m, k = m + 1 := ⟨k - 1, by omega⟩
    simp only [sys_alone.l0]
    rw [if_neg (by omega), List.drop_eq_nil_of_le (by omega)]; rfl
  | succ d ih =>
    intro i k r hi hk
    obtain ⟨k, rfl⟩ : ∃ m, k = m + 2 := ⟨k - 2, by omega⟩
    have hlt : i < C.length := by omega
    simp only [sys_alone.l0]
    rw [if_pos (by omega), if_pos (by omega), if_pos (by omega), rd_at C i hlt, List.drop_eq_getElem_cons hlt]
    have hw := w_succ hlt (by omega)
    unfold al
    by_cases h : C[i] = 0
    · rw [if_pos h, if_pos h]
      simp only [sys_alone.j1]
      rw [if_neg (by simp), if_pos h, hw, ih (i + 1) k r (by omega) (by omega)]; rfl
    · rw [if_neg h, if_neg h]
      by_cases z : 0 ≤ r
      · rw [if_pos z, decide_eq_true (show r ≥ 0 from z)]
        simp only [sys_alone.j1]; simp
      · rw [if_neg z, decide_eq_false (show ¬ r ≥ 0 from z)]
        simp only [sys_alone.j1]
        rw [if_neg (by simp), if_neg h, hw, ih (i + 1) k i (by omega) (by omega)]; rfl
theorem ralone_l0 (C : List Int) (K : Int) (hn : C.length ≤ 16) : ∀ (d i k : Nat) (r : Int), i + d = C.length → d < k → furrowref20_alone.l0 k r (i : Int) C K = some (al r i (C.drop i)) := by
  intro d
  induction d with
  | zero =>
    intro i k r hi hk
    obtain ⟨k, rfl⟩ : ∃ m, k = m + 1 := ⟨k - 1, by omega⟩
    simp only [furrowref20_alone.l0]
    rw [if_neg (by omega), List.drop_eq_nil_of_le (by omega)]; rfl
  | succ d ih =>
    intro i k r hi hk
    obtain ⟨k, rfl⟩ : ∃ m, k = m + 1 := ⟨k - 1, by omega⟩
    have hlt : i < C.length := by omega
    simp only [furrowref20_alone.l0]
    rw [if_pos (by omega), if_pos (by omega), rd_at C i hlt, List.drop_eq_getElem_cons hlt, w_succ hlt (by omega)]
    unfold al
    by_cases h : C[i] = 0
    · rw [if_pos h, if_pos h, ih (i + 1) k r (by omega) (by omega)]; rfl
    · rw [if_neg h, if_neg h]
      by_cases z : 0 ≤ r
      · rw [if_pos z, if_pos z]
      · rw [if_neg z, if_neg z, ih (i + 1) k i (by omega) (by omega)]; rfl
theorem al_in (C : List Int) : ∀ (d i : Nat) (r : Int), i + d = C.length → (r < 0 ∨ ∃ n : Nat, r = n ∧ n < C.length ∧ rd C r ≠ 0) → al r i (C.drop i) < 0 ∨ ∃ n : Nat, al r i (C.drop i) = n ∧ n < C.length ∧ rd C n ≠ 0 := by
  intro d
  induction d with
  | zero =>
    intro i r hi h
    rw [List.drop_eq_nil_of_le (by omega)]
    rcases h with h | ⟨n, rfl, h2, h3⟩
    · exact .inl h
    · exact .inr ⟨n, rfl, h2, h3⟩
  | succ d ih =>
    intro i r hi h
    have hlt : i < C.length := by omega
    rw [List.drop_eq_getElem_cons hlt]
    unfold al
    by_cases z : C[i] = 0
    · rw [if_pos z]; exact ih (i + 1) r (by omega) h
    · rw [if_neg z]
      by_cases y : 0 ≤ r
      · rw [if_pos y]; exact .inl (by omega)
      · rw [if_neg y]; exact ih (i + 1) i (by omega) (.inr ⟨i, rfl, hlt, by rw [rd_at C i hlt]; exact z⟩)
def alone (C : List Int) : Int := al (-1) 0 C
theorem salone {C : List Int} (K : Int) (hn : C.length ≤ 16) {k : Nat} (hk : 40 ≤ k) : sys_alone.f k C K = some (alone C) := salone_l0 C hn C.length 0 k (-1) (by omega) (by omega)
theorem ralone {C : List Int} (K : Int) (hn : C.length ≤ 16) {k : Nat} (hk : 40 ≤ k) : furrowref20_alone.f k C K = some (alone C) := ralone_l0 C K hn C.length 0 k (-1) (by omega) (by omega)
theorem alone_in (C : List Int) : alone C < 0 ∨ ∃ n : Nat, alone C = n ∧ n < C.length ∧ rd C n ≠ 0 := al_in C C.length 0 (-1) (by omega) (.inl (by omega))
theorem rd92_at (l : List S92) (i : Nat) (h : i < l.length) : rd_T92 l (i : Int) = l[i] := by
  unfold rd_T92; rw [Int.toNat_natCast, List.getD_eq_getElem?_getD, List.getElem?_eq_getElem h]; rfl
def lowv (e : Bool) (c : Int) (h : Bool) (o v : Int) : Int × Bool := (if (e || decide (0 < c)) && (!h || decide (o < v)) then v else o, h || (e || decide (0 < c)))
def highv (e : Bool) (c : Int) (h : Bool) (o v : Int) : Int × Bool := (if (e || decide (c < 0)) && (!h || decide (v < o)) then v else o, h || (e || decide (c < 0)))
/-- What a form of one variable tells of it. -/
def stp (e : Bool) (c K : Int) (s : S92) : S92 := ⟨(lowv e c s.f2 s.f0 (ce (-K) c)).1, (highv e c s.f3 s.f1 (fl (-K) c)).1, (lowv e c s.f2 s.f0 (ce (-K) c)).2, (highv e c s.f3 s.f1 (fl (-K) c)).2⟩
def stF (e : Bool) (l : List S92) (f : S59) : List S92 := if alone f.f0 < 0 then l else l.set (alone f.f0).toNat (stp e (rd f.f0 (alone f.f0)) f.f1 (rd_T92 l (alone f.f0)))
theorem stF_len (e : Bool) (l : List S92) (f : S59) : (stF e l f).length = l.length := by
  unfold stF; split <;> simp
theorem loS_eq (e : Bool) {c o n : Int} {h : Bool} (he : (e || decide (0 < c)) = true) : loS o n h = lowv e c h o n := by
  unfold loS lowv
  rw [he]
  cases h with
  | false => rw [if_pos (.inl rfl)]; simp
  | true =>
    by_cases z : n > o
    · rw [if_pos (.inr z), decide_eq_true (show o < n from z)]; simp
    · rw [if_neg (fun w => w.elim (fun q => by cases q) z), decide_eq_false (show ¬ o < n from z)]; simp
theorem hiS_eq (e : Bool) {c o n : Int} {h : Bool} (he : (e || decide (c < 0)) = true) : hiS o n h = highv e c h o n := by
  unfold hiS highv
  rw [he]
  cases h with
  | false => rw [if_pos (.inl rfl)]; simp
  | true =>
    by_cases z : n < o
    · rw [if_pos (.inr z), decide_eq_true z]; simp
    · rw [if_neg (fun w => w.elim (fun q => by cases q) z), decide_eq_false z]; simp
theorem lowv_no {c o v : Int} {h : Bool} (hc : ¬ 0 < c) : lowv false c h o v = (o, h) := by unfold lowv; rw [decide_eq_false hc]; simp
theorem highv_no {c o v : Int} {h : Bool} (hc : ¬ c < 0) : highv false c h o v = (o, h) := by unfold highv; rw [decide_eq_false hc]; simp
theorem take_pos {lo hi c K : Int} {ab be : Bool} (hK : inC K) (h0 : 0 < c) : sys_span_take.f lo hi ab be c K = some ((loS lo (ce (-K) c) ab).1, hi, (loS lo (ce (-K) c) ab).2, be) := by
  unfold inC at hK
  unfold H.sys_span_take.f
  rw [if_pos h0, w64 (by omega), nceil (by omega) (by omega) (by omega)]; simp
theorem take_neg {lo hi c K : Int} {ab be : Bool} (hc : inC c) (hK : inC K) (h0 : c < 0) : sys_span_take.f lo hi ab be c K = some (lo, (hiS hi (fl (-K) c) be).1, ab, (hiS hi (fl (-K) c) be).2) := by
  unfold inC at hK hc
  unfold H.sys_span_take.f
  rw [if_neg (by omega), w64 (by omega), nfloor (by omega) (by omega) (by omega)]
  have : fl K (-c) = fl (-K) c := by rw [← fl_neg (a := K) (b := -c) (by omega), Int.neg_neg]
  rw [this]; simp
theorem take_ge {s : S92} {c K : Int} (hc : inC c) (hK : inC K) (h0 : c ≠ 0) : sys_span_take.f s.f0 s.f1 s.f2 s.f3 c K = some ((stp false c K s).f0, (stp false c K s).f1, (stp false c K s).f2, (stp false c K s).f3) := by
  unfold stp
  by_cases h : 0 < c
  · rw [take_pos hK h, loS_eq false (c := c) (by simp [h]), highv_no (by omega)]
  · rw [take_neg hc hK (by omega), hiS_eq false (c := c) (by simp; omega), lowv_no h]
theorem take_eq {s : S92} {c K : Int} (hc : inC c) (hK : inC K) (h0 : c ≠ 0) : ∃ a b d e, sys_span_take.f s.f0 s.f1 s.f2 s.f3 c K = some (a, b, d, e) ∧ sys_span_take.f a b d e (wrap64 (-c)) (wrap64 (-K)) = some ((stp true c K s).f0, (stp true c K s).f1, (stp true c K s).f2, (stp true c K s).f3) := by
  have hc' : inC (-c) := by unfold inC at *; omega
  have hK' : inC (-K) := by unfold inC at *; omega
  have w1 : wrap64 (-c) = -c := w64 (by unfold inC at hc'; omega)
  have w2 : wrap64 (-K) = -K := w64 (by unfold inC at hK'; omega)
  rw [w1, w2]
  unfold stp
  by_cases h : 0 < c
  · refine ⟨_, _, _, _, take_pos hK h, ?_⟩
    rw [take_neg hc' hK' (by omega), fl_neg (a := -K) (b := c) h0, loS_eq true (c := c) (by simp), hiS_eq true (c := c) (by simp)]
  · refine ⟨_, _, _, _, take_neg hc hK (by omega), ?_⟩
    rw [take_pos hK' (by omega), ce_neg (a := -K) (b := c) h0, loS_eq true (c := c) (by simp), hiS_eq true (c := c) (by simp)]
theorem all_spec (n : Int) (A B : List S65) (ha : A.length ≤ 1000) (hb : B.length ≤ 1000) : furrowref20_all.f n A B = some (A ++ B) := by
  unfold furrowref20_all.f
  simp only [Option.bind_some, List.nil_append, List.length_nil]
  rw [if_pos (by omega), if_pos (by omega)]

end Go.Proofs.YtkkpgjkjkcmcbaaDoor.Pure
