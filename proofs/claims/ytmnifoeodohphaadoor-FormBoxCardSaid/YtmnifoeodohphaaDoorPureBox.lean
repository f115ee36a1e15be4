/- Plain lemmas on the points of a box; no program in sight. -/
import Derived.Test.YtmnifoeodohphaaDoorPureLin
import Derived.Laws.Bits64
namespace Go.Proofs.YtmnifoeodohphaaDoor.Pure
open Go.RowKit Go.Proofs.YtmnifoeodohphaaDoor.X Go.Proofs.YtmnifoeodohphaaDoor.Flt Go.Proofs.YtmnifoeodohphaaDoor.H Go.Proofs.YtmnifoeodohphaaDoorW.PrintWords Go.Proofs.YtmnifoeodohphaaDoorW.PrintLast Go.Proofs.YtmnifoeodohphaaDoorW.PrintMore
set_option linter.unusedVariables false
set_option linter.unusedSimpArgs false
/-! furrowlaw11.FormBox -/
namespace Box
theorem i8_of {a : Int} (h : (Lit.int .i8 a).wf = true) : -128 ≤ a ∧ a ≤ 127 := by
  simp only [Lit.wf, IntKind.min, IntKind.max, IntKind.signed, IntKind.bits, Bool.and_eq_true, decide_eq_true_eq, if_true] at h
  omega
theorem i16_of {a : Int} (h : (Lit.int .i16 a).wf = true) : -32768 ≤ a ∧ a ≤ 32767 := by
  simp only [Lit.wf, IntKind.min, IntKind.max, IntKind.signed, IntKind.bits, Bool.and_eq_true, decide_eq_true_eq, if_true] at h
  omega
theorem u8_of {a : Int} (h : (Lit.int .u8 a).wf = true) : 0 ≤ a ∧ a ≤ 255 := by
  simp only [Lit.wf, IntKind.min, IntKind.max, IntKind.signed, IntKind.bits, Bool.and_eq_true, decide_eq_true_eq] at h
  simp at h
  omega
/-- the point behind a point of a box -/
def nxt : List Int → List Int → List Int → Option (List Int)
  | a :: az, b :: bz, x :: xs => if x < b then some ((x + 1) :: xs) else (nxt az bz xs).map (a :: ·)
  | _, _, _ => none
def inB : List Int → List Int → List Int → Prop
  | a :: az, b :: bz, x :: xs => (a ≤ x ∧ x ≤ b) ∧ inB az bz xs
  | [], [], [] => True
  | _, _, _ => False
/-- from a number on, so many -/
def seg (a : Int) : Nat → List Int
  | 0 => [a]
  | n + 1 => a :: seg (a + 1) n
def pts : List Int → List Int → List (List Int)
  | a :: az, b :: bz => (pts az bz).flatMap fun t => (seg a (b - a).toNat).map (· :: t)
  | _, _ => [[]]
/-- a row of points, each the one behind, up to the last -/
def Chn (a b : List Int) : List (List Int) → Prop
  | [] => True
  | [x] => nxt a b x = none
  | x :: y :: r => nxt a b x = some y ∧ Chn a b (y :: r)
theorem chn_block {a b : Int} {az bz t : List Int} {R : List (List Int)} (hR : (nxt az bz t = none ∧ R = []) ∨ ∃ t' r, nxt az bz t = some t' ∧ R = (a :: t') :: r) (hc : Chn (a :: az) (b :: bz) R) :
    ∀ (n : Nat) (x : Int), x + n = b → Chn (a :: az) (b :: bz) ((seg x n).map (· :: t) ++ R)
  | 0, x, h => by
    have e : ¬ x < b := by omega
    rcases hR with ⟨h1, rfl⟩ | ⟨t', r, h1, rfl⟩
    · simp [seg, Chn, nxt, e, h1]
    · simp only [seg, List.map_cons, List.map_nil, List.cons_append, List.nil_append, Chn, nxt, if_neg e, h1, Option.map_some, true_and]
      exact hc
  | n + 1, x, h => by
    have e : x < b := by omega
    have ih := chn_block hR hc n (x + 1) (by omega)
    cases n with
    | zero =>
      simp only [seg, List.map_cons, List.map_nil, List.cons_append, List.nil_append, Chn] at ih ⊢
      exact ⟨by simp only [nxt, if_pos e], ih⟩
    | succ n =>
      simp only [seg, List.map_cons, List.cons_append, Chn] at ih ⊢
      exact ⟨by simp only [nxt, if_pos e], ih⟩
theorem seg_head (a : Int) (n : Nat) : ∃ r, seg a n = a :: r := by cases n <;> exact ⟨_, rfl⟩
theorem chn_flat {a b : Int} {az bz : List Int} (h : a ≤ b) : ∀ ts : List (List Int), Chn az bz ts → Chn (a :: az) (b :: bz) (ts.flatMap fun t => (seg a (b - a).toNat).map (· :: t))
  | [], _ => trivial
  | [t], hc => by
    simp only [List.flatMap_cons, List.flatMap_nil]
    exact chn_block (.inl ⟨hc, rfl⟩) trivial _ _ (by omega)
  | t :: t' :: r, hc => by
    have ih := chn_flat h (t' :: r) hc.2
    simp only [List.flatMap_cons] at ih ⊢
    refine chn_block (.inr ⟨t', ?_⟩) ih _ _ (by omega)
    obtain ⟨s, hs⟩ := seg_head a (b - a).toNat
    exact ⟨s.map (· :: t') ++ r.flatMap fun t => (seg a (b - a).toNat).map (· :: t), hc.1, by rw [hs]; rfl⟩
def leB : List Int → List Int → Prop
  | a :: az, b :: bz => a ≤ b ∧ leB az bz
  | [], [] => True
  | _, _ => False
theorem chn_pts : ∀ {a b : List Int}, leB a b → Chn a b (pts a b)
  | [], [], _ => by simp [pts, Chn, nxt]
  | a :: az, b :: bz, h => chn_flat h.1 _ (chn_pts h.2)
  | [], _ :: _, h => h.elim
  | _ :: _, [], h => h.elim
theorem mem_seg {x : Int} : ∀ (n : Nat) (a : Int), x ∈ seg a n ↔ a ≤ x ∧ x ≤ a + n
  | 0, a => by simp [seg]; omega
  | n + 1, a => by simp only [seg, List.mem_cons, mem_seg n (a + 1)]; omega
theorem mem_pts : ∀ {a b : List Int} (x : List Int), leB a b → (x ∈ pts a b ↔ inB a b x)
  | [], [], [], _ => by simp [pts, inB]
  | [], [], _ :: _, _ => by simp [pts, inB]
  | a :: az, b :: bz, [], h => by simp [pts, inB]
  | a :: az, b :: bz, x :: xs, h => by
    have ih := mem_pts xs h.2
    have h1 := h.1
    simp only [pts, inB, List.mem_flatMap, List.mem_map, List.cons.injEq]
    constructor
    · rintro ⟨t, ht, y, hy, rfl, rfl⟩
      rw [mem_seg] at hy
      exact ⟨by omega, ih.1 ht⟩
    · rintro ⟨h2, h3⟩
      exact ⟨xs, ih.2 h3, x, (mem_seg _ _).2 (by omega), rfl, rfl⟩
  | [], _ :: _, _, h => h.elim
  | _ :: _, [], _, h => h.elim
theorem leB_len : ∀ {a b : List Int}, leB a b → a.length = b.length
  | [], [], _ => rfl
  | _ :: _, _ :: _, h => by simp [leB_len h.2]
  | [], _ :: _, h => h.elim
  | _ :: _, [], h => h.elim
theorem inB_len : ∀ {a b x : List Int}, inB a b x → x.length = a.length ∧ x.length = b.length
  | [], [], [], _ => ⟨rfl, rfl⟩
  | _ :: _, _ :: _, _ :: _, h => by have := inB_len h.2; simp [this.1, ← this.2]
  | [], [], _ :: _, h => h.elim
  | [], _ :: _, _, h => by cases ‹List Int› <;> exact h.elim
  | _ :: _, [], _, h => by cases ‹List Int› <;> exact h.elim
  | _ :: _, _ :: _, [], h => h.elim
theorem leB_bad : ∀ {a b : List Int}, leB a b → badS a b = false
  | [], [], _ => rfl
  | a :: az, b :: bz, h => by have h1 := h.1; simp only [badS, leB_bad h.2, Bool.or_false]; exact decide_eq_false (by omega)
  | [], _ :: _, h => h.elim
  | _ :: _, [], h => h.elim
theorem pts_first : ∀ {a b : List Int}, leB a b → ∃ r, pts a b = a :: r
  | [], [], _ => ⟨[], rfl⟩
  | a :: az, b :: bz, h => by
    obtain ⟨r, hr⟩ := pts_first h.2
    obtain ⟨s, hs⟩ := seg_head a (b - a).toNat
    exact ⟨s.map (· :: az) ++ r.flatMap fun t => (seg a (b - a).toNat).map (· :: t), by rw [pts, hr, hs]; rfl⟩
  | [], _ :: _, h => h.elim
  | _ :: _, [], h => h.elim
/-- the least and the greatest of all -/
theorem lows_B : ∀ {c a b : List Int}, c.length = a.length → leB a b → inB a b (lows c a b) ∧ inB a b (highs c a b)
  | [], [], [], _, _ => ⟨trivial, trivial⟩
  | c :: cs, a :: az, b :: bz, h, hb => by
    have ih := lows_B (c := cs) (by simpa using h) hb.2
    have h1 := hb.1
    simp only [lows, highs, inB]
    exact ⟨⟨by split <;> omega, ih.1⟩, ⟨by split <;> omega, ih.2⟩⟩
  | [], _ :: _, _, h, _ => by simp at h
  | _ :: _, [], _, h, _ => by simp at h
  | [], [], _ :: _, _, h => h.elim
  | _ :: _, _ :: _, [], _, h => h.elim
theorem dot_mid : ∀ {c a b x : List Int}, c.length = a.length → inB a b x → dot c (lows c a b) ≤ dot c x ∧ dot c x ≤ dot c (highs c a b)
  | [], a, b, x, _, _ => by simp [dot]
  | c :: cs, a :: az, b :: bz, x :: xs, h, hx => by
    have ih := dot_mid (c := cs) (by simpa using h) hx.2
    have h1 := hx.1
    simp only [lows, highs, dot]
    by_cases e : c < 0
    · rw [if_pos e, if_pos e]
      have m1 : c * b ≤ c * x := Int.mul_le_mul_of_nonpos_left (by omega) h1.2
      have m2 : c * x ≤ c * a := Int.mul_le_mul_of_nonpos_left (by omega) h1.1
      omega
    · rw [if_neg e, if_neg e]
      have m1 : c * a ≤ c * x := Int.mul_le_mul_of_nonneg_left h1.1 (by omega)
      have m2 : c * x ≤ c * b := Int.mul_le_mul_of_nonneg_left h1.2 (by omega)
      omega
  | _ :: _, [], _, _, h, _ => by simp at h
  | _ :: _, _ :: _, [], x, _, hx => by cases x <;> exact hx.elim
  | _ :: _, _ :: _, _ :: _, [], _, hx => hx.elim
/-- all points of a row, one behind the other -/
theorem run_all {a b : List Int} {v : List Int → Int} {P Q : Int} {T : List Int → Int → Int → Prop}
    (hs : ∀ x y L M, inB a b x → nxt a b x = some y → T y (mn L (v x)) (mx M (v x)) → T x L M)
    (he : ∀ x L M, inB a b x → nxt a b x = none → P = mn L (v x) → Q = mx M (v x) → T x L M) :
    ∀ (r : List (List Int)) (x : List Int) (L M : Int), (∀ y ∈ x :: r, inB a b y) → Chn a b (x :: r) → P = (x :: r).foldl (fun L y => mn L (v y)) L → Q = (x :: r).foldl (fun M y => mx M (v y)) M → T x L M
  | [], x, L, M, hb, hc, hP, hQ => he x L M (hb x (by simp)) hc hP hQ
  | y :: r, x, L, M, hb, hc, hP, hQ => hs x y L M (hb x (by simp)) hc.1 (run_all hs he r y _ _ (fun z hz => hb z (by simp [hz])) hc.2 hP hQ)
theorem fold_mn {v : List Int → Int} {P : Int} : ∀ (l : List (List Int)) (L : Int), (∀ y ∈ l, P ≤ v y) → P ≤ L → (P = L ∨ ∃ y ∈ l, v y = P) → P = l.foldl (fun L y => mn L (v y)) L
  | [], L, _, _, h => by
    rcases h with h | ⟨y, hy, _⟩
    · exact h
    · simp at hy
  | x :: l, L, h1, h2, h => by
    have hx := h1 x (by simp)
    refine fold_mn l (mn L (v x)) (fun y hy => h1 y (by simp [hy])) (by unfold mn; split <;> omega) ?_
    rcases h with h | ⟨y, hy, h⟩
    · left; unfold mn; split <;> omega
    · rcases List.mem_cons.1 hy with rfl | hy
      · left; unfold mn; split <;> omega
      · exact .inr ⟨y, hy, h⟩
theorem fold_mx {v : List Int → Int} {P : Int} : ∀ (l : List (List Int)) (L : Int), (∀ y ∈ l, v y ≤ P) → L ≤ P → (P = L ∨ ∃ y ∈ l, v y = P) → P = l.foldl (fun L y => mx L (v y)) L
  | [], L, _, _, h => by
    rcases h with h | ⟨y, hy, _⟩
    · exact h
    · simp at hy
  | x :: l, L, h1, h2, h => by
    have hx := h1 x (by simp)
    refine fold_mx l (mx L (v x)) (fun y hy => h1 y (by simp [hy])) (by unfold mx; split <;> omega) ?_
    rcases h with h | ⟨y, hy, h⟩
    · left; unfold mx; split <;> omega
    · rcases List.mem_cons.1 hy with rfl | hy
      · left; unfold mx; split <;> omega
      · exact .inr ⟨y, hy, h⟩
end Box

end Go.Proofs.YtmnifoeodohphaaDoor.Pure
