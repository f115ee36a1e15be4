/- FormBox over numbers and lists alone. -/
import Derived.Test.YtmnifoeodohphaaDoorPureKnown
import Derived.Test.YtmnifoeodohphaaDoorPureBox
import Derived.Test.YtmnifoeodohphaaDoorXx17
import Derived.Laws.Bits64
namespace Go.Proofs.YtmnifoeodohphaaDoor.Pure
open Go.RowKit Go.Proofs.YtmnifoeodohphaaDoor.X Go.Proofs.YtmnifoeodohphaaDoor.Flt Go.Proofs.YtmnifoeodohphaaDoor.H Go.Proofs.YtmnifoeodohphaaDoorW.PrintWords Go.Proofs.YtmnifoeodohphaaDoorW.PrintLast Go.Proofs.YtmnifoeodohphaaDoorW.PrintMore
set_option linter.unusedVariables false
set_option linter.unusedSimpArgs false
namespace Box
variable {a b c : List Int} {K P Q : Int} {n : Nat}
/-- the loop over points comes to its end with 'true' -/
def Ends (a b : List Int) (P Q : Int) (c : List Int) (K : Int) (x : List Int) (L M : Int) (more : Bool) : Prop := ∃ k, furrowlaw11_FormBox.l1 k a b P Q x L M more c K = some true
theorem set_at {xs ys : List Int} {x y : Int} {i : Nat} (h : xs.length = i) : (xs ++ x :: ys).set i y = xs ++ y :: ys := by
  subst h; simp
theorem rd_at {xs ys : List Int} {x : Int} {i : Nat} (h : xs.length = i) : rd (xs ++ x :: ys) (i : Int) = x := by
  subst h; simp [rd, List.getD]
theorem take_rd {l : List Int} {i : Nat} (h : i < l.length) : l.take i ++ [rd l (i : Int)] = l.take (i + 1) := by
  rw [rd_get h, List.take_succ_eq_append_getElem h]
theorem box_l3 (ha : a.length = n) (hb : b.length = n) (hn : n ≤ 3) (hbb : ∀ z ∈ b, z ≤ 1000) (x L M : Int) (d : Nat) (_ : x = x) :
    ∀ (i : Nat) (xs : List Int), i + d = n → xs.length = d → (∀ z ∈ xs, -1000 ≤ z) →
      (match nxt (a.drop i) (b.drop i) xs with | some y => Ends a b P Q c K (a.take i ++ y) L M true | none => Ends a b P Q c K a L M false) →
      ∃ k, furrowlaw11_FormBox.l3 k a b P Q (a.take i ++ xs) L M false (i : Int) c K = some true := by
  induction d with
  | zero =>
    intro i xs hi hl _ h
    obtain rfl : i = n := by omega
    obtain rfl : xs = [] := List.length_eq_zero_iff.1 hl
    have e1 : a.drop i = [] := List.drop_of_length_le (by omega)
    have e2 : a.take i = a := List.take_of_length_le (by omega)
    rw [e1] at h
    simp only [nxt] at h
    obtain ⟨k, hk⟩ := h
    refine ⟨k + 1, ?_⟩
    rw [furrowlaw11_FormBox.l3, List.append_nil, e2, if_neg (by omega)]
    exact hk
  | succ d ih =>
    intro i xs hi hl hx h
    cases xs with
    | nil => simp at hl
    | cons x0 xs =>
      have la : (a.take i).length = i := by rw [List.length_take]; omega
      have len : ((a.take i ++ x0 :: xs).length : Int) = n := by rw [List.length_append, la, hl]; omega
      have da : a.drop i = rd a i :: a.drop (i + 1) := by rw [rd_get (by omega), List.drop_eq_getElem_cons (by omega)]
      have db : b.drop i = rd b i :: b.drop (i + 1) := by rw [rd_get (by omega), List.drop_eq_getElem_cons (by omega)]
      have hb1 := hbb _ (rd_mem (l := b) (i := (i : Int)) (by omega) (by omega))
      have hx0 := hx x0 (by simp)
      rw [da, db] at h
      simp only [nxt] at h
      by_cases e : x0 < rd b i
      · rw [if_pos e] at h
        obtain ⟨k, hk⟩ := h
        refine ⟨k + 1, ?_⟩
        rw [furrowlaw11_FormBox.l3, len, if_pos (by omega), if_pos (by omega), if_pos (by omega), rd_at la, if_pos e, w64 (by omega), Int.toNat_natCast, set_at la]
        exact hk
      · rw [if_neg e] at h
        have ih' := ih (i + 1) xs (by omega) (by simpa using hl) (fun z hz => hx z (by simp [hz])) (by
          cases hz : nxt (a.drop (i + 1)) (b.drop (i + 1)) xs with
          | none => rw [hz] at h; exact h
          | some y =>
            rw [hz] at h
            have e2 : a.take (i + 1) ++ y = a.take i ++ rd a i :: y := by rw [← take_rd (by omega)]; simp
            simp only [Option.map_some] at h ⊢
            rw [e2]; exact h)
        obtain ⟨k, hk⟩ := ih'
        refine ⟨k + 1, ?_⟩
        rw [furrowlaw11_FormBox.l3, len, if_pos (by omega), if_pos (by omega), if_pos (by omega), rd_at la, if_neg e, if_pos (by omega), w64 (by omega), Int.toNat_natCast, set_at la]
        rw [← take_rd (by omega)] at hk
        simpa using hk
theorem box_l2 (x : List Int) (L M : Int) (hc : c.length = n) (hx : x.length = n) (hn : n ≤ 3) (hcc : ∀ z ∈ c, -128 ≤ z ∧ z ≤ 127) (hxx : ∀ z ∈ x, -1000 ≤ z ∧ z ≤ 1000) (d : Nat) :
    ∀ (i : Nat) (v : Int), i + d = n → -100000000 ≤ v - i * 128000 → v + i * 128000 ≤ 100000000 → (i : Int) * 128000 ≤ 384000 → (-50000000 - (i : Int) * 128000 ≤ v ∧ v ≤ 50000000 + (i : Int) * 128000) →
      (∃ k, furrowlaw11_FormBox.l3 k a b P Q x (mn L (v + dot (c.drop i) (x.drop i))) (mx M (v + dot (c.drop i) (x.drop i))) false 0 c K = some true) →
      ∃ k, furrowlaw11_FormBox.l2 k a b P Q x L M v (i : Int) c K = some true := by
  induction d with
  | zero =>
    intro i v hi _ _ _ _ h
    obtain rfl : i = n := by omega
    obtain ⟨k, hk⟩ := h
    refine ⟨k + 1, ?_⟩
    rw [furrowlaw11_FormBox.l2, if_neg (by omega)]
    rw [List.drop_of_length_le (by omega)] at hk
    simpa [dot] using hk
  | succ d ih =>
    intro i v hi h1 h2 h3 h4 h
    have dc : c.drop i = rd c i :: c.drop (i + 1) := by rw [rd_get (by omega), List.drop_eq_getElem_cons (by omega)]
    have dx : x.drop i = rd x i :: x.drop (i + 1) := by rw [rd_get (by omega), List.drop_eq_getElem_cons (by omega)]
    have b1 := hcc _ (rd_mem (l := c) (i := (i : Int)) (by omega) (by omega))
    have b2 := hxx _ (rd_mem (l := x) (i := (i : Int)) (by omega) (by omega))
    have b3 := @mul_bd (rd c i) (rd x i) 128 1000 (by omega) (by omega)
    rw [dc, dx] at h
    simp only [dot] at h
    rw [← Int.add_assoc] at h
    obtain ⟨k, hk⟩ := ih (i + 1) (v + rd c i * rd x i) (by omega) (by omega) (by omega) (by omega) (by omega) h
    refine ⟨k + 1, ?_⟩
    rw [furrowlaw11_FormBox.l2, if_pos (by omega), if_pos (by omega), if_pos (by omega), w64 (a := rd c i * rd x i) (by omega), w64 (a := v + rd c i * rd x i) (by omega), w64 (by omega)]
    exact hk
theorem box_run (ha : a.length = n) (hb : leB a b) (hc : c.length = n) (hn : n ≤ 3) (hcc : ∀ z ∈ c, -128 ≤ z ∧ z ≤ 127) (hK : -32768 ≤ K ∧ K ≤ 32767) (haa : ∀ z ∈ a, -1000 ≤ z ∧ z ≤ 1000) (hbb : ∀ z ∈ b, -1000 ≤ z ∧ z ≤ 1000) :
    Ends a b (dot c (lows c a b) + K) (dot c (highs c a b) + K) c K a 4611686018427387904 (-4611686018427387904) true := by
  have hlb : b.length = n := by rw [← leB_len hb]; exact ha
  have inb : ∀ {a b x : List Int}, inB a b x → (∀ z ∈ a, -1000 ≤ z ∧ z ≤ 1000) → (∀ z ∈ b, -1000 ≤ z ∧ z ≤ 1000) → ∀ z ∈ x, -1000 ≤ z ∧ z ≤ 1000 := by
    intro a
    induction a with
    | nil => intro b x h _ _; cases b <;> cases x <;> first | exact h.elim | (intro z hz; simp at hz)
    | cons a az ih =>
      intro b x h h1 h2
      cases b with
      | nil => cases x <;> exact h.elim
      | cons b bz =>
        cases x with
        | nil => exact h.elim
        | cons x xs =>
          have q1 := h1 a (by simp); have q2 := h2 b (by simp); have q3 := h.1
          intro z hz
          rcases List.mem_cons.1 hz with rfl | hz
          · omega
          · exact ih h.2 (fun z hz => h1 z (by simp [hz])) (fun z hz => h2 z (by simp [hz])) z hz
  have low := lows_B (c := c) (by omega) hb
  -- one turn of the loop
  have turn : ∀ x L M, inB a b x → (match nxt a b x with | some y => Ends a b (dot c (lows c a b) + K) (dot c (highs c a b) + K) c K y (mn L (K + dot c x)) (mx M (K + dot c x)) true | none => Ends a b (dot c (lows c a b) + K) (dot c (highs c a b) + K) c K a (mn L (K + dot c x)) (mx M (K + dot c x)) false) → Ends a b (dot c (lows c a b) + K) (dot c (highs c a b) + K) c K x L M true := by
    intro x L M hx h
    have hxx := inb hx haa hbb
    have hlx : x.length = n := by rw [(inB_len hx).1]; exact ha
    have r3 := box_l3 (P := dot c (lows c a b) + K) (Q := dot c (highs c a b) + K) (c := c) (K := K) ha hlb hn (fun z hz => (hbb z hz).2) 0 (mn L (K + dot c x)) (mx M (K + dot c x)) n rfl 0 x (by omega) hlx (fun z hz => (hxx z hz).1) (by simpa using h)
    obtain ⟨k, hk⟩ := box_l2 (a := a) (b := b) (P := dot c (lows c a b) + K) (Q := dot c (highs c a b) + K) (K := K) x L M hc hlx hn hcc hxx n 0 K (by omega) (by omega) (by omega) (by omega) (by omega) (by simpa using r3)
    refine ⟨k + 1, ?_⟩
    rw [furrowlaw11_FormBox.l1, if_pos rfl]
    exact hk
  obtain ⟨r, hr⟩ := pts_first hb
  have all : ∀ y ∈ a :: r, inB a b y := by rw [← hr]; exact fun y hy => (mem_pts y hb).1 hy
  have mids : ∀ y ∈ a :: r, dot c (lows c a b) + K ≤ K + dot c y ∧ K + dot c y ≤ dot c (highs c a b) + K := fun y hy => by
    have := dot_mid (c := c) (by omega) (all y hy); omega
  have bd : ∀ (l y : List Int), (∀ z ∈ l, -128 ≤ z ∧ z ≤ 127) → (∀ z ∈ y, -1000 ≤ z ∧ z ≤ 1000) → -((l.length : Int) * 128000) ≤ dot l y ∧ dot l y ≤ (l.length : Int) * 128000 := by
    intro l
    induction l with
    | nil => intro y _ _; simp [dot]
    | cons e l ih =>
      intro y h1 h2
      cases y with
      | nil => simp only [dot]; omega
      | cons z y =>
        have b1 := h1 e (by simp)
        have q1 := @mul_bd e z 128 1000 (by omega) (h2 z (by simp))
        have q2 := ih y (fun z hz => h1 z (by simp [hz])) (fun z hz => h2 z (by simp [hz]))
        simp only [dot, List.length_cons]; omega
  have bl := bd c (lows c a b) hcc (inb low.1 haa hbb)
  have bh := bd c (highs c a b) hcc (inb low.2 haa hbb)
  refine run_all (a := a) (b := b) (v := fun x => K + dot c x) (P := dot c (lows c a b) + K) (Q := dot c (highs c a b) + K) (T := fun x L M => Ends a b (dot c (lows c a b) + K) (dot c (highs c a b) + K) c K x L M true)
    (fun x y L M hx hn' ht => turn x L M hx (by rw [hn']; exact ht)) (fun x L M hx hn' h1 h2 => turn x L M hx (by
      rw [hn']
      refine ⟨1, ?_⟩
      rw [furrowlaw11_FormBox.l1, if_neg (by simp), if_pos h1, ← h2]
      simp)) r a _ _ all ?_ ?_ ?_
  · rw [← hr]; exact chn_pts hb
  · refine fold_mn (v := fun x => K + dot c x) (a :: r) _ (fun y hy => (mids y hy).1) (by omega) (.inr ⟨lows c a b, ?_, by show K + _ = _; omega⟩)
    rw [← hr]; exact (mem_pts _ hb).2 low.1
  · refine fold_mx (v := fun x => K + dot c x) (a :: r) _ (fun y hy => (mids y hy).2) (by omega) (.inr ⟨highs c a b, ?_, by show K + _ = _; omega⟩)
    rw [← hr]; exact (mem_pts _ hb).2 low.2
/-- the upper ends -/
def tops (lo m : List Int) (n : Nat) : List Int := made (fun j => rd lo j + Int.tmod (rd m j) 6) n
theorem tmod6 {z : Int} (h : 0 ≤ z ∧ z ≤ 255) : 0 ≤ Int.tmod z 6 ∧ Int.tmod z 6 ≤ 5 := by
  rw [Int.tmod_eq_emod_of_nonneg h.1]; omega
theorem leB_of : ∀ {a b : List Int}, a.length = b.length → (∀ j : Nat, j < a.length → rd a j ≤ rd b j) → leB a b
  | [], [], _, _ => trivial
  | a :: az, b :: bz, h, hj => by
    refine ⟨by simpa [rd, List.getD] using hj 0 (by simp), leB_of (by simpa using h) fun j hj' => ?_⟩
    have := hj (j + 1) (by simpa using hj')
    rw [rd_get (by simpa using hj'), rd_get (by simp at h; simp; omega)] at this
    rw [rd_get hj', rd_get (by simp at h; omega)]
    simpa using this
  | [], _ :: _, h, _ => by simp at h
  | _ :: _, [], h, _ => by simp at h
theorem box_l0 {c lo m : List Int} {K : Int} {n : Nat} (hn : n ≤ 3) (hc : c.length = n) (hlo : n ≤ lo.length) (hm : n ≤ m.length) (sc : ∀ z ∈ c, -128 ≤ z ∧ z ≤ 127) (sl : ∀ z ∈ lo, -128 ≤ z ∧ z ≤ 127) (sm : ∀ z ∈ m, 0 ≤ z ∧ z ≤ 255) (hK : -32768 ≤ K ∧ K ≤ 32767) (d : Nat) :
    ∀ i : Nat, i + d = n → ∃ k, furrowlaw11_FormBox.l0 k c lo m (lo.take i) (tops lo m i) (i : Int) (c.take i) K = some true := by
  have tb : ∀ j : Nat, j < n → -1000 ≤ rd lo j + Int.tmod (rd m j) 6 ∧ rd lo j + Int.tmod (rd m j) 6 ≤ 1000 ∧ rd lo j ≤ rd lo j + Int.tmod (rd m j) 6 := fun j hj => by
    have h1 := sl _ (rd_mem (l := lo) (i := (j : Int)) (by omega) (by omega))
    have h2 := tmod6 (sm _ (rd_mem (l := m) (i := (j : Int)) (by omega) (by omega)))
    omega
  induction d with
  | zero =>
    intro i hi
    obtain rfl : i = n := by omega
    have ec : c.take i = c := List.take_of_length_le (by omega)
    have la : (lo.take i).length = i := by rw [List.length_take]; omega
    have lt : (tops lo m i).length = i := made_length _ _
    have hle : leB (lo.take i) (tops lo m i) := leB_of (by omega) fun j hj => by
      rw [la] at hj
      have e1 : rd (lo.take i) (j : Int) = rd lo (j : Int) := by rw [rd_get (by omega), rd_get (by omega)]; simp
      rw [e1, tops, made_get _ hj]
      exact (tb j hj).2.2
    have sa : ∀ z ∈ lo.take i, -1000 ≤ z ∧ z ≤ 1000 := fun z hz => by have := sl z (List.mem_of_mem_take hz); omega
    have st : ∀ z ∈ tops lo m i, -1000 ≤ z ∧ z ≤ 1000 := fun z hz => by
      simp only [tops, made, List.mem_map, List.mem_range] at hz
      obtain ⟨j, hj, rfl⟩ := hz
      have := tb j hj; omega
    obtain ⟨k, hk⟩ := box_run la hle hc hn sc hK sa st
    have inr : ∀ {l : List Int}, (∀ z ∈ l, -1000 ≤ z ∧ z ≤ 1000) → ∀ z ∈ l, inR z := fun h z hz => by have := h z hz; unfold inR; omega
    have sc' : ∀ z ∈ c, -1000 ≤ z ∧ z ≤ 1000 := fun z hz => by have := sc z hz; omega
    have low := lows_B (c := c) (by omega) hle
    have inb : ∀ {a b x : List Int}, inB a b x → (∀ z ∈ a, -1000 ≤ z ∧ z ≤ 1000) → (∀ z ∈ b, -1000 ≤ z ∧ z ≤ 1000) → ∀ z ∈ x, -1000 ≤ z ∧ z ≤ 1000 := by
      intro a
      induction a with
      | nil => intro b x h _ _; cases b <;> cases x <;> first | exact h.elim | (intro z hz; simp at hz)
      | cons a az ih =>
        intro b x h h1 h2
        cases b with
        | nil => cases x <;> exact h.elim
        | cons b bz =>
          cases x with
          | nil => exact h.elim
          | cons x xs =>
            have q1 := h1 a (by simp); have q2 := h2 b (by simp); have q3 := h.1
            intro z hz
            rcases List.mem_cons.1 hz with rfl | hz
            · omega
            · exact ih h.2 (fun z hz => h1 z (by simp [hz])) (fun z hz => h2 z (by simp [hz])) z hz
    have e1 := at_small (L := 1000) (X := 1000) (by omega) (by omega) c (lows c (lo.take i) (tops lo m i)) 0 K sc' (inb low.1 sa st) (by rw [hc]; omega)
    have e2 := at_small (L := 1000) (X := 1000) (by omega) (by omega) c (highs c (lo.take i) (tops lo m i)) 0 K sc' (inb low.2 sa st) (by rw [hc]; omega)
    rw [Int.zero_add] at e1 e2
    have er : endS c K (lows c (lo.take i) (tops lo m i)) (highs c (lo.take i) (tops lo m i)) = (dot c (lows c (lo.take i) (tops lo m i)) + K, dot c (highs c (lo.take i) (tops lo m i)) + K, []) := by
      unfold endS; rw [e1, e2]; rfl
    have rs := fun q (hq : 30 ≤ q) => range_spec (k := q) (l := c) (lo := lo.take i) (hi := tops lo m i) (K := K) (by omega) (by omega) (inr sc') (inr sa) (inr st) (by unfold inR; omega) (by omega) (by omega)
    refine ⟨k + 30 + 1, ?_⟩
    rw [furrowlaw11_FormBox.l0, if_neg (by omega), ec, rs _ (by omega), leB_bad hle, er]
    simp only [Option.bind_some, Bool.false_eq_true, if_false, List.length_nil, Int.natCast_zero, Int.ofNat_zero, if_true, List.nil_append]
    rw [if_pos (by omega)]
    have up : ∀ q, furrowlaw11_FormBox.l1 (k + q) (lo.take i) (tops lo m i) (dot c (lows c (lo.take i) (tops lo m i)) + K) (dot c (highs c (lo.take i) (tops lo m i)) + K) (lo.take i) 4611686018427387904 (-4611686018427387904) true c K = some true := by
      intro q
      induction q with
      | zero => exact hk
      | succ q ih => exact (furrowlaw11_FormBox.mono_l (k + q)).2.2.1 _ _ _ _ _ _ _ _ _ _ _ ih
    exact up 30
  | succ d ih =>
    intro i hi
    obtain ⟨k, hk⟩ := ih (i + 1) (by omega)
    have l1 : (c.take i).length = i := by rw [List.length_take]; omega
    have l2 : (lo.take i).length = i := by rw [List.length_take]; omega
    have l3 : (tops lo m i).length = i := made_length _ _
    have b1 := sc _ (rd_mem (l := c) (i := (i : Int)) (by omega) (by omega))
    have b2 := sl _ (rd_mem (l := lo) (i := (i : Int)) (by omega) (by omega))
    have b3 := tmod6 (sm _ (rd_mem (l := m) (i := (i : Int)) (by omega) (by omega)))
    refine ⟨k + 1, ?_⟩
    rw [furrowlaw11_FormBox.l0, if_pos (by omega), if_pos (by omega), l1, l2, l3, if_pos (by omega), if_pos (by omega), if_pos (by omega), if_pos (by omega), if_pos (by omega), w64 (a := rd c (i : Int)) (by omega), w64 (a := rd lo (i : Int)) (by omega), w64 (a := Int.tmod (rd m (i : Int)) 6) (by omega), w64 (a := rd lo (i : Int) + Int.tmod (rd m (i : Int)) 6) (by omega), take_rd (by omega), take_rd (by omega), w64 (by omega)]
    have e : tops lo m i ++ [rd lo (i : Int) + Int.tmod (rd m (i : Int)) 6] = tops lo m (i + 1) := by rw [tops, tops, made_succ]
    rw [e]
    exact hk
end Box
open Box in
theorem FormBox : furrowlaw11_FormBox.Pure := by
  intro c K lo m hc1 hc2 hc hK hl1 hl2 hl hm1 hm2 hm
  have sc : ∀ z ∈ c, -128 ≤ z ∧ z ≤ 127 := fun z hz => i8_of (hc z hz)
  have sl : ∀ z ∈ lo, -128 ≤ z ∧ z ≤ 127 := fun z hz => i8_of (hl z hz)
  have sm : ∀ z ∈ m, 0 ≤ z ∧ z ≤ 255 := fun z hz => u8_of (hm z hz)
  replace hK := i16_of hK
  have j : ∀ y : Bool, (y = false → c.length ≤ 3 ∧ c.length ≤ lo.length ∧ c.length ≤ m.length) → ∃ k, furrowlaw11_FormBox.j0 k c K lo m y = some true := by
    intro y hy
    cases y with
    | true => exact ⟨1, by rw [furrowlaw11_FormBox.j0, if_pos rfl]⟩
    | false =>
      have h := hy rfl
      obtain ⟨k, hk⟩ := box_l0 h.1 rfl h.2.1 h.2.2 sc sl sm hK c.length 0 (by omega)
      refine ⟨k + 1, ?_⟩
      rw [furrowlaw11_FormBox.j0, if_neg (by simp), w64 (by omega)]
      simpa [tops, made] using hk
  have done : ∀ y : Bool, (y = false → c.length ≤ 3 ∧ c.length ≤ lo.length ∧ c.length ≤ m.length) → ∃ k, furrowlaw11_FormBox.j0 (40 + k) c K lo m y = some true := by
    intro y hy
    obtain ⟨k, hk⟩ := j y hy
    refine ⟨k, ?_⟩
    have up : ∀ q, furrowlaw11_FormBox.j0 (k + q) c K lo m y = some true := by
      intro q
      induction q with
      | zero => exact hk
      | succ q ih => exact (furrowlaw11_FormBox.mono_l (k + q)).1 _ _ _ _ _ _ ih
    rw [Nat.add_comm]; exact up 40
  have fin : ∀ y : Bool, (∀ k, furrowlaw11_FormBox.f k c K lo m = (furrowlaw11_known.f k).bind fun t => if t = true then furrowlaw11_FormBox.j0 k c K lo m y else some false) → (y = false → c.length ≤ 3 ∧ c.length ≤ lo.length ∧ c.length ≤ m.length) → ∃ k, furrowlaw11_FormBox.f k c K lo m = some true := by
    intro y hf hy
    obtain ⟨k, hk⟩ := done y hy
    exact ⟨40 + k, by rw [hf, known_more (by omega)]; simpa using hk⟩
  by_cases h1 : (c.length : Int) > 3
  · exact fin true (fun k => by unfold furrowlaw11_FormBox.f; simp only [if_pos h1]) (by simp)
  · by_cases h2 : (lo.length : Int) < (c.length : Int)
    · exact fin true (fun k => by unfold furrowlaw11_FormBox.f; simp only [if_neg h1, if_pos h2]) (by simp)
    · exact fin (decide ((m.length : Int) < (c.length : Int))) (fun k => by unfold furrowlaw11_FormBox.f; simp only [if_neg h1, if_neg h2]) (fun h => by have := of_decide_eq_false h; omega)

end Go.Proofs.YtmnifoeodohphaaDoor.Pure
