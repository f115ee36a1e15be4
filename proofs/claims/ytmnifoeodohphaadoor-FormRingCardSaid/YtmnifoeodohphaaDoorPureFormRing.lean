/- FormRing over numbers and lists alone. -/
import Derived.Test.YtmnifoeodohphaaDoorPureKnown
import Derived.Test.YtmnifoeodohphaaDoorXx18
import Derived.Laws.Bits64
namespace Go.Proofs.YtmnifoeodohphaaDoor.Pure
open Go.RowKit Go.Proofs.YtmnifoeodohphaaDoor.X Go.Proofs.YtmnifoeodohphaaDoor.Flt Go.Proofs.YtmnifoeodohphaaDoor.H Go.Proofs.YtmnifoeodohphaaDoorW.PrintWords Go.Proofs.YtmnifoeodohphaaDoorW.PrintLast Go.Proofs.YtmnifoeodohphaaDoorW.PrintMore
set_option linter.unusedVariables false
set_option linter.unusedSimpArgs false
/-! furrowlaw11.FormRing -/
namespace Ring
theorem i16_of {a : Int} (h : (Lit.int .i16 a).wf = true) : -32768 ≤ a ∧ a ≤ 32768 := by
  simp only [Lit.wf, IntKind.min, IntKind.max, IntKind.signed, IntKind.bits, Bool.and_eq_true, decide_eq_true_eq, if_true] at h
  omega
def small (l : List Int) : Prop := ∀ z ∈ l, -32768 ≤ z ∧ z ≤ 32768
theorem small_in {l : List Int} (h : small l) : ∀ z ∈ l, inR z := fun z hz => by have := h z hz; unfold inR; omega
theorem part_small {l : List Int} {K i : Int} (h0 : 0 ≤ i) (hl : small l) (hK : -32768 ≤ K ∧ K ≤ 32768) : -32768 ≤ partS l K i ∧ partS l K i ≤ 32768 := by
  unfold partS; split
  · exact hl _ (rd_mem h0 ‹_›)
  · exact hK
variable {A B Y : List Int} {p q m : Int} {n : Nat}
theorem ring_end (hA : A.length = n) (hB : B.length = n) (hY : Y.length = n) (sA : small A) (sB : small B) (sY : small Y) (sp : -32768 ≤ p ∧ p ≤ 32768) (sq : -32768 ≤ q ∧ q ≤ 32768) (sm : -32768 ≤ m ∧ m ≤ 32768) (hn : n ≤ 6) {k : Nat} (hk : 60 < k) (a b x : List Int) (hi : ¬ ((n : Int) < (a.length : Int))) :
    furrowlaw11_FormRing.l0 k a b m x Y (n : Int) A p B q = some true := by
  obtain ⟨k, rfl⟩ : ∃ z, k = z + 1 := ⟨k - 1, by omega⟩
  obtain ⟨k, rfl⟩ : ∃ z, k = z + 1 := ⟨k - 1, by omega⟩
  have ip : inR p := by unfold inR; omega
  have iq : inR q := by unfold inR; omega
  have im : inR m := by unfold inR; omega
  have bF : ∀ j : Int, 0 ≤ j → -32768 ≤ partS A p j ∧ partS A p j ≤ 32768 := fun j hj => part_small hj sA sp
  have bG : ∀ j : Int, 0 ≤ j → -32768 ≤ partS B q j ∧ partS B q j ≤ 32768 := fun j hj => part_small hj sB sq
  have bS : ∀ j : Int, 0 ≤ j → -2147483648 ≤ (partS A p j + partS B q j) * m ∧ (partS A p j + partS B q j) * m ≤ 2147483648 := fun j hj => by
    have h1 := bF j hj; have h2 := bG j hj
    exact @mul_bd (partS A p j + partS B q j) m 65536 32768 (by omega) (by omega)
  have bM : ∀ j : Int, 0 ≤ j → -1073741824 ≤ partS A p j * m ∧ partS A p j * m ≤ 1073741824 := fun j hj => @mul_bd (partS A p j) m 32768 32768 (bF j hj) (by omega)
  have bN : ∀ j : Int, 0 ≤ j → -1073741824 ≤ partS B q j * m ∧ partS B q j * m ≤ 1073741824 := fun j hj => @mul_bd (partS B q j) m 32768 32768 (bG j hj) (by omega)
  -- the sums and multiples
  have e1 : lin_Add.f A p B q = some (made (fun i => partS A p i + partS B q i) n, partS A p n + partS B q n, []) := by
    rw [add_l (by omega) (small_in sA) (small_in sB) ip iq (by omega), hA, each_ok (fun j h0 _ => by have := bF j h0; have := bG j h0; unfold inR; omega)]
  have e2 : lin_Add.f B q A p = some (made (fun i => partS A p i + partS B q i) n, partS A p n + partS B q n, []) := by
    rw [add_l (by omega) (small_in sB) (small_in sA) iq ip (by omega), hB, each_ok (fun j h0 _ => by have := bF j h0; have := bG j h0; unfold inR; omega)]
    rw [made_congr (u := fun i => partS A p i + partS B q i) (fun j _ _ => Int.add_comm _ _), Int.add_comm (partS B q n)]
  have e3 : lin_Scale.f (made (fun i => partS A p i + partS B q i) n) (partS A p n + partS B q n) m = some (made (fun i => (partS A p i + partS B q i) * m) n, (partS A p n + partS B q n) * m, []) := by
    have pm : ∀ j : Int, 0 ≤ j → j ≤ n → partS (made (fun i => partS A p i + partS B q i) n) (partS A p n + partS B q n) j = partS A p j + partS B q j := fun j h0 h1 => part_made (v := fun i => partS A p i + partS B q i) h0 h1
    rw [scale_l (made_in fun j h0 _ => by have := bF j h0; have := bG j h0; unfold inR; omega) (by have := bF n (by omega); have := bG n (by omega); unfold inR; omega) im (by rw [made_length]; omega), made_length,
      each_ok (fun j h0 h1 => by rw [pm j h0 h1]; have := bS j h0; unfold inR; omega), pm n (by omega) (by omega)]
    rw [made_congr (u := fun i => (partS A p i + partS B q i) * m) (fun j h0 h1 => by rw [pm j h0 (by omega)])]
  have e4 : lin_Scale.f A p m = some (made (fun i => partS A p i * m) n, partS A p n * m, []) := by
    rw [scale_l (small_in sA) ip im (by omega), hA, each_ok (fun j h0 _ => by have := bM j h0; unfold inR; omega)]
  have e5 : lin_Scale.f B q m = some (made (fun i => partS B q i * m) n, partS B q n * m, []) := by
    rw [scale_l (small_in sB) iq im (by omega), hB, each_ok (fun j h0 _ => by have := bN j h0; unfold inR; omega)]
  have e6 : lin_Add.f (made (fun i => partS A p i * m) n) (partS A p n * m) (made (fun i => partS B q i * m) n) (partS B q n * m) = some (made (fun i => (partS A p i + partS B q i) * m) n, (partS A p n + partS B q n) * m, []) := by
    have pm : ∀ j : Int, 0 ≤ j → j ≤ n → partS (made (fun i => partS A p i * m) n) (partS A p n * m) j = partS A p j * m := fun j h0 h1 => part_made (v := fun i => partS A p i * m) h0 h1
    have pn : ∀ j : Int, 0 ≤ j → j ≤ n → partS (made (fun i => partS B q i * m) n) (partS B q n * m) j = partS B q j * m := fun j h0 h1 => part_made (v := fun i => partS B q i * m) h0 h1
    rw [add_l (by rw [made_length, made_length]) (made_in fun j h0 _ => by have := bM j h0; unfold inR; omega) (made_in fun j h0 _ => by have := bN j h0; unfold inR; omega) (by have := bM n (by omega); unfold inR; omega) (by have := bN n (by omega); unfold inR; omega) (by rw [made_length]; omega), made_length,
      each_ok (fun j h0 h1 => by rw [pm j h0 h1, pn j h0 h1]; have := bM j h0; have := bN j h0; unfold inR; omega), pm n (by omega) (by omega), pn n (by omega) (by omega), ← Int.add_mul]
    rw [made_congr (u := fun i => (partS A p i + partS B q i) * m) (fun j h0 h1 => by rw [pm j h0 (by omega), pn j h0 (by omega), ← Int.add_mul])]
  have same : ∀ (v : Int → Int) (w : Int), lin_Same.f (k + 1) (made v n) w (made v n) w = some true := fun v w => by
    rw [same_spec (by rw [made_length]; omega) (by rw [made_length]; omega) (by rw [made_length]; omega), sameS_refl]; simp
  -- at a point
  have f1 : lin_At.f k A p Y = some (dot A Y + p, []) := by
    rw [at_spec (by omega) (small_in sA) (small_in sY) ip (by omega) (by omega), at_small (L := 32768) (X := 32768) (by omega) (by omega) A Y 0 p sA sY (by rw [hA]; omega), Int.zero_add]
  have f2 : lin_At.f k B q Y = some (dot B Y + q, []) := by
    rw [at_spec (by omega) (small_in sB) (small_in sY) iq (by omega) (by omega), at_small (L := 32768) (X := 32768) (by omega) (by omega) B Y 0 q sB sY (by rw [hB]; omega), Int.zero_add]
  have zz : made (fun i => (partS A p i + partS B q i) * m) n = List.zipWith (fun a b => (a + b) * m) A B := by
    rw [← made_zip (fun a b => (a + b) * m) hA hB]
    exact made_congr fun j h0 h1 => by simp only [part_lt (l := A) (K := p) (i := j) (by omega), part_lt (l := B) (K := q) (i := j) (by omega)]
  have bS2 : ∀ z ∈ made (fun i => (partS A p i + partS B q i) * m) n, -2147483648 ≤ z ∧ z ≤ 2147483648 := by
    intro z hz
    simp only [made, List.mem_map, List.mem_range] at hz
    obtain ⟨j, hj, rfl⟩ := hz
    exact bS _ (by omega)
  have bSn := bS (n : Int) (by omega)
  have f3 : lin_At.f k (made (fun i => (partS A p i + partS B q i) * m) n) ((partS A p n + partS B q n) * m) Y = some (m * (dot A Y + p + (dot B Y + q)), []) := by
    rw [at_spec (by rw [made_length]; omega) (made_in fun j h0 _ => by have := bS j h0; unfold inR; omega) (small_in sY) (by unfold inR; omega) (by rw [made_length]; omega) (by rw [made_length]; omega),
      at_small (L := 2147483648) (X := 32768) (by omega) (by omega) _ Y 0 _ bS2 sY (by rw [made_length]; omega), zz, dot_ring m A B Y (by omega), part_ge (l := A) (by omega), part_ge (l := B) (by omega)]
    congr 2
    rw [Int.mul_comm (p + q) m, Int.zero_add, ← Int.mul_add]
    congr 1
    omega
  have dA := at_small (L := 32768) (X := 32768) (by omega) (by omega) A Y 0 0 sA sY (by rw [hA]; omega)
  have bd : ∀ (l y : List Int), small l → small y → l.length ≤ 6 → -(6 * 1073741824) ≤ dot l y ∧ dot l y ≤ 6 * 1073741824 := by
    intro l y sl sy hl
    have : ∀ (l y : List Int), small l → small y → -((l.length : Int) * 1073741824) ≤ dot l y ∧ dot l y ≤ (l.length : Int) * 1073741824 := by
      intro l
      induction l with
      | nil => intro y _ _; simp [dot]
      | cons c l ih =>
        intro y sl sy
        cases y with
        | nil => simp only [dot]; omega
        | cons z y =>
          have h1 := @mul_bd c z 32768 32768 (sl c (by simp)) (sy z (by simp))
          have h2 := ih y (fun z hz => sl z (by simp [hz])) (fun z hz => sy z (by simp [hz]))
          simp only [dot, List.length_cons]; omega
    have := this l y sl sy
    omega
  have b1 := bd A Y sA sY (by omega)
  have b2 := bd B Y sB sY (by omega)
  simp only [furrowlaw11_FormRing.l0]
  rw [if_neg hi, e1]
  simp only [Option.bind_some]
  rw [e2]
  simp only [Option.bind_some]
  rw [w64 (a := m) (by omega), e3]
  simp only [Option.bind_some]
  rw [e4]
  simp only [Option.bind_some]
  rw [e5]
  simp only [Option.bind_some]
  rw [e6]
  simp only [Option.bind_some, List.length_nil, Int.natCast_zero, Int.ofNat_zero, if_true]
  rw [same, same]
  simp only [Option.bind_some, if_true, Bool.not_true]
  simp only [furrowlaw11_FormRing.j2]
  rw [if_neg (by simp), f1, f2, f3]
  simp only [Option.bind_some, List.length_nil, Int.natCast_zero, Int.ofNat_zero, if_true]
  have h := @mul_bd m (dot A Y + p + (dot B Y + q)) 32768 13000000000 (by omega) (by omega)
  rw [w64 (a := m) (by omega), w64 (a := dot A Y + p + (dot B Y + q)) (by omega), w64 (by omega)]
  simp
end Ring

namespace Ring
theorem take_rd {l : List Int} {i : Nat} (h : i < l.length) : l.take i ++ [rd l (i : Int)] = l.take (i + 1) := by
  rw [rd_get h, List.take_succ_eq_append_getElem h]
theorem small_take {l : List Int} (h : small l) (n : Nat) : small (l.take n) := fun z hz => h z (List.mem_of_mem_take hz)
theorem rd_small {l : List Int} (h : small l) {i : Nat} (hi : i < l.length) : wrap64 (rd l (i : Int)) = rd l (i : Int) := by
  have := h _ (rd_mem (l := l) (i := (i : Int)) (by omega) (by omega))
  exact w64 (by omega)
theorem ring_l {a b x : List Int} {p q m : Int} {n : Nat} (hn : n ≤ 6) (hla : a.length = n) (hlb : n ≤ b.length) (hlx : n ≤ x.length) (sA : small a) (sB : small b) (sY : small x) (sp : -32768 ≤ p ∧ p ≤ 32768) (sq : -32768 ≤ q ∧ q ≤ 32768) (sm : -32768 ≤ m ∧ m ≤ 32768) (d : Nat) :
    ∀ (k i : Nat), i + d = n → d + 61 < k → furrowlaw11_FormRing.l0 k a b m x (x.take i) (i : Int) (a.take i) p (b.take i) q = some true := by
  induction d with
  | zero =>
    intro k i hi hk
    obtain rfl : i = n := by omega
    exact ring_end (by rw [List.length_take]; omega) (by rw [List.length_take]; omega) (by rw [List.length_take]; omega) (small_take sA _) (small_take sB _) (small_take sY _) sp sq sm hn (by omega) a b x (by omega)
  | succ d ih =>
    intro k i hi hk
    obtain ⟨k, rfl⟩ : ∃ z, k = z + 1 := ⟨k - 1, by omega⟩
    have l1 : (a.take i).length = i := by rw [List.length_take]; omega
    have l2 : (b.take i).length = i := by rw [List.length_take]; omega
    have l3 : (x.take i).length = i := by rw [List.length_take]; omega
    rw [furrowlaw11_FormRing.l0, if_pos (by omega), if_pos (by omega), l1, l2, l3, if_pos (by omega), if_pos (by omega), if_pos (by omega), if_pos (by omega), if_pos (by omega), rd_small sY (by omega), rd_small sA (by omega), rd_small sB (by omega), take_rd (by omega), take_rd (by omega), take_rd (by omega), w64 (by omega)]
    exact ih k (i + 1) (by omega) (by omega)
end Ring
open Ring in
theorem FormRing : furrowlaw11_FormRing.Pure := by
  intro a b p q m x ha1 ha2 ha hb1 hb2 hb hp hq hm hx1 hx2 hx
  have sa : small a := fun z hz => i16_of (ha z hz)
  have sb : small b := fun z hz => i16_of (hb z hz)
  have sx : small x := fun z hz => i16_of (hx z hz)
  replace hp := i16_of hp
  replace hq := i16_of hq
  replace hm := i16_of hm
  refine ⟨100, ?_⟩
  have j : ∀ y : Bool, (y = false → a.length ≤ 6 ∧ a.length ≤ b.length ∧ a.length ≤ x.length) → furrowlaw11_FormRing.j0 100 a b p q m x y = some true := by
    intro y hy
    rw [furrowlaw11_FormRing.j0]
    cases y with
    | true => rw [if_pos rfl]
    | false =>
      have h := hy rfl
      rw [if_neg (by simp), w64 (a := p) (by omega), w64 (a := q) (by omega)]
      have r := ring_l (n := a.length) h.1 rfl h.2.1 h.2.2 sa sb sx hp hq hm a.length 99 0 (by omega) (by omega)
      simpa using r
  unfold furrowlaw11_FormRing.f
  rw [known_more (by omega)]
  simp only [Option.bind_some, if_true]
  split
  · exact j true (by simp)
  · split
    · exact j true (by simp)
    · exact j _ (fun h => by have := of_decide_eq_false h; omega)

end Go.Proofs.YtmnifoeodohphaaDoor.Pure
