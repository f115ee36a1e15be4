/- FormText over bytes and lists alone. -/
import Derived.Test.YtmnifoeodohphaaDoorPureKnown
import Derived.Test.YtmnifoeodohphaaDoorXx16
import Derived.Test.YtmnifoeodohphaaDoorHandT
import Derived.Laws.Bits64
namespace Go.Proofs.YtmnifoeodohphaaDoor.Pure
open Go.RowKit Go.Proofs.YtmnifoeodohphaaDoor.X Go.Proofs.YtmnifoeodohphaaDoor.Flt Go.Proofs.YtmnifoeodohphaaDoor.H Go.Proofs.YtmnifoeodohphaaDoorW.PrintWords Go.Proofs.YtmnifoeodohphaaDoorW.PrintLast Go.Proofs.YtmnifoeodohphaaDoorW.PrintMore
set_option linter.unusedVariables false
set_option linter.unusedSimpArgs false
/-! bytes, numerals -/
abbrev BA (l : List UInt8) : ByteArray := ⟨l.toArray⟩
theorem BA_size (l : List UInt8) : (BA l).size = l.length := by simp [ByteArray.size]
theorem BA_of (s : ByteArray) : BA s.data.toList = s := rfl
theorem BA_tl (l : List UInt8) : (BA l).toList = l := by rw [ByteArray.toList_eq]
theorem BA_app (a b : List UInt8) : BA a ++ BA b = BA (a ++ b) := by
  apply ByteArray.ext; apply Array.ext'; simp [ByteArray.data_append]
theorem BA_rest (c : UInt8) (l : List UInt8) : (BA (c :: l)).extract 1 (BA (c :: l)).size = BA l := by
  apply ByteArray.ext; apply Array.ext'; simp [ByteArray.data_extract, ByteArray.size]
theorem map_lists (a : List ByteArray) : (a.map fun s => s.data.toList).map BA = a := by
  rw [List.map_map]; conv => rhs; rw [← List.map_id a]
  rfl
theorem rd_map (ls : List (List UInt8)) (i : Nat) (h : i < ls.length) : rdOf ByteArray.empty (ls.map BA) (i : Int) = BA ls[i] := by
  unfold rdOf
  rw [Int.toNat_natCast, List.getD_eq_getElem?_getD, List.getElem?_map, List.getElem?_eq_getElem h]
  rfl
abbrev dd (u : Nat) : List UInt8 := Lib.decDigits u
theorem dd_small {u : Nat} (h : u < 10) : dd u = [UInt8.ofNat (48 + u)] := by unfold dd; rw [Lib.decDigits, dif_pos h]
theorem dd_big {u : Nat} (h : ¬ u < 10) : dd u = dd (u / 10) ++ [UInt8.ofNat (48 + u % 10)] := by unfold dd; rw [Lib.decDigits, dif_neg h]
theorem nd_le : ∀ (m u : Nat), u < 10 ^ (m + 1) → Lib.nDigits u ≤ m + 1
  | 0, u, h => by rw [Lib.nDigits_small (by omega)]; omega
  | m + 1, u, h => by
    by_cases c : u < 10
    · rw [Lib.nDigits_small c]; omega
    · rw [Lib.nDigits_big c]
      have := nd_le m (u / 10) (by rw [Nat.pow_succ] at h; omega)
      omega
theorem nd_20 (u : Nat) (h : u < 18446744073709551616) : Lib.nDigits u ≤ 20 := nd_le 19 u (by omega)
theorem dd_len {u : Nat} (h : u < 18446744073709551616) : (dd u).length ≤ 20 := by unfold dd; rw [Lib.decDigits_length]; exact nd_20 u h
theorem dd_one {u : Nat} : dd u = [49] ↔ u = 1 := by
  constructor
  · intro h
    by_cases c : u < 10
    · rw [dd_small c] at h
      have h1 := congrArg UInt8.toNat (List.cons.inj h).1
      rw [UInt8.toNat_ofNat'] at h1
      have h2 : (49 : UInt8).toNat = 49 := rfl
      rw [h2] at h1
      omega
    · rw [dd_big c] at h
      have h1 := congrArg List.length h
      rw [List.length_append] at h1
      have h2 : 1 ≤ (dd (u / 10)).length := by unfold dd; rw [Lib.decDigits_length]; exact Lib.nDigits_pos _
      simp only [List.length_cons, List.length_nil] at h1
      omega
  · rintro rfl; rw [dd_small (by decide)]; rfl
theorem dig1 (u : Nat) : strOfNums [(wrap64 (48 + Int.tmod (u : Int) 10)) % 256] = BA [UInt8.ofNat (48 + u % 10)] := by
  have h : (wrap64 (48 + Int.tmod (u : Int) 10)) % 256 = ((48 + u % 10 : Nat) : Int) := by
    rw [Int.tmod_eq_emod_of_nonneg (by omega)]; unfold wrap64; omega
  rw [h]; rfl
theorem dec_l0 : ∀ (m u : Nat) (t : List UInt8) (k : Nat), Lib.nDigits u ≤ m → u < 9223372036854775808 → m < k → t.length + m ≤ 100 →
    furrowref4_Decimal.l0 k (u : Int) (BA t) = some (BA ((if u < 10 then [] else dd (u / 10)) ++ t))
  | 0, u, t, k, hm, hu, hk, ht => by have := Lib.nDigits_pos u; omega
  | m + 1, u, t, k, hm, hu, hk, ht => by
    obtain ⟨k, rfl⟩ : ∃ m, k = m + 1 := ⟨k - 1, by omega⟩
    simp only [furrowref4_Decimal.l0]
    by_cases c : u < 10
    · rw [if_neg (by omega), if_pos c]; rfl
    · have hd : Int.tdiv (u : Int) 10 = ((u / 10 : Nat) : Int) := by rw [Int.tdiv_eq_ediv_of_nonneg (by omega)]; omega
      have hw : wrap64 ((u / 10 : Nat) : Int) = ((u / 10 : Nat) : Int) := by unfold wrap64; omega
      have hn := Lib.nDigits_big c
      rw [if_pos (by omega), hd, hw, Option.bind_some, dig1, BA_size, BA_size, if_pos (by simp only [List.length_cons, List.length_nil]; omega), BA_app,
        dec_l0 m (u / 10) _ k (by omega) (by omega) (by omega) (by simp; omega), if_neg c]
      by_cases c2 : u / 10 < 10
      · rw [if_pos c2, dd_small c2, Nat.mod_eq_of_lt c2]; rfl
      · rw [if_neg c2, dd_big c2]; simp
theorem dec_nat (u k : Nat) (hu : u < 9223372036854775808) (hk : 25 < k) : furrowref4_Decimal.f k (u : Int) = some (BA (dd u)) := by
  obtain ⟨k, rfl⟩ : ∃ m, k = m + 1 := ⟨k - 1, by omega⟩
  simp only [furrowref4_Decimal.f]
  rw [if_neg (by omega), if_neg (by omega), dig1, dec_l0 20 u _ k (nd_20 u (by omega)) hu (by omega) (by simp)]
  by_cases c : u < 10
  · rw [if_pos c, dd_small c, Nat.mod_eq_of_lt c]; rfl
  · rw [if_neg c, dd_big c]
theorem dd_least : dd 9223372036854775808 = [57, 50, 50, 51, 51, 55, 50, 48, 51, 54, 56, 53, 52, 55, 55, 53, 56, 48, 56] := by
  repeat rw [dd_big (by decide)]
  rw [dd_small (by decide)]
  decide +kernel
theorem rsize_spec (n : Int) (h : -9223372036854775808 ≤ n ∧ n ≤ 9223372036854775807) (k : Nat) (hk : 30 < k) : furrowref14_size.f k n = some (BA (dd n.natAbs)) := by
  unfold furrowref14_size.f
  by_cases h0 : n < 0
  · by_cases hm : n = -9223372036854775808
    · subst hm
      obtain ⟨k, rfl⟩ : ∃ m, k = m + 1 := ⟨k - 1, by omega⟩
      simp only [furrowref4_Decimal.f]
      rw [if_pos True.intro, Option.bind_some, if_pos (by decide), if_pos (by decide)]
      have e : Int.natAbs (-9223372036854775808) = 9223372036854775808 := rfl
      rw [e, dd_least]; rfl
    · obtain ⟨u, hu⟩ : ∃ u : Nat, n = -(u : Int) := ⟨n.natAbs, by omega⟩
      subst hu
      obtain ⟨k, rfl⟩ : ∃ m, k = m + 1 := ⟨k - 1, by omega⟩
      have hw : wrap64 (- -(u : Int)) = (u : Int) := by unfold wrap64; omega
      have hl := dd_len (u := u) (by omega)
      simp only [furrowref4_Decimal.f]
      rw [if_neg hm, if_pos h0, hw, dec_nat u k (by omega) (by omega), Option.bind_some, BA_size, if_pos (by omega), Option.bind_some, if_pos h0, show (⟨#[45]⟩ : ByteArray) = BA [45] from rfl, BA_app]
      show (if 1 ≤ (((BA (45 :: dd u)).size : Nat) : Int) then some ((BA (45 :: dd u)).extract 1 (BA (45 :: dd u)).size) else none) = _
      rw [BA_rest, if_pos (by rw [BA_size, List.length_cons]; omega)]
      congr 2; congr 1; omega
  · obtain ⟨u, rfl⟩ : ∃ u : Nat, n = (u : Int) := ⟨n.toNat, by omega⟩
    rw [dec_nat u k (by omega) (by omega), Option.bind_some, if_neg h0]
    rfl

/-! a form in words -/
/-- A number of times a name. -/
def core (n : Int) (name : List UInt8) : List UInt8 := if name = [] then dd n.natAbs else if dd n.natAbs = [49] then name else dd n.natAbs ++ 42 :: name
/-- What is put behind what stands. -/
def putL (s : List UInt8) (neg : Bool) (t : List UInt8) : List UInt8 := if s = [] then (if neg then 45 :: t else t) else if neg then s ++ ([32, 45, 32] ++ t) else s ++ ([32, 43, 32] ++ t)
theorem core_len (n : Int) (h : -9223372036854775808 ≤ n ∧ n ≤ 9223372036854775807) (name : List UInt8) : (core n name).length ≤ name.length + 21 := by
  have hl := dd_len (u := n.natAbs) (by omega)
  unfold core
  split
  · omega
  · split
    · omega
    · rw [List.length_append, List.length_cons]; omega
theorem putL_len (s : List UInt8) (neg : Bool) (t : List UInt8) : (putL s neg t).length ≤ s.length + t.length + 3 := by
  unfold putL
  split
  · split
    · rw [List.length_cons]; omega
    · omega
  · split <;> simp only [List.length_append, List.length_cons, List.length_nil] <;> omega
theorem piece_spec (n : Int) (h : -9223372036854775808 ≤ n ∧ n ≤ 9223372036854775807) (name : List UInt8) (hn : name.length ≤ 1000000000000000000) (k : Nat) : lin_piece.f (k + 1) n (BA name) = some (BA (if n < 0 then [45] else []), BA (core n name)) := by
  have hl := dd_len (u := n.natAbs) (by omega)
  have key : ∀ sg : ByteArray, lin_piece.j0 (k + 1) (BA name) (BA (dd n.natAbs)) sg = some (sg, BA (core n name)) := by
    intro sg
    simp only [lin_piece.j0]
    rw [BA_tl, BA_tl]
    unfold core
    by_cases c1 : name = []
    · rw [if_pos c1, if_pos c1]
    · rw [if_neg c1, if_neg c1]
      by_cases c2 : dd n.natAbs = [49]
      · rw [if_pos c2, if_pos c2]
      · rw [if_neg c2, if_neg c2, BA_size, if_pos (by omega), show (⟨#[42]⟩ : ByteArray) = BA [42] from rfl, BA_app, BA_size, BA_size, if_pos (by rw [List.length_append]; simp only [List.length_cons, List.length_nil]; omega), BA_app]
        rfl
  unfold lin_piece.f strconv_FormatInt.f
  rw [if_pos rfl, if_pos h, Option.bind_some]
  by_cases h0 : n < 0
  · have hi : Lib.itoa n = 45 :: dd n.natAbs := by unfold Lib.itoa; rw [if_pos h0]
    rw [if_pos h0, hi]
    show (if 1 ≤ (((BA (45 :: dd n.natAbs)).size : Nat) : Int) then lin_piece.j0 (k + 1) (BA name) ((BA (45 :: dd n.natAbs)).extract 1 (BA (45 :: dd n.natAbs)).size) ⟨#[45]⟩ else none) = _
    rw [BA_rest, if_pos (by rw [BA_size, List.length_cons]; omega), key, if_pos h0]
  · have hi : Lib.itoa n = dd n.natAbs := by
      unfold Lib.itoa; rw [if_neg h0]; congr 1; omega
    rw [if_neg h0, hi, if_neg h0]
    exact key _
theorem pput_spec (s : List UInt8) (n : Int) (h : -9223372036854775808 ≤ n ∧ n ≤ 9223372036854775807) (name : List UInt8) (hn : name.length ≤ 1000000000000000000) (hs : s.length ≤ 1000000000000000000) (k : Nat) : text_put.f (k + 1) (BA s) n (BA name) = some (BA (putL s (decide (n < 0)) (core n name))) := by
  have hl := core_len n h name
  unfold text_put.f
  rw [piece_spec n h name hn, Option.bind_some]
  dsimp only
  rw [BA_tl, BA_tl, BA_size, BA_size]
  unfold putL
  by_cases c1 : s = []
  · by_cases c0 : n < 0
    · rw [if_pos c1, if_pos c1, if_pos c0, decide_eq_true c0, if_pos rfl, if_pos (by simp only [List.length_cons, List.length_nil]; omega), BA_app]; rfl
    · rw [if_pos c1, if_pos c1, if_neg c0, decide_eq_false c0, if_neg Bool.false_ne_true, if_pos (by simp only [List.length_nil]; omega), BA_app]; rfl
  · rw [if_neg c1, if_neg c1]
    by_cases c0 : n < 0
    · rw [if_pos c0, decide_eq_true c0, if_pos rfl, if_neg (by decide), if_pos (by omega), show (⟨#[32, 45, 32]⟩ : ByteArray) = BA [32, 45, 32] from rfl, BA_app, BA_size, BA_size, if_pos (by rw [List.length_append]; simp only [List.length_cons, List.length_nil]; omega), BA_app]
    · rw [if_neg c0, decide_eq_false c0, if_neg Bool.false_ne_true, if_pos rfl, if_pos (by omega), show (⟨#[32, 43, 32]⟩ : ByteArray) = BA [32, 43, 32] from rfl, BA_app, BA_size, BA_size, if_pos (by rw [List.length_append]; simp only [List.length_cons, List.length_nil]; omega), BA_app]
theorem rput_spec (s : List UInt8) (neg : Bool) (t : List UInt8) (ht : t.length ≤ 2000000000000000000) (hs : s.length ≤ 1000000000000000000) (k : Nat) : furrowref14_put.f (k + 1) (BA s) neg (BA t) = some (BA (putL s neg t)) := by
  unfold furrowref14_put.f putL
  rw [BA_tl]
  by_cases c1 : s = []
  · rw [if_pos c1, if_pos c1]
    cases neg with
    | true =>
      simp only [furrowref14_put.j0]
      rw [if_pos True.intro, BA_size, if_pos (by omega), if_pos True.intro, show (⟨#[45]⟩ : ByteArray) = BA [45] from rfl, BA_app]; rfl
    | false =>
      simp only [furrowref14_put.j0]
      rw [if_neg (by decide), BA_tl, if_pos c1, if_neg (by decide)]
  · rw [if_neg c1, if_neg c1]
    simp only [furrowref14_put.j0]
    rw [if_neg (by decide), BA_tl, if_neg c1, BA_size]
    cases neg with
    | true =>
      rw [if_pos rfl, if_pos rfl, if_pos (by omega), show (⟨#[32, 45, 32]⟩ : ByteArray) = BA [32, 45, 32] from rfl, BA_app, BA_size, BA_size, if_pos (by rw [List.length_append]; simp only [List.length_cons, List.length_nil]; omega), BA_app, List.append_assoc]
    | false =>
      rw [if_neg Bool.false_ne_true, if_neg Bool.false_ne_true, if_pos (by omega), show (⟨#[32, 43, 32]⟩ : ByteArray) = BA [32, 43, 32] from rfl, BA_app, BA_size, BA_size, if_pos (by rw [List.length_append]; simp only [List.length_cons, List.length_nil]; omega), BA_app, List.append_assoc]
/-- A variable's name. -/
def nameL (ls : List (List UInt8)) (i : Nat) : List UInt8 := if h : i < ls.length then (if ls[i] = [] then 120 :: dd i else ls[i]) else 120 :: dd i
theorem nameL_ne (ls : List (List UInt8)) (i : Nat) : nameL ls i ≠ [] := by
  unfold nameL; split
  · split
    · simp
    · assumption
  · simp
theorem nameL_len (ls : List (List UInt8)) (hb : ∀ x ∈ ls, x.length ≤ 140737488351232) (i : Nat) (hi : i < 1000) : (nameL ls i).length ≤ 140737488351232 + 21 := by
  have hl := dd_len (u := i) (by omega)
  unfold nameL; split
  · split
    · rw [List.length_cons]; omega
    · rename_i h _; have := hb _ (List.getElem_mem h); omega
  · rw [List.length_cons]; omega
theorem pname_spec (ls : List (List UInt8)) (i : Nat) (hi : i < 1000) : text_name (ls.map BA) (i : Int) = some (BA (nameL ls i)) := by
  have hl := dd_len (u := i) (by omega)
  have ht : Lib.itoa (i : Int) = dd i := Lib.itoa_nonneg i
  unfold text_name strconv_Itoa.f
  rw [if_pos (by omega), Option.bind_some, ht]
  show (if 1 + (BA (dd i)).size ≤ 9223372036854775807 then _ else _) = _
  rw [BA_size, if_pos (by omega), List.length_map, show (⟨#[120]⟩ : ByteArray) = BA [120] from rfl]
  show (if (i : Int) < (ls.length : Int) then (if (rdOf ByteArray.empty (ls.map BA) (i : Int)).toList = [] then some (BA [120] ++ BA (dd i)) else some (rdOf ByteArray.empty (ls.map BA) (i : Int))) else some (BA [120] ++ BA (dd i))) = _
  rw [BA_app]
  unfold nameL
  by_cases h : i < ls.length
  · rw [if_pos (by omega), dif_pos h, rd_map ls i h, BA_tl]
    by_cases c : ls[i] = []
    · rw [if_pos c, if_pos c]; rfl
    · rw [if_neg c, if_neg c]
  · rw [if_neg (by omega), dif_neg h]; rfl
theorem rj3_spec (l : List Int) (K : Int) (ls : List (List UInt8)) (out : List UInt8) (i : Nat) (hi : i < l.length) (hl : l.length ≤ 20) (hin : ∀ z ∈ l, -9223372036854775808 ≤ z ∧ z ≤ 9223372036854775807) (nm : List UInt8) (hne : nm ≠ []) (hnm : nm.length ≤ 140737488351232 + 21) (ho : out.length ≤ 1000000000000000000) (k : Nat) (hk : 40 < k) :
    furrowref14_Text.j2 k (ls.map BA) (BA out) (i : Int) (BA nm) l K = furrowref14_Text.l0 (k - 2) (ls.map BA) (BA (putL out (decide (l[i] < 0)) (core l[i] nm))) ((i + 1 : Nat) : Int) l K := by
  obtain ⟨k, rfl⟩ : ∃ m, k = m + 2 := ⟨k - 2, by omega⟩
  have hr : rd l (i : Int) = l[i] := by unfold rd; rw [Int.toNat_natCast, List.getD_eq_getElem?_getD, List.getElem?_eq_getElem hi]; rfl
  have hz := hin _ (List.getElem_mem hi)
  have hw : wrap64 ((i : Int) + 1) = ((i + 1 : Nat) : Int) := by unfold wrap64; omega
  have hd := dd_len (u := l[i].natAbs) (by omega)
  have one : (dd l[i].natAbs = [49]) ↔ l[i].natAbs = 1 := dd_one
  have hlc := core_len l[i] hz nm
  simp only [furrowref14_Text.j2]
  rw [if_pos (by omega), if_pos (by omega), hr]
  have plain : l[i].natAbs = 1 → furrowref14_Text.j3 (k + 1) (ls.map BA) (BA out) (i : Int) (BA nm) false l K = furrowref14_Text.l0 k (ls.map BA) (BA (putL out (decide (l[i] < 0)) (core l[i] nm))) ((i + 1 : Nat) : Int) l K := by
    intro h1
    obtain ⟨k, rfl⟩ : ∃ m, k = m + 1 := ⟨k - 1, by omega⟩
    have hc : core l[i] nm = nm := by unfold core; rw [if_neg hne, if_pos (one.2 h1)]
    simp only [furrowref14_Text.j3]
    rw [if_neg (by decide), if_pos (by omega), if_pos (by omega), hr, rput_spec out _ nm (by omega) ho k, Option.bind_some, hw, hc]
  by_cases c1 : l[i] = 1
  · rw [if_pos c1]; exact plain (by omega)
  · rw [if_neg c1]
    by_cases c2 : l[i] = -1
    · rw [show (l[i] != -1) = false from bne_eq_false_iff_eq.2 c2]; exact plain (by omega)
    · rw [show (l[i] != -1) = true from bne_iff_ne.2 c2]
      have hc : core l[i] nm = (dd l[i].natAbs ++ [42]) ++ nm := by
        unfold core; rw [if_neg hne, if_neg (fun e => by have := one.1 e; omega)]; simp
      obtain ⟨k, rfl⟩ : ∃ m, k = m + 1 := ⟨k - 1, by omega⟩
      simp only [furrowref14_Text.j3]
      rw [if_pos True.intro, if_pos (by omega), if_pos (by omega), hr, rsize_spec l[i] hz (k + 1) (by omega), Option.bind_some, BA_size, if_pos (by omega), show (⟨#[42]⟩ : ByteArray) = BA [42] from rfl, BA_app, BA_size, BA_size, if_pos (by rw [List.length_append]; simp only [List.length_cons, List.length_nil]; omega), BA_app, ← hc, rput_spec out _ _ (by omega) ho k, Option.bind_some, hw]
      rfl
theorem rname_spec (l : List Int) (K : Int) (ls : List (List UInt8)) (out : ByteArray) (i : Nat) (hi : i < 1000) (k : Nat) :
    (if (i : Int) < ((ls.map BA).length : Int) then (furrowref14_Text.j1 (k + 1) (ls.map BA) out (i : Int) (BA (120 :: dd i)) ((rdOf ByteArray.empty (ls.map BA) (i : Int)).toList != ([] : List UInt8)) l K) else (furrowref14_Text.j1 (k + 1) (ls.map BA) out (i : Int) (BA (120 :: dd i)) false l K)) = furrowref14_Text.j2 k (ls.map BA) out (i : Int) (BA (nameL ls i)) l K := by
  rw [List.length_map]
  unfold nameL
  by_cases h : i < ls.length
  · rw [if_pos (by omega), dif_pos h, rd_map ls i h, BA_tl]
    by_cases c : ls[i] = []
    · rw [if_pos c, show (ls[i] != []) = false from bne_eq_false_iff_eq.2 c]
      simp only [furrowref14_Text.j1]
      rw [if_neg (by decide)]
    · rw [if_neg c, show (ls[i] != []) = true from bne_iff_ne.2 c]
      simp only [furrowref14_Text.j1]
      rw [if_pos True.intro, List.length_map, if_pos (by omega), if_pos (by omega), rd_map ls i h]
  · rw [if_neg (by omega), dif_neg h]
    simp only [furrowref14_Text.j1]
    rw [if_neg (by decide)]
theorem both_text (l : List Int) (K : Int) (ls : List (List UInt8)) (hl : l.length ≤ 20) (hin : ∀ z ∈ l, -9223372036854775808 ≤ z ∧ z ≤ 9223372036854775807) (hK : -9223372036854775808 ≤ K ∧ K ≤ 9223372036854775807) (hb : ∀ x ∈ ls, x.length ≤ 140737488351232) :
    ∀ (d i : Nat) (out : List UInt8), i + d = l.length → out.length ≤ i * 140737488352000 → ∃ R : ByteArray, (∀ k, d < k → text_l k l K (ls.map BA) (i : Int) (BA out) = some R) ∧ (∀ k, 4 * d + 60 < k → furrowref14_Text.l0 k (ls.map BA) (BA out) (i : Int) l K = some R)
  | 0, i, out, hi, ho => by
    have hoo : out.length ≤ 1000000000000000000 := by
      have : i ≤ 20 := by omega
      have : i * 140737488352000 ≤ 20 * 140737488352000 := Nat.mul_le_mul_right _ this
      omega
    have hp := pput_spec out K hK [] (by simp) hoo 0
    have hc : core K [] = dd K.natAbs := by unfold core; rw [if_pos rfl]
    have hlk := dd_len (u := K.natAbs) (by omega)
    have hput : ∀ k, 40 < k → furrowref14_Text.j4 k (BA out) true l K = some (BA (putL out (decide (K < 0)) (core K []))) := by
      intro k hk
      obtain ⟨k, rfl⟩ : ∃ m, k = m + 2 := ⟨k - 2, by omega⟩
      simp only [furrowref14_Text.j4]
      rw [if_pos True.intro, rsize_spec K hK (k + 1) (by omega), Option.bind_some, rput_spec out _ _ (by omega) hoo k, Option.bind_some, hc]
    by_cases hk0 : K = 0
    · by_cases hs : out = []
      · refine ⟨BA (putL out (decide (K < 0)) (core K [])), fun k hk => ?_, fun k hk => ?_⟩
        · obtain ⟨k, rfl⟩ : ∃ m, k = m + 1 := ⟨k - 1, by omega⟩
          simp only [text_l]
          rw [if_neg (by omega)]
          unfold text_end
          rw [if_pos hk0, BA_tl, if_pos hs]; exact hp
        · obtain ⟨k, rfl⟩ : ∃ m, k = m + 1 := ⟨k - 1, by omega⟩
          simp only [furrowref14_Text.l0]
          rw [if_neg (by omega), if_pos hk0, BA_tl, show (out == []) = true from beq_iff_eq.2 hs]
          exact hput k (by omega)
      · refine ⟨BA out, fun k hk => ?_, fun k hk => ?_⟩
        · obtain ⟨k, rfl⟩ : ∃ m, k = m + 1 := ⟨k - 1, by omega⟩
          simp only [text_l]
          rw [if_neg (by omega)]
          unfold text_end
          rw [if_pos hk0, BA_tl, if_neg hs]
        · obtain ⟨k, rfl⟩ : ∃ m, k = m + 2 := ⟨k - 2, by omega⟩
          simp only [furrowref14_Text.l0]
          rw [if_neg (by omega), if_pos hk0, BA_tl, show (out == []) = false from beq_eq_false_iff_ne.2 hs]
          simp only [furrowref14_Text.j4]
          rw [if_neg (by decide)]
    · refine ⟨BA (putL out (decide (K < 0)) (core K [])), fun k hk => ?_, fun k hk => ?_⟩
      · obtain ⟨k, rfl⟩ : ∃ m, k = m + 1 := ⟨k - 1, by omega⟩
        simp only [text_l]
        rw [if_neg (by omega)]
        unfold text_end
        rw [if_neg hk0]; exact hp
      · obtain ⟨k, rfl⟩ : ∃ m, k = m + 1 := ⟨k - 1, by omega⟩
        simp only [furrowref14_Text.l0]
        rw [if_neg (by omega), if_neg hk0]
        exact hput k (by omega)
  | d + 1, i, out, hi, ho => by
    have hlt : i < l.length := by omega
    have hoo : out.length ≤ 1000000000000000000 := by
      have : i ≤ 20 := by omega
      have : i * 140737488352000 ≤ 20 * 140737488352000 := Nat.mul_le_mul_right _ this
      omega
    have hr : rd l (i : Int) = l[i] := by unfold rd; rw [Int.toNat_natCast, List.getD_eq_getElem?_getD, List.getElem?_eq_getElem hlt]; rfl
    have hz := hin _ (List.getElem_mem hlt)
    have hw : wrap64 ((i : Int) + 1) = ((i + 1 : Nat) : Int) := by unfold wrap64; omega
    have hd := dd_len (u := i) (by omega)
    have hnl := nameL_len ls hb i (by omega)
    have hmul : (i + 1) * 140737488352000 = i * 140737488352000 + 140737488352000 := Nat.succ_mul _ _
    by_cases c : l[i] = 0
    · obtain ⟨R, h1, h2⟩ := both_text l K ls hl hin hK hb d (i + 1) out (by omega) (Nat.le_trans ho (by rw [hmul]; exact Nat.le_add_right _ _))
      refine ⟨R, fun k hk => ?_, fun k hk => ?_⟩
      · obtain ⟨k, rfl⟩ : ∃ m, k = m + 1 := ⟨k - 1, by omega⟩
        simp only [text_l]
        rw [if_pos (by omega), if_pos (by omega), pname_spec ls i (by omega), Option.bind_some, hr, if_pos c, hw]
        exact h1 k (by omega)
      · obtain ⟨k, rfl⟩ : ∃ m, k = m + 1 := ⟨k - 1, by omega⟩
        simp only [furrowref14_Text.l0]
        rw [if_pos (by omega), if_pos (by omega), hr, if_pos c, hw]
        exact h2 k (by omega)
    · have hcl := core_len l[i] hz (nameL ls i)
      have hpl := putL_len out (decide (l[i] < 0)) (core l[i] (nameL ls i))
      obtain ⟨R, h1, h2⟩ := both_text l K ls hl hin hK hb d (i + 1) (putL out (decide (l[i] < 0)) (core l[i] (nameL ls i))) (by omega) (by rw [hmul]; generalize i * 140737488352000 = z at ho; omega)
      refine ⟨R, fun k hk => ?_, fun k hk => ?_⟩
      · obtain ⟨k, rfl⟩ : ∃ m, k = m + 1 := ⟨k - 1, by omega⟩
        simp only [text_l]
        rw [if_pos (by omega), if_pos (by omega), pname_spec ls i (by omega), Option.bind_some, hr, if_neg c, pput_spec out l[i] hz _ (by omega) hoo 0, Option.bind_some, hw]
        exact h1 k (by omega)
      · obtain ⟨k, rfl⟩ : ∃ m, k = m + 2 := ⟨k - 2, by omega⟩
        simp only [furrowref14_Text.l0]
        rw [if_pos (by omega), if_pos (by omega), hr, if_neg c, dec_nat i (k + 1) (by omega) (by omega), Option.bind_some, BA_size, if_pos (by omega), show (⟨#[120]⟩ : ByteArray) = BA [120] from rfl, BA_app]
        refine (rname_spec l K ls (BA out) i (by omega) k).trans ?_
        rw [rj3_spec l K ls out i hlt hl hin _ (nameL_ne ls i) hnl hoo k (by omega)]
        exact h2 (k - 2) (by omega)
theorem same_go (l : List Int) (a : Int) (hl : l.length ≤ 1000) : ∀ (d i k : Nat), i + d = l.length → 2 * d + 2 < k → furrowref14_Same.l0 k (i : Int) l a l a = some true
  | 0, i, k, hi, hk => by
    obtain ⟨k, rfl⟩ : ∃ m, k = m + 2 := ⟨k - 2, by omega⟩
    simp only [furrowref14_Same.l0]
    rw [if_neg (by omega), decide_eq_false (by omega)]
    simp only [furrowref14_Same.j1]
    rw [if_neg (by decide), beq_self_eq_true]
  | d + 1, i, k, hi, hk => by
    obtain ⟨k, rfl⟩ : ∃ m, k = m + 2 := ⟨k - 2, by omega⟩
    have hw : wrap64 ((i : Int) + 1) = ((i + 1 : Nat) : Int) := by unfold wrap64; omega
    have hc : ∃ v, furrowref14_coef.f l a (i : Int) = some v := by
      unfold furrowref14_coef.f
      repeat' (first | exact ⟨_, rfl⟩ | (rw [if_pos (by omega)]) | split | omega)
    obtain ⟨v, hv⟩ := hc
    simp only [furrowref14_Same.l0]
    rw [if_pos (by omega)]
    simp only [furrowref14_Same.j1]
    rw [if_pos True.intro, hv, Option.bind_some, Option.bind_some, if_pos rfl, hw]
    exact same_go l a hl d (i + 1) k (by omega) (by omega)
theorem same_form (l : List Int) (a : Int) (hl : l.length ≤ 1000) (k : Nat) (hk : 2 * l.length + 2 < k) : furrowref14_Same.f k l a l a = some true := by
  unfold furrowref14_Same.f
  exact same_go l a hl l.length 0 k (by omega) hk
theorem const_both (n a : Int) (h : n ≤ 50) : lin_Const.f n a = some (List.replicate n.toNat 0, a) ∧ furrowref14_Const.f n a = some (List.replicate n.toNat 0, a) := by
  constructor
  · unfold lin_Const.f
    have hm : mx n 0 = if n < 0 then 0 else n := by unfold mx; split <;> first | rfl | (split <;> omega) | omega
    rw [hm]
    by_cases c : n < 0
    · rw [if_pos c, if_pos (by omega), if_pos (by omega), show n.toNat = 0 by omega]; rfl
    · rw [if_neg c, if_pos (by omega), if_pos (by omega)]
  · unfold furrowref14_Const.f
    by_cases c : n < 0
    · rw [if_pos c, if_pos (by omega), show n.toNat = 0 by omega]
    · rw [if_neg c, if_pos (by omega), if_pos (by omega)]
theorem index_both (n i : Int) (h : n ≤ 50) : ∃ l : List Int, l.length ≤ 50 ∧ lin_Index.f n i = some (l, 0) ∧ furrowref14_Index.f n i = some (l, 0) := by
  obtain ⟨h1, h2⟩ := const_both n 0 h
  unfold lin_Index.f furrowref14_Index.f
  rw [h1, h2, Option.bind_some, Option.bind_some]
  dsimp only
  rw [List.length_replicate]
  by_cases c : i ≥ 0
  · rw [if_pos c, if_pos c]
    by_cases c2 : i < n
    · rw [if_pos c2, if_pos (by omega), if_pos (by omega), if_pos (by omega), if_pos (by omega)]
      exact ⟨_, by rw [List.length_set, List.length_replicate]; omega, rfl, rfl⟩
    · have c3 : ¬ (i < ((n.toNat : Nat) : Int)) := by omega
      rw [if_neg c2, if_neg c3, if_pos c]
      exact ⟨_, by rw [List.length_replicate]; omega, rfl, rfl⟩
  · refine ⟨List.replicate n.toNat 0, by rw [List.length_replicate]; omega, ?_, ?_⟩
    · rw [if_neg c]
    · rw [if_neg c]
theorem formtext_of (l : List Int) (K : Int) (ls : List (List UInt8)) (n i : Int) (hin : ∀ z ∈ l, -9223372036854775808 ≤ z ∧ z ≤ 9223372036854775807) (hK : -9223372036854775808 ≤ K ∧ K ≤ 9223372036854775807) (hb : ∀ x ∈ ls, x.length ≤ 140737488351232) : furrowlaw11_FormText.f 300 l K (ls.map BA) n i = some true := by
  unfold furrowlaw11_FormText.f furrowlaw11_few.f
  rw [known_more (by omega), Option.bind_some, if_pos rfl, Option.bind_some]
  have yes : furrowlaw11_FormText.j0 300 (ls.map BA) n i true l K = some true := by
    simp only [furrowlaw11_FormText.j0]; rw [if_pos True.intro]
  by_cases hl : (l.length : Int) ≤ 20
  · rw [decide_eq_true hl, if_pos rfl]
    by_cases h1 : (((ls.map BA).length : Nat) : Int) > 20
    · rw [if_pos h1]; exact yes
    · rw [if_neg h1]
      by_cases h2 : n > 50
      · rw [decide_eq_true h2]; exact yes
      · rw [decide_eq_false h2]
        obtain ⟨c1, c2⟩ := const_both n 7 (by omega)
        obtain ⟨x, hx, i1, i2⟩ := index_both n i (by omega)
        obtain ⟨R, t1, t2⟩ := both_text l K ls (by omega) hin hK hb l.length 0 [] (by omega) (by simp)
        have hp : lin_Text.f l K (ls.map BA) = some R := t1 (l.length + 1) (by omega)
        have hr : furrowref14_Text.f 299 l K (ls.map BA) = some R := t2 299 (by omega)
        simp only [furrowlaw11_FormText.j0, furrowlaw11_Of.f]
        rw [if_neg (by decide), c1, Option.bind_some, c2, Option.bind_some, i1, Option.bind_some, i2, Option.bind_some, hp, Option.bind_some, Option.bind_some, hr, Option.bind_some, if_pos rfl, if_pos rfl, Option.bind_some,
          same_form _ 7 (by rw [List.length_replicate]; omega) 299 (by rw [List.length_replicate]; omega), Option.bind_some, if_pos rfl, if_pos rfl, Option.bind_some, same_form x 0 (by omega) 299 (by omega), Option.bind_some]
  · rw [decide_eq_false hl, if_neg (by decide)]; exact yes
theorem formtext_true (l : List Int) (K : Int) (ns : List ByteArray) (n i : Int) (hin : ∀ z ∈ l, -9223372036854775808 ≤ z ∧ z ≤ 9223372036854775807) (hK : -9223372036854775808 ≤ K ∧ K ≤ 9223372036854775807) (hb : ∀ x ∈ ns, x.size ≤ 140737488351232) : ∃ k, furrowlaw11_FormText.f k l K ns n i = some true := by
  have h := formtext_of l K (ns.map fun s => s.data.toList) n i hin hK (by
    intro x hx
    obtain ⟨s, hs, rfl⟩ := List.mem_map.1 hx
    have := hb s hs
    rwa [← BA_of s, BA_size] at this)
  rw [map_lists] at h
  exact ⟨_, h⟩

end Go.Proofs.YtmnifoeodohphaaDoor.Pure
