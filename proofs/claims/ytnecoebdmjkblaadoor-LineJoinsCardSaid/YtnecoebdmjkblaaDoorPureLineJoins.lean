/- LineJoins over bytes alone. -/
import Derived.Test.YtnecoebdmjkblaaDoorPureLi4
import Derived.Test.YtnecoebdmjkblaaDoorPureKnown
import Derived.Test.YtnecoebdmjkblaaDoorXx6
import Derived.Laws.Bits64
namespace Go.Proofs.YtnecoebdmjkblaaDoor.Pure
open Go.RowKit Go.Proofs.YtnecoebdmjkblaaDoor.X Go.Proofs.YtnecoebdmjkblaaDoor.Flt Go.Proofs.YtnecoebdmjkblaaDoor.H Go.Proofs.YtnecoebdmjkblaaDoorW.PrintWords Go.Proofs.YtnecoebdmjkblaaDoorW.PrintLast Go.Proofs.YtnecoebdmjkblaaDoorW.PrintMore
set_option linter.unusedVariables false
set_option linter.unusedSimpArgs false
theorem lns_join (t : List UInt8) : ∀ s : List UInt8, lns ((s ++ [10]) ++ t) = lns (s ++ [10]) ++ lns t
  | [] => by
    show lns (10 :: t) = _
    conv => lhs; unfold lns
    rw [if_pos rfl]; rfl
  | c :: s => by
    have ih := lns_join t s
    rw [List.cons_append, List.cons_append]
    conv => lhs; unfold lns
    conv => rhs; lhs; unfold lns
    rw [ih]
    by_cases hc : c = 10
    · rw [if_pos hc, if_pos hc]; rfl
    · rw [if_neg hc, if_neg hc]
      cases h : lns (s ++ [10]) with
      | nil => exact absurd (lns_nil h) (by simp)
      | cons p ps => rfl
theorem fb_cons (i : Nat) (p : List UInt8) (ps : List (List UInt8)) : fb i (p :: ps) = match chk p with | some c => some (i, c) | none => fb (i + 1) ps := rfl
theorem fb_app : ∀ (a b : List (List UInt8)) (i : Nat), fb i (a ++ b) = (match fb i a with | some y => some y | none => fb (i + a.length) b)
  | [], b, i => rfl
  | p :: ps, b, i => by
    rw [List.cons_append]
    rw [fb_cons, fb_cons]
    cases h : chk p with
    | some c => rfl
    | none =>
      dsimp only
      rw [fb_app ps b (i + 1)]
      rw [show i + 1 + ps.length = i + (p :: ps).length by rw [List.length_cons]; omega]
theorem fb_none : ∀ (a : List (List UInt8)) (i j : Nat), fb i a = none → fb j a = none
  | [], i, j, h => rfl
  | p :: ps, i, j, h => by
    unfold fb at h ⊢
    cases hc : chk p with
    | some c => rw [hc] at h; cases h
    | none => rw [hc] at h; exact fb_none ps (i + 1) (j + 1) h
theorem splitE_err (ls : List (List UInt8)) (o : Option (Nat × Int)) : ((splitE ls o).2.length : Int) = if o = none then 0 else 1 := by
  cases o <;> rfl
theorem joins_end (s t : List UInt8) (hs : s = [] ∨ ∃ r, s = r ++ [10]) (hls : s.length ≤ 2020) (hlt : t.length ≤ 2000) (K : Nat) (hK : 5000 < K) :
    ((line_Split.f (BA s)).bind fun bt135 => ((line_Split.f (BA t)).bind fun bt141 => (if (BA s).size + (BA t).size ≤ 9223372036854775807 then ((line_Split.f ((BA s) ++ (BA t))).bind fun bt147 => (if (bt135.2.length : Int) = 0 then (if (bt141.2.length : Int) = 0 then (furrowlaw2_LineJoins.j3 K (BA s) bt135.1 bt141.1 bt147.1 bt147.2 false) else (furrowlaw2_LineJoins.j3 K (BA s) bt135.1 bt141.1 bt147.1 bt147.2 true)) else (furrowlaw2_LineJoins.j3 K (BA s) bt135.1 bt141.1 bt147.1 bt147.2 true))) else (none)))) = some true := by
  obtain ⟨K, rfl⟩ : ∃ m, K = m + 1 := ⟨K - 1, by omega⟩
  have hj : lns (s ++ t) = lns s ++ lns t := by
    rcases hs with rfl | ⟨r, rfl⟩
    · rfl
    · exact lns_join t r
  rw [split_spec s (by omega), split_spec t (by omega), Option.bind_some, Option.bind_some, BA_size, BA_size, if_pos (by omega), BA_app, split_spec (s ++ t) (by rw [List.length_append]; omega), Option.bind_some, hj, fb_app, splitE_err, splitE_err]
  have c1 := lns_count s
  have c2 := lns_count t
  have bad : ∀ (l m : List ByteArray) (ls : List (List UInt8)) (y : Nat × Int), furrowlaw2_LineJoins.j3 (K + 1) (BA s) l m (splitE ls (some y)).1 (splitE ls (some y)).2 true = some true := by
    intro l m ls y
    simp only [furrowlaw2_LineJoins.j3]
    rw [if_pos True.intro, splitE_err, if_neg (by simp)]
  cases h1 : fb 0 (lns s) with
  | some y =>
    rw [if_neg (by simp)]
    exact bad _ _ _ _
  | none =>
    rw [if_pos (by simp)]
    cases h2 : fb 0 (lns t) with
    | some y =>
      rw [if_neg (by simp)]
      dsimp only
      cases h3 : fb (0 + (lns s).length) (lns t) with
      | none => rw [fb_none _ _ 0 h3] at h2; cases h2
      | some z => exact bad _ _ _ _
    | none =>
      rw [if_pos (by simp)]
      dsimp only
      rw [fb_none _ _ (0 + (lns s).length) h2]
      have e1 : ∀ ls : List (List UInt8), (splitE ls none).1 = ls.map BA := fun _ => rfl
      simp only [furrowlaw2_LineJoins.j3]
      rw [if_neg (by decide), splitE_err, if_pos (by rfl), e1, e1, e1, Option.bind_some, if_pos (by rw [List.length_map, List.length_nil]; omega), Option.bind_some, if_pos (by rw [List.nil_append, List.length_map, List.length_map]; omega), List.nil_append, ← List.map_append,
        same_self _ (by rw [List.length_map, List.length_append]; omega) K (by rw [List.length_map, List.length_append]; omega), Option.bind_some, if_pos rfl, join_spec _ (by omega) (by rw [lns_flat]; omega), lns_flat, Option.bind_some]
      simp
theorem joins_l1 (s : List UInt8) (hs : s = [] ∨ ∃ r, s = r ++ [10]) (hls : s.length ≤ 2020) (b : List (List UInt8)) (hb : b.length ≤ 20) : ∀ (d i k : Nat) (t : List UInt8), i + d = b.length → t.length ≤ 100 * i → d + 5010 < k →
    furrowlaw2_LineJoins.l1 k (b.map BA) (BA s) (BA t) (i : Int) = some true
  | 0, i, k, t, hi, ht, hk => by
    obtain ⟨k, rfl⟩ : ∃ m, k = m + 1 := ⟨k - 1, by omega⟩
    simp only [furrowlaw2_LineJoins.l1]
    rw [List.length_map, if_neg (by omega)]
    exact joins_end s t hs hls (by omega) k (by omega)
  | d + 1, i, k, t, hi, ht, hk => by
    obtain ⟨k, rfl⟩ : ∃ m, k = m + 1 := ⟨k - 1, by omega⟩
    have hlt : i < b.length := by omega
    have hw : wrap64 ((i : Int) + 1) = ((i + 1 : Nat) : Int) := by unfold wrap64; omega
    simp only [furrowlaw2_LineJoins.l1]
    rw [List.length_map, if_pos (by omega), if_pos (by omega), rd_map b i hlt, BA_size]
    by_cases h : ((b[i].length : Nat) : Int) > 100
    · rw [if_pos h]
    · rw [if_neg h, BA_size, if_pos (by omega), BA_app, hw]
      exact joins_l1 s hs hls b hb d (i + 1) k (t ++ b[i]) (by omega) (by rw [List.length_append]; omega) (by omega)
theorem joins_l0 (a b : List (List UInt8)) (ha : a.length ≤ 20) (hb : b.length ≤ 20) : ∀ (d i k : Nat) (s : List UInt8), i + d = a.length → s.length ≤ 101 * i → (s = [] ∨ ∃ r, s = r ++ [10]) → d + 5040 < k →
    furrowlaw2_LineJoins.l0 k (a.map BA) (b.map BA) (BA s) (BA []) (i : Int) = some true
  | 0, i, k, s, hi, hs, he, hk => by
    obtain ⟨k, rfl⟩ : ∃ m, k = m + 1 := ⟨k - 1, by omega⟩
    simp only [furrowlaw2_LineJoins.l0]
    rw [List.length_map, if_neg (by omega)]
    exact joins_l1 s he (by omega) b hb b.length 0 k [] (by omega) (by simp) (by omega)
  | d + 1, i, k, s, hi, hs, he, hk => by
    obtain ⟨k, rfl⟩ : ∃ m, k = m + 1 := ⟨k - 1, by omega⟩
    have hlt : i < a.length := by omega
    have hw : wrap64 ((i : Int) + 1) = ((i + 1 : Nat) : Int) := by unfold wrap64; omega
    simp only [furrowlaw2_LineJoins.l0]
    rw [List.length_map, if_pos (by omega), if_pos (by omega), rd_map a i hlt, BA_size]
    by_cases h : ((a[i].length : Nat) : Int) > 100
    · rw [if_pos h]
    · rw [if_neg h, BA_size, if_pos (by omega), BA_app, BA_size, if_pos (by rw [List.length_append]; omega), show (⟨#[10]⟩ : ByteArray) = BA [10] from rfl, BA_app, hw]
      exact joins_l0 a b ha hb d (i + 1) k ((s ++ a[i]) ++ [10]) (by omega) (by rw [List.length_append, List.length_append, List.length_singleton]; omega) (.inr ⟨_, rfl⟩) (by omega)
theorem linejoins_of (a b : List (List UInt8)) : furrowlaw2_LineJoins.f 6000 (a.map BA) (b.map BA) = some true := by
  unfold furrowlaw2_LineJoins.f
  rw [known_yes, Option.bind_some, if_pos rfl, List.length_map, List.length_map]
  by_cases ha : (a.length : Int) > 20
  · rw [if_pos ha]; simp only [furrowlaw2_LineJoins.j0]; rw [if_pos True.intro]
  · rw [if_neg ha]
    by_cases hb : (b.length : Int) > 20
    · rw [decide_eq_true hb]; simp only [furrowlaw2_LineJoins.j0]; rw [if_pos True.intro]
    · rw [decide_eq_false hb]; simp only [furrowlaw2_LineJoins.j0]; rw [if_neg (by decide)]
      exact joins_l0 a b (by omega) (by omega) a.length 0 5999 [] (by omega) (by simp) (.inl rfl) (by omega)
theorem map_lists (a : List ByteArray) : (a.map fun s => s.data.toList).map BA = a := by
  rw [List.map_map]; conv => rhs; rw [← List.map_id a]
  rfl
theorem linejoins_true (a b : List ByteArray) : ∃ k, furrowlaw2_LineJoins.f k a b = some true := by
  have h := linejoins_of (a.map fun s => s.data.toList) (b.map fun s => s.data.toList)
  rw [map_lists, map_lists] at h
  exact ⟨_, h⟩

end Go.Proofs.YtnecoebdmjkblaaDoor.Pure
