/- LineBytes over bytes alone. -/
import Derived.Test.YtnecoebdmjkblaaDoorPureLi4
import Derived.Test.YtnecoebdmjkblaaDoorPureKnown
import Derived.Test.YtnecoebdmjkblaaDoorXx9
import Derived.Laws.Bits64
namespace Go.Proofs.YtnecoebdmjkblaaDoor.Pure
open Go.RowKit Go.Proofs.YtnecoebdmjkblaaDoor.X Go.Proofs.YtnecoebdmjkblaaDoor.Flt Go.Proofs.YtnecoebdmjkblaaDoor.H Go.Proofs.YtnecoebdmjkblaaDoorW.PrintWords Go.Proofs.YtnecoebdmjkblaaDoorW.PrintLast Go.Proofs.YtnecoebdmjkblaaDoorW.PrintMore
set_option linter.unusedVariables false
set_option linter.unusedSimpArgs false
def tailB (q : Nat) (b : UInt8) : List UInt8 := List.replicate q 121 ++ [b, 122, 10]
theorem any_rep (q : Nat) : (List.replicate q (121 : UInt8)).any badN = false := by
  rw [List.any_eq_false]; intro x hx; rw [List.eq_of_mem_replicate hx]; decide
theorem tail_fb (q : Nat) (hq : q < 30) (b : UInt8) (i : Nat) : fb i (lns (tailB q b)) = if badN b then some (i, 3) else none := by
  have hn : ∀ c ∈ List.replicate q (121 : UInt8), c ≠ 10 := by intro c hc; rw [List.eq_of_mem_replicate hc]; decide
  by_cases h10 : b = 10
  · subst h10
    have h1 : lns (tailB q 10) = [List.replicate q 121 ++ [10], [122, 10]] := by
      unfold tailB
      rw [lns_cut _ _ hn]; rfl
    have h2 : chk (List.replicate q 121 ++ [10]) = none := by
      unfold chk
      rw [if_neg (by simp; omega), if_neg (by rw [List.any_append, any_rep]; decide)]
    have h3 : chk [122, 10] = none := by decide +kernel
    rw [h1]
    unfold fb; rw [h2]
    unfold fb; dsimp only; rw [h3]
    unfold fb; rw [if_neg (by decide)]
  · have h1 : lns (tailB q b) = [tailB q b] := by
      have e : tailB q b = (List.replicate q 121 ++ [b, 122]) ++ 10 :: [] := by unfold tailB; simp
      rw [e, lns_cut _ _ (by
        intro c hc
        rcases List.mem_append.1 hc with h | h
        · exact hn c h
        · simp at h
          rcases h with rfl | rfl
          · exact h10
          · decide)]
      rfl
    have h2 : chk (tailB q b) = if badN b then some 3 else none := by
      unfold chk tailB
      rw [if_neg (by simp; omega), List.any_append, any_rep]
      have : [b, 122, 10].any badN = badN b := by
        simp only [List.any_cons, List.any_nil]
        rw [show badN 122 = false by decide, show badN 10 = false by decide]; simp
      rw [this, Bool.false_or]
    rw [h1]
    unfold fb; rw [h2]
    by_cases hb : badN b = true
    · rw [if_pos hb, if_pos hb]
    · rw [if_neg hb, if_neg hb]; rfl
theorem at_tells (m : Nat) : (furrowref4_At.f (⟨#[108, 105, 110, 101]⟩ : ByteArray) (m : Int) 3).bind (fun bt258 => ((furrowlaw2_Tells.f [⟨lineW, (m : Int), some 3⟩] bt258.1 bt258.2).bind fun t262 => (some t262))) = some true := by
  simp [furrowref4_At.f, furrowlaw2_Tells.f, lineW]
theorem bytes_l1 (x : Int) (hx0 : 0 ≤ x) (hx : x ≤ 255) (m q : Nat) (hm : m < 10) (hq : q < 30) (x1 x2 : Int) (h1 : wrap64 (Int.tmod x1 10) = (m : Int)) (h2 : wrap64 (Int.tmod x2 30) = (q : Int)) : ∀ (d i k : Nat), i + d = q → d + 1 < k →
    furrowlaw2_LineBytes.l1 k x x1 x2 (BA ((List.replicate m rowX).flatten ++ List.replicate i 121)) (i : Int) = some true
  | 0, i, k, hi, hk => by
    obtain ⟨k, rfl⟩ : ∃ m, k = m + 2 := ⟨k - 2, by omega⟩
    obtain rfl : i = q := by omega
    have hlen : ((List.replicate m rowX).flatten ++ List.replicate i (121 : UInt8)).length ≤ 100 := by
      rw [List.length_append, List.length_flatten, List.map_replicate, List.sum_replicate_nat, List.length_replicate]
      show m * 6 + i ≤ 100
      omega
    have hs : strOfNums [x] = BA [UInt8.ofNat x.toNat] := rfl
    simp only [furrowlaw2_LineBytes.l1]
    rw [h2, if_neg (by omega), Option.bind_some, hs, BA_app, show (⟨#[122, 10]⟩ : ByteArray) = BA [122, 10] from rfl, BA_app, BA_size, BA_size, BA_size, if_pos (by simp only [List.length_cons, List.length_nil]; omega), if_pos (by rw [List.length_append]; simp only [List.length_cons, List.length_nil]; omega)]
    have ht : (((List.replicate m rowX).flatten ++ List.replicate i 121) ++ [UInt8.ofNat x.toNat]) ++ [122, 10] = (List.replicate m rowX).flatten ++ tailB i (UInt8.ofNat x.toNat) := by
      unfold tailB; simp
    have hlen2 : ((List.replicate m rowX).flatten ++ tailB i (UInt8.ofNat x.toNat)).length ≤ 65536 := by
      rw [← ht]; simp only [List.length_append, List.length_cons, List.length_nil] at hlen ⊢; omega
    rw [ht, split_spec _ hlen2, Option.bind_some, lns_rows, fb_rows, tail_fb i hq, Nat.zero_add]
    have hbn : (UInt8.ofNat x.toNat).toNat = x.toNat := by rw [UInt8.toNat_ofNat']; omega
    have hbad : badN (UInt8.ofNat x.toNat) = ((decide (x.toNat < 32) || decide (126 < x.toNat)) && x.toNat != 9 && x.toNat != 10) := by unfold badN; rw [hbn]
    generalize UInt8.ofNat x.toNat = b at *
    have good : badN b = false → ∀ ls, furrowlaw2_LineBytes.j2 (k + 1) x1 (splitE ls (if badN b then some (m, 3) else none)).2 true = some true := by
      intro hb ls
      rw [hb]
      simp only [furrowlaw2_LineBytes.j2]
      rw [if_pos True.intro]; rfl
    have bad : badN b = true → ∀ ls, furrowlaw2_LineBytes.j2 (k + 1) x1 (splitE ls (if badN b then some (m, 3) else none)).2 false = some true := by
      intro hb ls
      rw [hb]
      simp only [furrowlaw2_LineBytes.j2]
      rw [if_neg (by decide), if_pos True.intro, h1]
      exact at_tells m
    have hx10 : (x == 10) = decide (x.toNat = 10) := by
      by_cases e : x = 10
      · subst e; rfl
      · rw [beq_eq_false_iff_ne.2 e, decide_eq_false (by omega)]
    by_cases c1 : x ≥ 32
    · rw [if_pos c1]
      by_cases c2 : x ≤ 126
      · rw [if_pos c2]
        exact good (by rw [hbad, decide_eq_false (by omega), decide_eq_false (by omega)]; rfl) _
      · rw [if_neg c2, if_neg (by omega), hx10, decide_eq_false (by omega)]
        have e9 : (x.toNat != 9) = true := by rw [bne_iff_ne]; omega
        have e10 : (x.toNat != 10) = true := by rw [bne_iff_ne]; omega
        exact bad (by rw [hbad, e9, e10, decide_eq_true (show 126 < x.toNat by omega)]; simp) _
    · rw [if_neg c1]
      by_cases c3 : x = 9
      · rw [if_pos c3]
        exact good (by rw [hbad]; subst c3; rfl) _
      · rw [if_neg c3, hx10]
        by_cases c4 : x.toNat = 10
        · rw [decide_eq_true c4]
          exact good (by rw [hbad, c4]; rfl) _
        · rw [decide_eq_false c4]
          have e9 : (x.toNat != 9) = true := by rw [bne_iff_ne]; omega
          have e10 : (x.toNat != 10) = true := by rw [bne_iff_ne]; omega
          exact bad (by rw [hbad, e9, e10, decide_eq_true (show x.toNat < 32 by omega)]; simp) _
  | d + 1, i, k, hi, hk => by
    obtain ⟨k, rfl⟩ : ∃ m, k = m + 1 := ⟨k - 1, by omega⟩
    have hlen : ((List.replicate m rowX).flatten ++ List.replicate i (121 : UInt8)).length ≤ 100 := by
      rw [List.length_append, List.length_flatten, List.map_replicate, List.sum_replicate_nat, List.length_replicate]
      show m * 6 + i ≤ 100
      omega
    have hw : wrap64 ((i : Int) + 1) = ((i + 1 : Nat) : Int) := by unfold wrap64; omega
    have hr : ((List.replicate m rowX).flatten ++ List.replicate i (121 : UInt8)) ++ [121] = (List.replicate m rowX).flatten ++ List.replicate (i + 1) 121 := by
      rw [List.append_assoc, ← List.replicate_succ']
    simp only [furrowlaw2_LineBytes.l1]
    rw [h2, if_pos (by omega), BA_size, if_pos (by omega), show (⟨#[121]⟩ : ByteArray) = BA [121] from rfl, BA_app, hw, hr]
    exact bytes_l1 x hx0 hx m q hm hq x1 x2 h1 h2 d (i + 1) k (by omega) (by omega)
theorem bytes_l0 (x : Int) (hx0 : 0 ≤ x) (hx : x ≤ 255) (m q : Nat) (hm : m < 10) (hq : q < 30) (x1 x2 : Int) (h1 : wrap64 (Int.tmod x1 10) = (m : Int)) (h2 : wrap64 (Int.tmod x2 30) = (q : Int)) : ∀ (d i k : Nat), i + d = m → d + 33 < k →
    furrowlaw2_LineBytes.l0 k x x1 x2 (BA (List.replicate i rowX).flatten) (i : Int) = some true
  | 0, i, k, hi, hk => by
    obtain ⟨k, rfl⟩ : ∃ m, k = m + 1 := ⟨k - 1, by omega⟩
    obtain rfl : i = m := by omega
    simp only [furrowlaw2_LineBytes.l0]
    rw [h1, if_neg (by omega)]
    have h := bytes_l1 x hx0 hx i q hm hq x1 x2 h1 h2 q 0 k (by omega) (by omega)
    rw [List.replicate_zero, List.append_nil] at h
    exact h
  | d + 1, i, k, hi, hk => by
    obtain ⟨k, rfl⟩ : ∃ m, k = m + 1 := ⟨k - 1, by omega⟩
    have hlen : (List.replicate i rowX).flatten.length ≤ 100 := by
      rw [List.length_flatten, List.map_replicate, List.sum_replicate_nat]
      show i * 6 ≤ 100
      omega
    have hw : wrap64 ((i : Int) + 1) = ((i + 1 : Nat) : Int) := by unfold wrap64; omega
    have hr : (List.replicate i rowX).flatten ++ rowX = (List.replicate (i + 1) rowX).flatten := by
      rw [List.replicate_succ', List.flatten_append]; simp
    simp only [furrowlaw2_LineBytes.l0]
    rw [h1, if_pos (by omega), BA_size, if_pos (by omega), show (⟨#[120, 32, 61, 32, 49, 10]⟩ : ByteArray) = BA rowX from rfl, BA_app, hw, hr]
    exact bytes_l0 x hx0 hx m q hm hq x1 x2 h1 h2 d (i + 1) k (by omega) (by omega)
theorem LineBytes : furrowlaw2_LineBytes.Pure := by
  intro a b c ha hb hc
  replace ha := u8_of ha
  replace hb := u8_of hb
  replace hc := u8_of hc
  refine ⟨100, ?_⟩
  have h1 : wrap64 (Int.tmod b 10) = (((b % 10).toNat : Nat) : Int) := by rw [Int.tmod_eq_emod_of_nonneg hb.1]; unfold wrap64; omega
  have h2 : wrap64 (Int.tmod c 30) = (((c % 30).toNat : Nat) : Int) := by rw [Int.tmod_eq_emod_of_nonneg hc.1]; unfold wrap64; omega
  unfold furrowlaw2_LineBytes.f
  rw [known_yes, Option.bind_some, if_pos rfl]
  exact bytes_l0 a ha.1 ha.2 (b % 10).toNat (c % 30).toNat (by omega) (by omega) b c h1 h2 (b % 10).toNat 0 100 (by omega) (by omega)

end Go.Proofs.YtnecoebdmjkblaaDoor.Pure
