/- LineLong over bytes alone. -/
import Derived.Test.YtnecoebdmjkblaaDoorPureLi4
import Derived.Test.YtnecoebdmjkblaaDoorPureKnown
import Derived.Test.YtnecoebdmjkblaaDoorXx8
import Derived.Laws.Bits64
namespace Go.Proofs.YtnecoebdmjkblaaDoor.Pure
open Go.RowKit Go.Proofs.YtnecoebdmjkblaaDoor.X Go.Proofs.YtnecoebdmjkblaaDoor.Flt Go.Proofs.YtnecoebdmjkblaaDoor.H Go.Proofs.YtnecoebdmjkblaaDoorW.PrintWords Go.Proofs.YtnecoebdmjkblaaDoorW.PrintLast Go.Proofs.YtnecoebdmjkblaaDoorW.PrintMore
set_option linter.unusedVariables false
set_option linter.unusedSimpArgs false
theorem set_fill (v : Int) : ∀ (i d : Nat), (List.replicate i v ++ List.replicate (d + 1) 0).set i v = List.replicate (i + 1) v ++ List.replicate d 0 := by
  intro i d
  rw [List.set_append_right _ _ (by simp), List.length_replicate, Nat.sub_self, List.replicate_succ (n := d), List.set_cons_zero, List.replicate_succ']
  simp
theorem str_rep (n : Nat) (v : Nat) : strOfNums (List.replicate n (v : Int)) = BA (List.replicate n (UInt8.ofNat v)) := by
  unfold strOfNums; rw [List.map_replicate]; rfl
theorem lns_ends : ∀ m : Nat, lns (List.replicate m 10) = List.replicate m [10]
  | 0 => rfl
  | m + 1 => by
    rw [List.replicate_succ]
    unfold lns
    rw [if_pos rfl, lns_ends m, List.replicate_succ]
theorem fb_ends : ∀ (m i : Nat), fb i (List.replicate m [10]) = none
  | 0, i => rfl
  | m + 1, i => by
    rw [List.replicate_succ]
    unfold fb
    have h : chk [10] = none := by decide +kernel
    rw [h]
    exact fb_ends m (i + 1)
/-- What the document says of the long line. -/
def wantL (n : Nat) : List S63 × Int := if 200 < n + 1 then ([⟨lineW, 0⟩], 4) else ([], 0)
def gotL (n : Nat) : List Flt := if 200 < n + 1 then [⟨lineW, 0, some 4⟩] else []
theorem tells_long (n : Nat) : furrowlaw2_Tells.f (gotL n) (wantL n).1 (wantL n).2 = some true := by
  unfold gotL wantL
  by_cases h : 200 < n + 1
  · rw [if_pos h, if_pos h]; decide +kernel
  · rw [if_neg h, if_neg h]; rfl
theorem text_tells' : furrowlaw2_Tells.f [⟨⟨#[116, 101, 120, 116]⟩, 0, some 4⟩] [⟨⟨#[116, 101, 120, 116]⟩, 0⟩] 4 = some true := by decide +kernel
theorem long_line (n : Nat) (hn : n ≤ 255) : ∃ x, line_Split.f (BA (List.replicate n 32) ++ (⟨#[10]⟩ : ByteArray)) = some (x, gotL n) := by
  have hc : ∀ c ∈ List.replicate n (32 : UInt8), c ≠ 10 := by intro c hc; rw [List.eq_of_mem_replicate hc]; decide
  have ha : (List.replicate n (32 : UInt8)).any badN = false := by rw [List.any_eq_false]; intro x hx; rw [List.eq_of_mem_replicate hx]; decide
  have h1 : lns (List.replicate n 32 ++ [10]) = [List.replicate n 32 ++ [10]] := by rw [lns_cut _ _ hc]; rfl
  have h2 : chk (List.replicate n 32 ++ [10]) = if 200 < n + 1 then some 4 else none := by
    unfold chk
    rw [List.any_append, ha, List.length_append, List.length_replicate]
    rfl
  rw [show (⟨#[10]⟩ : ByteArray) = BA [10] from rfl, BA_app, split_spec _ (by simp; omega), h1]
  unfold fb gotL; rw [h2]
  by_cases h : 200 < n + 1
  · rw [if_pos h, if_pos h]; exact ⟨_, rfl⟩
  · rw [if_neg h, if_neg h]; exact ⟨_, rfl⟩
theorem long_l1 (n p : Nat) (hp : p < 8) : ∀ (d i k : Nat), i + d = 65532 + p → d < k →
    furrowlaw2_LineLong.l1 k (gotL n) (p : Int) (List.replicate i 10 ++ List.replicate d 0) (i : Int) (wantL n).1 (wantL n).2 = some true
  | 0, i, k, hi, hk => by
    obtain ⟨k, rfl⟩ : ∃ m, k = m + 1 := ⟨k - 1, by omega⟩
    have hs : strOfNums (List.replicate i 10) = BA (List.replicate i 10) := str_rep i 10
    simp only [furrowlaw2_LineLong.l1]
    rw [List.replicate_zero, List.append_nil, List.length_replicate, if_neg (by omega), hs, tells_long]
    by_cases h : (p : Int) > 4
    · rw [split_long _ (by rw [List.length_replicate]; omega), Option.bind_some, if_pos h, Option.bind_some, if_pos rfl]
      have ht : furrowref4_At.f (⟨#[116, 101, 120, 116]⟩ : ByteArray) 0 4 = some ([⟨⟨#[116, 101, 120, 116]⟩, 0⟩], 4) := rfl
      rw [ht, Option.bind_some, text_tells', Option.bind_some, if_pos rfl]; rfl
    · rw [split_spec _ (by rw [List.length_replicate]; omega), Option.bind_some, if_neg h, Option.bind_some, if_pos rfl, lns_ends, fb_ends]
      rw [if_pos (show ((splitE (List.replicate i [10]) none).2.length : Int) = 0 from rfl)]
      have hl : (splitE (List.replicate i [10]) none).1.length = i := by show (List.map BA (List.replicate i [10])).length = i; rw [List.length_map, List.length_replicate]
      rw [hl, beq_self_eq_true]
  | d + 1, i, k, hi, hk => by
    obtain ⟨k, rfl⟩ : ∃ m, k = m + 1 := ⟨k - 1, by omega⟩
    have hw : wrap64 ((i : Int) + 1) = ((i + 1 : Nat) : Int) := by unfold wrap64; omega
    simp only [furrowlaw2_LineLong.l1]
    rw [if_pos (by rw [List.length_append, List.length_replicate, List.length_replicate]; omega), if_pos (by omega), Int.toNat_natCast, set_fill, hw]
    exact long_l1 n p hp d (i + 1) k (by omega) (by omega)
theorem long_j1 (n p : Nat) (hp : p < 8) (x1 : Int) (h1 : wrap64 (Int.tmod x1 8) = (p : Int)) (k : Nat) (hk : 65550 < k) : furrowlaw2_LineLong.j1 k x1 (gotL n) (wantL n).1 (wantL n).2 = some true := by
  obtain ⟨k, rfl⟩ : ∃ m, k = m + 1 := ⟨k - 1, by omega⟩
  have hw : wrap64 ((wrap64 (65536 + (wrap64 (Int.tmod x1 8)))) - 4) = ((65532 + p : Nat) : Int) := by rw [h1]; unfold wrap64; omega
  simp only [furrowlaw2_LineLong.j1]
  rw [hw, if_pos (by omega), Int.toNat_natCast, if_pos (by omega), h1]
  exact long_l1 n p hp (65532 + p) 0 k (by omega) (by omega)
theorem long_l0 (n p : Nat) (hn : n ≤ 255) (hp : p < 8) (x1 : Int) (h1 : wrap64 (Int.tmod x1 8) = (p : Int)) : ∀ (d i k : Nat), i + d = n → d + 65560 < k →
    furrowlaw2_LineLong.l0 k (n : Int) x1 (List.replicate i 32 ++ List.replicate d 0) (i : Int) = some true
  | 0, i, k, hi, hk => by
    obtain ⟨k, rfl⟩ : ∃ m, k = m + 1 := ⟨k - 1, by omega⟩
    obtain rfl : i = n := by omega
    have hs : strOfNums (List.replicate i 32) = BA (List.replicate i 32) := str_rep i 32
    obtain ⟨x, hx⟩ := long_line i hn
    have hw : wrap64 ((wrap64 (i : Int)) + 1) = ((i + 1 : Nat) : Int) := by unfold wrap64; omega
    simp only [furrowlaw2_LineLong.l0]
    rw [List.replicate_zero, List.append_nil, List.length_replicate, if_neg (by omega), hs, BA_size, List.length_replicate, if_pos (by omega), hx, Option.bind_some, hw]
    have hj := long_j1 i p hp x1 h1 k (by omega)
    by_cases h : 200 < i + 1
    · rw [if_pos (by omega)]
      have ht : furrowref4_At.f (⟨#[108, 105, 110, 101]⟩ : ByteArray) 0 4 = some (wantL i) := by unfold wantL; rw [if_pos h]; rfl
      rw [ht, Option.bind_some]
      exact hj
    · rw [if_neg (by omega)]
      have ht : wantL i = ([], 0) := by unfold wantL; rw [if_neg h]
      rw [ht] at hj
      exact hj
  | d + 1, i, k, hi, hk => by
    obtain ⟨k, rfl⟩ : ∃ m, k = m + 1 := ⟨k - 1, by omega⟩
    have hw : wrap64 ((i : Int) + 1) = ((i + 1 : Nat) : Int) := by unfold wrap64; omega
    simp only [furrowlaw2_LineLong.l0]
    rw [if_pos (by rw [List.length_append, List.length_replicate, List.length_replicate]; omega), if_pos (by omega), Int.toNat_natCast, set_fill, hw]
    exact long_l0 n p hn hp x1 h1 d (i + 1) k (by omega) (by omega)
theorem u16_of {a : Int} (h : (Lit.int .u16 a).wf = true) : 0 ≤ a ∧ a ≤ 65535 := by
  simp only [Lit.wf, IntKind.min, IntKind.max, IntKind.signed, IntKind.bits, Bool.and_eq_true, decide_eq_true_eq] at h
  simp at h
  omega
theorem LineLong : furrowlaw2_LineLong.Pure := by
  intro a b ha hb
  replace ha := u8_of ha
  replace hb := u16_of hb
  obtain ⟨n, rfl⟩ : ∃ n : Nat, a = (n : Int) := ⟨a.toNat, by omega⟩
  refine ⟨66000, ?_⟩
  have h1 : wrap64 (Int.tmod b 8) = (((b % 8).toNat : Nat) : Int) := by rw [Int.tmod_eq_emod_of_nonneg hb.1]; unfold wrap64; omega
  have hw : wrap64 (n : Int) = (n : Int) := by unfold wrap64; omega
  unfold furrowlaw2_LineLong.f
  rw [known_yes, Option.bind_some, if_pos rfl, hw, if_pos (by omega), Int.toNat_natCast, if_pos (by omega)]
  exact long_l0 n (b % 8).toNat (by omega) (by omega) b h1 n 0 66000 (by omega) (by omega)

end Go.Proofs.YtnecoebdmjkblaaDoor.Pure
