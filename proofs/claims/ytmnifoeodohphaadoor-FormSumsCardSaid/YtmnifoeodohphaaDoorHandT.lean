/- lin.Text, and the closure that it calls: walked; no conditions but what is known of the package-level variables. -/
import Derived.Test.YtmnifoeodohphaaDoorHandS
import Derived.Test.YtmnifoeodohphaaDoorHandS
import Derived.Test.YtmnifoeodohphaaDoorXx8
namespace Go.Proofs.YtmnifoeodohphaaDoor.H
open Go.Proofs.YtmnifoeodohphaaDoor.Flt Go.RowKit Go.Proofs.YtmnifoeodohphaaDoorW.PrintWords Go.Proofs.YtmnifoeodohphaaDoorW.PrintLast Go.Proofs.YtmnifoeodohphaaDoorW.PrintMore
open Go.Proofs.YtmnifoeodohphaaDoor.X (lin_piece.f lin_piece.calls)
def text_put.f (k : Nat) (s : ByteArray) (n : Int) (name : ByteArray) : Option ByteArray :=
  (lin_piece.f k n name).bind fun p =>
    if s.toList = ([] : List UInt8) then (if p.1.size + p.2.size ≤ 9223372036854775807 then some (p.1 ++ p.2) else none)
    else if p.1.toList = ([] : List UInt8) then (if 3 + p.2.size ≤ 9223372036854775807 then (if s.size + ((⟨#[32, 43, 32]⟩ : ByteArray) ++ p.2).size ≤ 9223372036854775807 then some (s ++ ((⟨#[32, 43, 32]⟩ : ByteArray) ++ p.2)) else none) else none)
    else (if 3 + p.2.size ≤ 9223372036854775807 then (if s.size + ((⟨#[32, 45, 32]⟩ : ByteArray) ++ p.2).size ≤ 9223372036854775807 then some (s ++ ((⟨#[32, 45, 32]⟩ : ByteArray) ++ p.2)) else none) else none)
theorem grown_set {w w1 : World} {g : Nat} {v : Value} (hb : Below w.heap.size w w1) : w.grownBy (w1.setCell ⟨g, 0, none⟩ v) (some g) :=
  ⟨hb.os, hb.tape, hb.output, by simpa [World.setCell] using hb.size, fun k hk hne => (Below.heap_setCell _ _ _ _ (by simpa using hne)).trans (hb.block k hk)⟩
set_option maxHeartbeats 8000000 in
set_option maxRecDepth 100000 in
theorem text_put.calls (k : Nat) (s : ByteArray) (n : Int) (name : ByteArray) (r : ByteArray) (g : Nat) (w : World) (hG : Glob w) (hs : w.cell? ⟨g, 0, none⟩ = some (.string s)) (hf : w.frozen? ⟨g, 0, none⟩ = false) (h : text_put.f k s n name = some r) :
    Calls Tryd.prog 44 #[.int .i64 n, .string name, .pointer (some ⟨g, 0, none⟩)] w fun e w' => e = .returned (.tuple #[]) ∧ w.grownBy w' (some g) ∧ w'.cell? ⟨g, 0, none⟩ = some (.string r) ∧ w'.frozen? ⟨g, 0, none⟩ = false := by
  unfold text_put.f at h
  obtain ⟨⟨p1, p2⟩, hp, h⟩ := Option.bind_eq_some_iff.mp h
  have HP := Aside0.mk hp
  have HG := Aside0.mk hG
  have HS := Aside0.mk hs
  have HF := Aside0.mk hf
  clear hp hG hs hf
  simp only [] at h
  by_cases c1 : s.toList = ([] : List UInt8)
  · rw [if_pos c1] at h
    have c1b : (s.toList == ([] : List UInt8)) = true := beq_iff_eq.mpr c1
    clear c1
    by_cases c2 : p1.size + p2.size ≤ 9223372036854775807
    · rw [if_pos c2] at h
      obtain rfl := Option.some.inj h
      clear h
      go_enter Tryd.func44, Tryd.ntmps44
      go_wp2_with (go_at_call 45; (with_reducible refine (lin_piece.calls k n name p1 p2 _ HG.out HP.out).mono ?_); rintro e w1 ⟨rfl, hb⟩; have hs1 := pw_cell_below hb HS.out; have hf1 := (hb.frozen (World.block_lt_of_cell? w _ HS.out)).trans HF.out; have HB := Aside0.mk hb; clear hb)
      refine bodyPost_end (results_none rfl _ _ _) rfl ?_
      exact ⟨rfl, grown_set HB.out, World.cell?_setCell_same' _ _ _ (by rw [hs1]; rfl), by simpa using hf1⟩
    · rw [if_neg c2] at h; cases h
  · rw [if_neg c1] at h
    have c1b : (s.toList == ([] : List UInt8)) = false := beq_eq_false_iff_ne.mpr c1
    clear c1
    by_cases c2 : p1.toList = ([] : List UInt8)
    · rw [if_pos c2] at h
      have c2b : (p1.toList == ([] : List UInt8)) = true := beq_iff_eq.mpr c2
      have c2c : (p1.toList != ([] : List UInt8)) = false := bne_eq_false_iff_eq.mpr c2
      clear c2
      by_cases c3 : 3 + p2.size ≤ 9223372036854775807
      · rw [if_pos c3] at h
        have e3 : ∀ a b c : UInt8, ((⟨#[a, b, c]⟩ : ByteArray) ++ p2).size = 3 + p2.size := fun a b c => by rw [ByteArray.size_append]; rfl
        split at h
        case isTrue c4 =>
          obtain rfl := Option.some.inj h
          clear h e3
          go_enter Tryd.func44, Tryd.ntmps44
          go_wp2_with (go_at_call 45; (with_reducible refine (lin_piece.calls k n name p1 p2 _ HG.out HP.out).mono ?_); rintro e w1 ⟨rfl, hb⟩; have hs1 := pw_cell_below hb HS.out; have hf1 := (hb.frozen (World.block_lt_of_cell? w _ HS.out)).trans HF.out; have HB := Aside0.mk hb; clear hb)
          refine bodyPost_end (results_none rfl _ _ _) rfl ?_
          exact ⟨rfl, grown_set HB.out, World.cell?_setCell_same' _ _ _ (by rw [hs1]; rfl), by simpa using hf1⟩
        case isFalse c4 => cases h
      · rw [if_neg c3] at h; cases h
    · rw [if_neg c2] at h
      have c2b : (p1.toList == ([] : List UInt8)) = false := beq_eq_false_iff_ne.mpr c2
      have c2c : (p1.toList != ([] : List UInt8)) = true := bne_iff_ne.mpr c2
      clear c2
      by_cases c3 : 3 + p2.size ≤ 9223372036854775807
      · rw [if_pos c3] at h
        have e3 : ∀ a b c : UInt8, ((⟨#[a, b, c]⟩ : ByteArray) ++ p2).size = 3 + p2.size := fun a b c => by rw [ByteArray.size_append]; rfl
        split at h
        case isTrue c4 =>
          obtain rfl := Option.some.inj h
          clear h e3
          go_enter Tryd.func44, Tryd.ntmps44
          go_wp2_with (go_at_call 45; (with_reducible refine (lin_piece.calls k n name p1 p2 _ HG.out HP.out).mono ?_); rintro e w1 ⟨rfl, hb⟩; have hs1 := pw_cell_below hb HS.out; have hf1 := (hb.frozen (World.block_lt_of_cell? w _ HS.out)).trans HF.out; have HB := Aside0.mk hb; clear hb)
          refine bodyPost_end (results_none rfl _ _ _) rfl ?_
          exact ⟨rfl, grown_set HB.out, World.cell?_setCell_same' _ _ _ (by rw [hs1]; rfl), by simpa using hf1⟩
        case isFalse c4 => cases h
      · rw [if_neg c3] at h; cases h
def text_name (l1 : List ByteArray) (i : Int) : Option ByteArray :=
  (strconv_Itoa.f i).bind fun t => if 1 + t.size ≤ 9223372036854775807 then (if i < (l1.length : Int) then (if (rdOf ByteArray.empty l1 i).toList = ([] : List UInt8) then some ((⟨#[120]⟩ : ByteArray) ++ t) else some (rdOf ByteArray.empty l1 i)) else some ((⟨#[120]⟩ : ByteArray) ++ t)) else none
def text_end (K : Int) (out : ByteArray) : Option ByteArray :=
  if K = 0 then (if out.toList = ([] : List UInt8) then text_put.f 1 out K ⟨#[]⟩ else some out) else text_put.f 1 out K ⟨#[]⟩
def text_l : Nat → List Int → Int → List ByteArray → Int → ByteArray → Option ByteArray
  | 0, _, _, _, _, _ => none
  | k + 1, l, K, l1, i, out => if i < (l.length : Int) then (if 0 ≤ i then (text_name l1 i).bind fun nm => (if rd l i = 0 then text_l k l K l1 (wrap64 (i + 1)) out else (text_put.f 1 out (rd l i) nm).bind fun o2 => text_l k l K l1 (wrap64 (i + 1)) o2) else none)
    else text_end K out
def lin_Text.f (l0_0 : List Int) (a0_1 : Int) (l1 : List ByteArray) : Option ByteArray := text_l (l0_0.length + 1) l0_0 a0_1 l1 0 ⟨#[]⟩
set_option maxHeartbeats 8000000 in
set_option maxRecDepth 100000 in
theorem lin_Text.calls (A0_0 : Option Addr) (c0_0 : Nat) (l0_0 : List Int) (a0_1 : Int) (A1 : Option Addr) (c1 : Nat) (l1 : List ByteArray) (r : ByteArray) (w : World) (hr0_0 : Kd.C (Kd.int .i64) w A0_0 l0_0.length l0_0) (hc0_0 : l0_0.length ≤ c0_0) (hr1 : Kd.C Kd.string w A1 l1.length l1) (hc1 : l1.length ≤ c1) (hG : Glob w) (h : lin_Text.f l0_0 a0_1 l1 = some r) :
    Calls Tryd.prog 27 #[.agg #[.slice A0_0 l0_0.length c0_0, .int .i64 a0_1], .slice A1 l1.length c1] w fun e w' => e = .returned (.string r) ∧ Below w.heap.size w w' := by
  have HR0 := Aside0.mk hr0_0
  have HC0 := Aside0.mk hc0_0
  have HR1 := Aside0.mk hr1
  have HC1 := Aside0.mk hc1
  have HG := Aside0.mk hG
  have H := Aside0.mk h
  clear hr0_0 hc0_0 hr1 hc1 hG h
  have hu := Tryd.underlying24
  go_enter Tryd.func27, Tryd.ntmps27
  go_wp2
  go_loopg [14] (l0_0.length + 1) (fun kq v14 w' => ∃ (i : Int) (out : ByteArray), v14 = .int .i64 i ∧ Aside0 (text_l kq l0_0 a0_1 l1 i out = some r) ∧ Aside0 (kq ≤ l0_0.length + 1) ∧ Aside0 (w'.cell? ⟨w.heap.size, 1, none⟩ = some (.int .i64 a0_1)) ∧ Aside0 (w'.cell? ⟨w.heap.size + 1, 0, none⟩ = some (.string out)) ∧ Aside0 (w'.frozen? ⟨w.heap.size + 1, 0, none⟩ = false) ∧ Aside0 (Below w.heap.size w w'))
  case atStart => exact ⟨0, ⟨#[]⟩, rfl, H, ⟨Nat.le_refl _⟩, ⟨box2' _ _ _ _ _⟩, ⟨new2 _ _ _ _⟩, ⟨new2f _ _ _ _⟩, ⟨below2 _ _ _⟩⟩
  case round =>
    obtain ⟨i, out, rfl, HA, HK1, HK, HO, HF, HB⟩ := hrel
    cases gk with
    | zero => exact absurd HA.out (by simp [text_l])
    | succ k1 =>
      have H := HA.out
      clear HA
      simp only [text_l] at H
      by_cases c1 : i < (l0_0.length : Int)
      · rw [if_pos c1] at H
        by_cases c0 : 0 ≤ i
        case neg => (rw [if_neg c0] at H; cases H)
        rw [if_pos c0] at H
        have HI0 := Aside0.mk c0
        clear c0
        obtain ⟨nm, hnm, H⟩ := Option.bind_eq_some_iff.mp H
        obtain ⟨t, ht, hnm⟩ := Option.bind_eq_some_iff.mp hnm
        have HI := Aside0.mk ht
        clear ht
        obtain ⟨ad, ead, hx⟩ := Kd.at_int HR0.out i HI0.out c1
        subst ead
        replace hx := (HB.out.cell (World.block_lt_of_cell? w _ hx)).trans hx
        have p1 := eq_true HI0.out
        have q1 := eq_true c1
        have q1b : decide (i < (l0_0.length : Int)) = true := decide_eq_true c1
        clear c1
        by_cases c2 : 1 + t.size ≤ 9223372036854775807
        · rw [if_pos c2] at hnm
          by_cases c3 : i < (l1.length : Int)
          · rw [if_pos c3] at hnm
            obtain ⟨an, ean, hy⟩ := Kd.at_string HR1.out i HI0.out c3
            subst ean
            have HY := Aside0.mk hy
            clear hy
            have p3 := eq_true c3
            have p3b : decide (i < (l1.length : Int)) = true := decide_eq_true c3
            clear c3
            by_cases c4 : (rdOf ByteArray.empty l1 i).toList = ([] : List UInt8)
            · rw [if_pos c4] at hnm
              have c4b : ((rdOf ByteArray.empty l1 i).toList == ([] : List UInt8)) = true := beq_iff_eq.mpr c4
              have c4c : ((rdOf ByteArray.empty l1 i).toList != ([] : List UInt8)) = false := bne_eq_false_iff_eq.mpr c4
              clear c4
              obtain rfl := Option.some.inj hnm
              clear hnm
              by_cases c5 : rd l0_0 i = 0
              · rw [if_pos c5] at H
                have c5b : (rd l0_0 i == 0) = true := beq_iff_eq.mpr c5
                have c5c : (rd l0_0 i != 0) = false := bne_eq_false_iff_eq.mpr c5
                clear c5
                have H' := Aside0.mk H
                clear H
                go_wp2_with (first | (go_at_call 46; (with_reducible refine (strconv_Itoa.calls i t _ (Glob.below HG.out HB.out) HI.out).mono ?_); rintro e w2 ⟨rfl, hb⟩; have hk2 := Aside0.mk (pw_cell_below hb HK.out); have hf2 := Aside0.mk ((hb.frozen (World.block_lt_of_cell? wr _ HO.out)).trans HF.out); have ho2 := Aside0.mk (pw_cell_below hb HO.out); have hb2 := Aside0.mk (HB.out.trans (hb.mono HB.out.size)); clear hb; have hy2 := (hb2.out.cell (World.block_lt_of_cell? w _ HY.out)).trans HY.out))
                go_roundg k1
                case measure => have := HK1.out; omega
                case rel => exact ⟨_, out, rfl, H', ⟨by have := HK1.out; omega⟩, hk2, ho2, hf2, hb2⟩
              · rw [if_neg c5] at H
                have c5b : (rd l0_0 i == 0) = false := beq_eq_false_iff_ne.mpr c5
                have c5c : (rd l0_0 i != 0) = true := bne_iff_ne.mpr c5
                clear c5
                obtain ⟨o2, hq, H⟩ := Option.bind_eq_some_iff.mp H
                have HQ := Aside0.mk hq
                clear hq
                have H' := Aside0.mk H
                clear H
                go_wp2_with (first | (go_at_call 46; (with_reducible refine (strconv_Itoa.calls i t _ (Glob.below HG.out HB.out) HI.out).mono ?_); rintro e w2 ⟨rfl, hb⟩; have hk2 := Aside0.mk (pw_cell_below hb HK.out); have hf2 := Aside0.mk ((hb.frozen (World.block_lt_of_cell? wr _ HO.out)).trans HF.out); have ho2 := Aside0.mk (pw_cell_below hb HO.out); have hb2 := Aside0.mk (HB.out.trans (hb.mono HB.out.size)); clear hb; have hy2 := (hb2.out.cell (World.block_lt_of_cell? w _ HY.out)).trans HY.out) | (go_at_call 44; (with_reducible refine (text_put.calls 1 out (rd l0_0 i) _ o2 (w.heap.size + 1) _ (Glob.below HG.out hb2.out) ho2.out hf2.out HQ.out).mono ?_); rintro e w3 ⟨rfl, hg3, hs3, hf3⟩; have hk3 := Aside0.mk (grown_cell hg3 hk2.out (by show w.heap.size ≠ w.heap.size + 1; omega)); have ho3 := Aside0.mk hs3; have hf3 := Aside0.mk hf3; have hb3 := Aside0.mk (hb2.out.grown hg3 hb2.out.size (fun k hk => by obtain rfl := Option.some.inj hk; omega)); clear hg3 hs3))
                go_roundg k1
                case measure => have := HK1.out; omega
                case rel => exact ⟨_, o2, rfl, H', ⟨by have := HK1.out; omega⟩, hk3, ho3, hf3, hb3⟩
            · rw [if_neg c4] at hnm
              have c4b : ((rdOf ByteArray.empty l1 i).toList == ([] : List UInt8)) = false := beq_eq_false_iff_ne.mpr c4
              have c4c : ((rdOf ByteArray.empty l1 i).toList != ([] : List UInt8)) = true := bne_iff_ne.mpr c4
              clear c4
              obtain rfl := Option.some.inj hnm
              clear hnm
              by_cases c5 : rd l0_0 i = 0
              · rw [if_pos c5] at H
                have c5b : (rd l0_0 i == 0) = true := beq_iff_eq.mpr c5
                have c5c : (rd l0_0 i != 0) = false := bne_eq_false_iff_eq.mpr c5
                clear c5
                have H' := Aside0.mk H
                clear H
                go_wp2_with (first | (go_at_call 46; (with_reducible refine (strconv_Itoa.calls i t _ (Glob.below HG.out HB.out) HI.out).mono ?_); rintro e w2 ⟨rfl, hb⟩; have hk2 := Aside0.mk (pw_cell_below hb HK.out); have hf2 := Aside0.mk ((hb.frozen (World.block_lt_of_cell? wr _ HO.out)).trans HF.out); have ho2 := Aside0.mk (pw_cell_below hb HO.out); have hb2 := Aside0.mk (HB.out.trans (hb.mono HB.out.size)); clear hb; have hy2 := (hb2.out.cell (World.block_lt_of_cell? w _ HY.out)).trans HY.out))
                go_roundg k1
                case measure => have := HK1.out; omega
                case rel => exact ⟨_, out, rfl, H', ⟨by have := HK1.out; omega⟩, hk2, ho2, hf2, hb2⟩
              · rw [if_neg c5] at H
                have c5b : (rd l0_0 i == 0) = false := beq_eq_false_iff_ne.mpr c5
                have c5c : (rd l0_0 i != 0) = true := bne_iff_ne.mpr c5
                clear c5
                obtain ⟨o2, hq, H⟩ := Option.bind_eq_some_iff.mp H
                have HQ := Aside0.mk hq
                clear hq
                have H' := Aside0.mk H
                clear H
                go_wp2_with (first | (go_at_call 46; (with_reducible refine (strconv_Itoa.calls i t _ (Glob.below HG.out HB.out) HI.out).mono ?_); rintro e w2 ⟨rfl, hb⟩; have hk2 := Aside0.mk (pw_cell_below hb HK.out); have hf2 := Aside0.mk ((hb.frozen (World.block_lt_of_cell? wr _ HO.out)).trans HF.out); have ho2 := Aside0.mk (pw_cell_below hb HO.out); have hb2 := Aside0.mk (HB.out.trans (hb.mono HB.out.size)); clear hb; have hy2 := (hb2.out.cell (World.block_lt_of_cell? w _ HY.out)).trans HY.out) | (go_at_call 44; (with_reducible refine (text_put.calls 1 out (rd l0_0 i) _ o2 (w.heap.size + 1) _ (Glob.below HG.out hb2.out) ho2.out hf2.out HQ.out).mono ?_); rintro e w3 ⟨rfl, hg3, hs3, hf3⟩; have hk3 := Aside0.mk (grown_cell hg3 hk2.out (by show w.heap.size ≠ w.heap.size + 1; omega)); have ho3 := Aside0.mk hs3; have hf3 := Aside0.mk hf3; have hb3 := Aside0.mk (hb2.out.grown hg3 hb2.out.size (fun k hk => by obtain rfl := Option.some.inj hk; omega)); clear hg3 hs3))
                go_roundg k1
                case measure => have := HK1.out; omega
                case rel => exact ⟨_, o2, rfl, H', ⟨by have := HK1.out; omega⟩, hk3, ho3, hf3, hb3⟩
          · rw [if_neg c3] at hnm
            have p3b : decide (i < (l1.length : Int)) = false := decide_eq_false c3
            clear c3
            obtain rfl := Option.some.inj hnm
            clear hnm
            by_cases c5 : rd l0_0 i = 0
            · rw [if_pos c5] at H
              have c5b : (rd l0_0 i == 0) = true := beq_iff_eq.mpr c5
              have c5c : (rd l0_0 i != 0) = false := bne_eq_false_iff_eq.mpr c5
              clear c5
              have H' := Aside0.mk H
              clear H
              go_wp2_with (first | (go_at_call 46; (with_reducible refine (strconv_Itoa.calls i t _ (Glob.below HG.out HB.out) HI.out).mono ?_); rintro e w2 ⟨rfl, hb⟩; have hk2 := Aside0.mk (pw_cell_below hb HK.out); have hf2 := Aside0.mk ((hb.frozen (World.block_lt_of_cell? wr _ HO.out)).trans HF.out); have ho2 := Aside0.mk (pw_cell_below hb HO.out); have hb2 := Aside0.mk (HB.out.trans (hb.mono HB.out.size)); clear hb))
              go_roundg k1
              case measure => have := HK1.out; omega
              case rel => exact ⟨_, out, rfl, H', ⟨by have := HK1.out; omega⟩, hk2, ho2, hf2, hb2⟩
            · rw [if_neg c5] at H
              have c5b : (rd l0_0 i == 0) = false := beq_eq_false_iff_ne.mpr c5
              have c5c : (rd l0_0 i != 0) = true := bne_iff_ne.mpr c5
              clear c5
              obtain ⟨o2, hq, H⟩ := Option.bind_eq_some_iff.mp H
              have HQ := Aside0.mk hq
              clear hq
              have H' := Aside0.mk H
              clear H
              go_wp2_with (first | (go_at_call 46; (with_reducible refine (strconv_Itoa.calls i t _ (Glob.below HG.out HB.out) HI.out).mono ?_); rintro e w2 ⟨rfl, hb⟩; have hk2 := Aside0.mk (pw_cell_below hb HK.out); have hf2 := Aside0.mk ((hb.frozen (World.block_lt_of_cell? wr _ HO.out)).trans HF.out); have ho2 := Aside0.mk (pw_cell_below hb HO.out); have hb2 := Aside0.mk (HB.out.trans (hb.mono HB.out.size)); clear hb) | (go_at_call 44; (with_reducible refine (text_put.calls 1 out (rd l0_0 i) _ o2 (w.heap.size + 1) _ (Glob.below HG.out hb2.out) ho2.out hf2.out HQ.out).mono ?_); rintro e w3 ⟨rfl, hg3, hs3, hf3⟩; have hk3 := Aside0.mk (grown_cell hg3 hk2.out (by show w.heap.size ≠ w.heap.size + 1; omega)); have ho3 := Aside0.mk hs3; have hf3 := Aside0.mk hf3; have hb3 := Aside0.mk (hb2.out.grown hg3 hb2.out.size (fun k hk => by obtain rfl := Option.some.inj hk; omega)); clear hg3 hs3))
              go_roundg k1
              case measure => have := HK1.out; omega
              case rel => exact ⟨_, o2, rfl, H', ⟨by have := HK1.out; omega⟩, hk3, ho3, hf3, hb3⟩
        · rw [if_neg c2] at hnm; cases hnm
      · rw [if_neg c1] at H
        have q1b : decide (i < (l0_0.length : Int)) = false := decide_eq_false c1
        clear c1
        have hk1 := HK.out
        have ho1 := HO.out
        unfold text_end at H
        by_cases c5 : a0_1 = 0
        · rw [if_pos c5] at H
          have c5b : (a0_1 == 0) = true := beq_iff_eq.mpr c5
          have c5c : (a0_1 != 0) = false := bne_eq_false_iff_eq.mpr c5
          clear c5
          by_cases c6 : out.toList = ([] : List UInt8)
          · rw [if_pos c6] at H
            have c6b : (out.toList == ([] : List UInt8)) = true := beq_iff_eq.mpr c6
            clear c6
            have HQ := Aside0.mk H
            clear H
            go_wp2_with (first | (go_at_call 44; (with_reducible refine (text_put.calls 1 out a0_1 ⟨#[]⟩ r (w.heap.size + 1) _ (Glob.below HG.out HB.out) HO.out HF.out HQ.out).mono ?_); rintro e w3 ⟨rfl, hg3, hs3, hf3⟩; have hb3 := Aside0.mk (HB.out.grown hg3 HB.out.size (fun k hk => by obtain rfl := Option.some.inj hk; omega)); clear hg3 hf3))
            go_ret
            exact ⟨rfl, hb3.out⟩
          · rw [if_neg c6] at H
            have c6b : (out.toList == ([] : List UInt8)) = false := beq_eq_false_iff_ne.mpr c6
            clear c6
            obtain rfl := Option.some.inj H
            clear H
            go_wp2
            go_ret
            exact ⟨rfl, HB.out⟩
        · rw [if_neg c5] at H
          have c5b : (a0_1 == 0) = false := beq_eq_false_iff_ne.mpr c5
          have c5c : (a0_1 != 0) = true := bne_iff_ne.mpr c5
          clear c5
          have HQ := Aside0.mk H
          clear H
          go_wp2_with (first | (go_at_call 44; (with_reducible refine (text_put.calls 1 out a0_1 ⟨#[]⟩ r (w.heap.size + 1) _ (Glob.below HG.out HB.out) HO.out HF.out HQ.out).mono ?_); rintro e w3 ⟨rfl, hg3, hs3, hf3⟩; have hb3 := Aside0.mk (HB.out.grown hg3 HB.out.size (fun k hk => by obtain rfl := Option.some.inj hk; omega)); clear hg3 hf3))
          go_ret
          exact ⟨rfl, hb3.out⟩
end Go.Proofs.YtmnifoeodohphaaDoor.H
