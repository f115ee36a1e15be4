-- PRINTED by print.py (a twelfth state) out of the translation. Not trusted: Lean checks it.
import Derived.Test.YtnecoebdmjkblaaDoorXx0
import Derived.Test.YtnecoebdmjkblaaDoorXx2
import Derived.Test.YtnecoebdmjkblaaDoorXx5
import Derived.Test.YtnecoebdmjkblaaDoorHandE
import Derived.Test.YtnecoebdmjkblaaDoorHandU
namespace Go.Proofs.YtnecoebdmjkblaaDoor.X
open Go.Proofs.YtnecoebdmjkblaaDoor.Flt Go.Proofs.YtnecoebdmjkblaaDoor.H Go.RowKit Go.Proofs.YtnecoebdmjkblaaDoorW.PrintWords Go.Proofs.YtnecoebdmjkblaaDoorW.PrintLast Go.Proofs.YtnecoebdmjkblaaDoorW.PrintMore
attribute [local go_sem] max2_int min2_int max_two min_two max_three min_three max_four min_four   -- for this text's walks alone
set_option linter.unusedVariables false
set_option linter.unusedSimpArgs false

/-! ### furrowlaw2_LineBytes: function 7 -/
mutual
def furrowlaw2_LineBytes.l0 : Nat → Int → Int → Int → ByteArray → Int → Option (Bool)
 | 0, _, _, _, _, _ => none
 | k + 1, x0, x1, x2, x7, x8 => if x8 < (wrap64 (Int.tmod x1 10)) then (if x7.size + 6 ≤ 9223372036854775807 then (furrowlaw2_LineBytes.l0 k x0 x1 x2 (x7 ++ (⟨#[120, 32, 61, 32, 49, 10]⟩ : ByteArray)) (wrap64 (x8 + 1))) else (none)) else (furrowlaw2_LineBytes.l1 k x0 x1 x2 x7 0)
def furrowlaw2_LineBytes.l1 : Nat → Int → Int → Int → ByteArray → Int → Option (Bool)
 | 0, _, _, _, _, _ => none
 | k + 1, x0, x1, x2, x7, x9 => if x9 < (wrap64 (Int.tmod x2 30)) then (if x7.size + 1 ≤ 9223372036854775807 then (furrowlaw2_LineBytes.l1 k x0 x1 x2 (x7 ++ (⟨#[121]⟩ : ByteArray)) (wrap64 (x9 + 1))) else (none)) else ((some (([x0] : List Int) : List Int)).bind fun y249 => (if x7.size + (strOfNums y249).size ≤ 9223372036854775807 then (if (x7 ++ (strOfNums y249)).size + 2 ≤ 9223372036854775807 then ((line_Split.f ((x7 ++ (strOfNums y249)) ++ (⟨#[122, 10]⟩ : ByteArray))).bind fun bt252 => (if x0 ≥ 32 then (if x0 ≤ 126 then (furrowlaw2_LineBytes.j2 k x1 bt252.2 true) else (if x0 = 9 then (furrowlaw2_LineBytes.j2 k x1 bt252.2 true) else (furrowlaw2_LineBytes.j2 k x1 bt252.2 (x0 == 10)))) else (if x0 = 9 then (furrowlaw2_LineBytes.j2 k x1 bt252.2 true) else (furrowlaw2_LineBytes.j2 k x1 bt252.2 (x0 == 10))))) else (none)) else (none)))
def furrowlaw2_LineBytes.j2 : Nat → Int → List (Flt) → Bool → Option (Bool)
 | 0, _, _, _ => none
 | k + 1, x1, x11, x55 => if x55 = true then (if (x11.length : Int) = 0 then (some true) else (some false)) else ((furrowref4_At.f (⟨#[108, 105, 110, 101]⟩ : ByteArray) (wrap64 (Int.tmod x1 10)) 3).bind fun bt258 => ((furrowlaw2_Tells.f x11 bt258.1 bt258.2).bind fun t262 => (some t262)))
end
def furrowlaw2_LineBytes.f (k : Nat) (a0 : Int) (a1 : Int) (a2 : Int) : Option (Bool) := (furrowlaw2_known.f).bind fun t248 => (if t248 = true then (furrowlaw2_LineBytes.l0 k a0 a1 a2 (⟨#[]⟩ : ByteArray) 0) else (some false))
theorem furrowlaw2_LineBytes.mono_l : ∀ k, (∀ y0 y1 y2 y3 y4, LeO (furrowlaw2_LineBytes.l0 k y0 y1 y2 y3 y4) (furrowlaw2_LineBytes.l0 (k + 1) y0 y1 y2 y3 y4)) ∧ (∀ y0 y1 y2 y3 y4, LeO (furrowlaw2_LineBytes.l1 k y0 y1 y2 y3 y4) (furrowlaw2_LineBytes.l1 (k + 1) y0 y1 y2 y3 y4)) ∧ (∀ y0 y1 y2, LeO (furrowlaw2_LineBytes.j2 k y0 y1 y2) (furrowlaw2_LineBytes.j2 (k + 1) y0 y1 y2))
 | 0 => ⟨fun _ _ _ _ _ r h => by simp [furrowlaw2_LineBytes.l0] at h, fun _ _ _ _ _ r h => by simp [furrowlaw2_LineBytes.l1] at h, fun _ _ _ r h => by simp [furrowlaw2_LineBytes.j2] at h⟩
 | k + 1 => by
  obtain ⟨ih0, ih1, ih2⟩ := furrowlaw2_LineBytes.mono_l k
  refine ⟨?_, ?_, ?_⟩
  ·intro y0 y1 y2 y3 y4
   unfold furrowlaw2_LineBytes.l0
   repeat' first
   | (with_reducible exact ih0 _ _ _ _ _)
   | (with_reducible exact ih1 _ _ _ _ _)
   | (with_reducible exact ih2 _ _ _)
   | (with_reducible exact LeO.refl _)
   | (with_reducible exact LeO.none _)
   | (with_reducible refine LeO.ite ?_ ?_)
   | (with_reducible refine LeO.bind ?_ (fun _ => ?_))
   | exact ih0 _ _ _ _ _
   | exact ih1 _ _ _ _ _
   | exact ih2 _ _ _
   | exact LeO.none _
   | refine LeO.ite ?_ ?_
   | refine LeO.bind ?_ (fun _ => ?_)
  ·intro y0 y1 y2 y3 y4
   unfold furrowlaw2_LineBytes.l1
   repeat' first
   | (with_reducible exact ih0 _ _ _ _ _)
   | (with_reducible exact ih1 _ _ _ _ _)
   | (with_reducible exact ih2 _ _ _)
   | (with_reducible exact LeO.refl _)
   | (with_reducible exact LeO.none _)
   | (with_reducible refine LeO.ite ?_ ?_)
   | (with_reducible refine LeO.bind ?_ (fun _ => ?_))
   | exact ih0 _ _ _ _ _
   | exact ih1 _ _ _ _ _
   | exact ih2 _ _ _
   | exact LeO.none _
   | refine LeO.ite ?_ ?_
   | refine LeO.bind ?_ (fun _ => ?_)
  ·intro y0 y1 y2
   unfold furrowlaw2_LineBytes.j2
   repeat' first
   | (with_reducible exact ih0 _ _ _ _ _)
   | (with_reducible exact ih1 _ _ _ _ _)
   | (with_reducible exact ih2 _ _ _)
   | (with_reducible exact LeO.refl _)
   | (with_reducible exact LeO.none _)
   | (with_reducible refine LeO.ite ?_ ?_)
   | (with_reducible refine LeO.bind ?_ (fun _ => ?_))
   | exact ih0 _ _ _ _ _
   | exact ih1 _ _ _ _ _
   | exact ih2 _ _ _
   | exact LeO.none _
   | refine LeO.ite ?_ ?_
   | refine LeO.bind ?_ (fun _ => ?_)
theorem furrowlaw2_LineBytes.mono : ∀ a0 a1 a2 k, LeO (furrowlaw2_LineBytes.f k a0 a1 a2) (furrowlaw2_LineBytes.f (k + 1) a0 a1 a2) := by
 intro a0 a1 a2 k
 obtain ⟨ih0, ih1, ih2⟩ := furrowlaw2_LineBytes.mono_l k
 unfold furrowlaw2_LineBytes.f
 repeat' first
   | (with_reducible exact ih0 _ _ _ _ _)
   | (with_reducible exact ih1 _ _ _ _ _)
   | (with_reducible exact ih2 _ _ _)
   | (with_reducible exact LeO.refl _)
   | (with_reducible exact LeO.none _)
   | (with_reducible refine LeO.ite ?_ ?_)
   | (with_reducible refine LeO.bind ?_ (fun _ => ?_))
   | exact ih0 _ _ _ _ _
   | exact ih1 _ _ _ _ _
   | exact ih2 _ _ _
   | exact LeO.none _
   | refine LeO.ite ?_ ?_
   | refine LeO.bind ?_ (fun _ => ?_)
set_option maxHeartbeats 8000000 in
set_option maxRecDepth 100000 in
theorem furrowlaw2_LineBytes.calls (k : Nat) (a0 : Int) (a1 : Int) (a2 : Int) (w : World) (hG : Glob w) (h : furrowlaw2_LineBytes.f k a0 a1 a2 = some true) :
  Calls Tryd.prog 7 #[.int .u8 a0, .int .u8 a1, .int .u8 a2] w fun e w' => e = .returned (.bool true) ∧ Below w.heap.size w w' := by
 have HG := mk0 hG
 clear hG
 have HB := mk0 (Below.refl w.heap.size w)
 have H : ((furrowlaw2_known.f).bind fun t248 => (if t248 = true then (furrowlaw2_LineBytes.l0 k a0 a1 a2 (⟨#[]⟩ : ByteArray) 0) else (some false))) = some true := h
 clear h
 replace H := Option.bind_eq_some_iff.mp H
 obtain ⟨t248, A40, H⟩ := H
 replace H : (if t248 = true then (furrowlaw2_LineBytes.l0 k a0 a1 a2 (⟨#[]⟩ : ByteArray) 0) else (some false)) = some true := H
 have A4 := mk0 A40
 clear A40
 by_cases c5 : t248 = true
 ·subst c5
  have H1 : (furrowlaw2_LineBytes.l0 k a0 a1 a2 (⟨#[]⟩ : ByteArray) 0) = some true := by rw [if_pos rfl] at H; first | done | exact H
  clear H
  have H := H1
  clear H1
  have H' := mk0 H
  clear H
  go_enter Tryd.func7, Tryd.ntmps7
  go_wp2_with (first | ((with_reducible refine gate_callee (f := 8) rfl ?_); refine goesL_ (some 12) rfl rfl Tryd.func8 (by kernel_rfl) rfl #[] rfl (by (try simp only [List.map_toArray, List.map_cons, List.map_nil]); first | done | rfl | (simp only [List.length_drop, List.length_take]; rfl)) ?_; (with_reducible refine (furrowlaw2_known.calls   _ A4.out).mono ?_); rintro e w6 ⟨rfl, hb⟩; refine ⟨_, rfl, ?_⟩; have n0_ := mk0 (below_step (uL HB.out) hb); clear HB; have HB := n0_; clear n0_; (try clear hb); (try clear hb2); (try clear hk); (try clear hi)))
  go_loopg [7, 8] k (fun kq v7 v8 w' => ∃ (x7_1 : ByteArray) (x8_1 : Int), v7 = .string x7_1 ∧ v8 = .int .i64 x8_1 ∧ Aside0 (furrowlaw2_LineBytes.l0 kq a0 a1 a2 x7_1 x8_1 = some true) ∧ Aside0 (kq ≤ k) ∧ Aside0 (Below w.heap.size w w'))
  case atStart => exact ⟨((⟨#[]⟩ : ByteArray)), (0), (by first | rfl | (simp; done) | (simp [*]; done) | (simp [bne_nil_, beq_nil_]; done)), (by first | rfl | (simp; done) | (simp [*]; done) | (simp [bne_nil_, beq_nil_]; done)), H', ⟨Nat.le_refl _⟩, ⟨uL HB.out⟩⟩
  case round =>
   clear H'
   try clear p2
   try clear c5
   obtain ⟨x7_1, x8_1, rfl, rfl, HA, HK1, HB⟩ := hrel
   cases gk with
   | zero => exact absurd HA.out (by simp [furrowlaw2_LineBytes.l0])
   | succ k1 =>
    have H := HA.out
    clear HA
    simp only [furrowlaw2_LineBytes.l0] at H
    by_cases c7 : x8_1 < (wrap64 (Int.tmod a1 10))
    ·rw [if_pos c7] at H
     have c7b0 : decide (x8_1 < (wrap64 (Int.tmod a1 10))) = true := decide_eq_true c7
     clear c7
     by_cases c8 : x7_1.size + 6 ≤ 9223372036854775807
     ·rw [if_pos c8] at H
      have c8b0 := eq_true c8
      have c8b1 : decide (x7_1.size + 6 ≤ 9223372036854775807) = true := decide_eq_true c8
      try have c8b2 : (9223372036854775807 < x7_1.size + 6) = False := eq_false (Nat.not_lt.2 c8)
      have H' := mk0 H
      clear H
      go_wp2
      go_roundg k1
      case measure => have := HK1.out; omega
      case rel => exact ⟨(x7_1 ++ (⟨#[120, 32, 61, 32, 49, 10]⟩ : ByteArray)), (wrap64 (x8_1 + 1)), (by first | rfl | (simp; done) | (simp [*]; done) | (simp [bne_nil_, beq_nil_]; done)), (by first | rfl | (simp; done) | (simp [*]; done) | (simp [bne_nil_, beq_nil_]; done)), H', ⟨by have := HK1.out; omega⟩, ⟨uL HB.out⟩⟩
     ·rw [if_neg c8] at H
      exact absurd H (by simp)
    ·rw [if_neg c7] at H
     have c7b0 : decide (x8_1 < (wrap64 (Int.tmod a1 10))) = false := decide_eq_false c7
     clear c7
     have H' := mk0 H
     clear H
     go_wp2
     go_loopg [7, 9] k1 (fun kq v7 v9 w' => ∃ (x7_2 : ByteArray) (x9_2 : Int), v7 = .string x7_2 ∧ v9 = .int .i64 x9_2 ∧ Aside0 (furrowlaw2_LineBytes.l1 kq a0 a1 a2 x7_2 x9_2 = some true) ∧ Aside0 (kq ≤ k1) ∧ Aside0 (Below w.heap.size w w'))
     case atStart => exact ⟨(x7_1), (0), (by first | rfl | (simp; done) | (simp [*]; done) | (simp [bne_nil_, beq_nil_]; done)), (by first | rfl | (simp; done) | (simp [*]; done) | (simp [bne_nil_, beq_nil_]; done)), H', ⟨Nat.le_refl _⟩, ⟨uL HB.out⟩⟩
     case round =>
      clear H'
      try clear p2
      try clear c5
      try clear p6
      try clear c7
      try clear c7b0
      try clear c8
      try clear c8b0
      try clear c8b1
      try clear c8b2
      try clear p2
      obtain ⟨x7_2, x9_2, rfl, rfl, HA, HK2, HB⟩ := hrel
      cases gk with
      | zero => exact absurd HA.out (by simp [furrowlaw2_LineBytes.l1])
      | succ k2 =>
       have H := HA.out
       clear HA
       simp only [furrowlaw2_LineBytes.l1] at H
       by_cases c9 : x9_2 < (wrap64 (Int.tmod a2 30))
       ·rw [if_pos c9] at H
        have c9b0 : decide (x9_2 < (wrap64 (Int.tmod a2 30))) = true := decide_eq_true c9
        clear c9
        by_cases c10 : x7_2.size + 1 ≤ 9223372036854775807
        ·rw [if_pos c10] at H
         have c10b0 := eq_true c10
         have c10b1 : decide (x7_2.size + 1 ≤ 9223372036854775807) = true := decide_eq_true c10
         try have c10b2 : (9223372036854775807 < x7_2.size + 1) = False := eq_false (Nat.not_lt.2 c10)
         have H' := mk0 H
         clear H
         go_wp2
         go_roundg k2
         case measure => have := HK1.out; have := HK2.out; omega
         case rel => exact ⟨(x7_2 ++ (⟨#[121]⟩ : ByteArray)), (wrap64 (x9_2 + 1)), (by first | rfl | (simp; done) | (simp [*]; done) | (simp [bne_nil_, beq_nil_]; done)), (by first | rfl | (simp; done) | (simp [*]; done) | (simp [bne_nil_, beq_nil_]; done)), H', ⟨by have := HK1.out; have := HK2.out; omega⟩, ⟨uL HB.out⟩⟩
        ·rw [if_neg c10] at H
         exact absurd H (by simp)
       ·rw [if_neg c9] at H
        have c9b0 : decide (x9_2 < (wrap64 (Int.tmod a2 30))) = false := decide_eq_false c9
        clear c9
        obtain ⟨y249, hy249⟩ : ∃ y_ : List Int, y_ = (([a0] : List Int)) := ⟨_, rfl⟩
        replace H : (if x7_2.size + (strOfNums y249).size ≤ 9223372036854775807 then (if (x7_2 ++ (strOfNums y249)).size + 2 ≤ 9223372036854775807 then ((line_Split.f ((x7_2 ++ (strOfNums y249)) ++ (⟨#[122, 10]⟩ : ByteArray))).bind fun bt252 => (if a0 ≥ 32 then (if a0 ≤ 126 then (furrowlaw2_LineBytes.j2 k2 a1 bt252.2 true) else (if a0 = 9 then (furrowlaw2_LineBytes.j2 k2 a1 bt252.2 true) else (furrowlaw2_LineBytes.j2 k2 a1 bt252.2 (a0 == 10)))) else (if a0 = 9 then (furrowlaw2_LineBytes.j2 k2 a1 bt252.2 true) else (furrowlaw2_LineBytes.j2 k2 a1 bt252.2 (a0 == 10))))) else (none)) else (none)) = some true := by first | (rw [hy249]; with_reducible exact H) | (have H2_ := (Option.bind_some _ _).symm.trans H; rw [hy249]; with_reducible exact H2_) | (have H2_ := (Option.bind_some _ _).symm.trans H; with_reducible exact H2_) | with_reducible exact H | (rw [hy249]; exact H) | exact H
        have Ny249 := mk0 hy249
        clear hy249
        by_cases c11 : x7_2.size + (strOfNums y249).size ≤ 9223372036854775807
        ·rw [if_pos c11] at H
         have c11b0 := eq_true c11
         have c11b1 : decide (x7_2.size + (strOfNums y249).size ≤ 9223372036854775807) = true := decide_eq_true c11
         try have c11b2 : (9223372036854775807 < x7_2.size + (strOfNums y249).size) = False := eq_false (Nat.not_lt.2 c11)
         by_cases c12 : (x7_2 ++ (strOfNums y249)).size + 2 ≤ 9223372036854775807
         ·rw [if_pos c12] at H
          have c12b0 := eq_true c12
          have c12b1 : decide ((x7_2 ++ (strOfNums y249)).size + 2 ≤ 9223372036854775807) = true := decide_eq_true c12
          try have c12b2 : (9223372036854775807 < (x7_2 ++ (strOfNums y249)).size + 2) = False := eq_false (Nat.not_lt.2 c12)
          have c12s := c12
          simp only [ByteArray.size_append] at c12s
          have c12b3 := eq_true c12s
          have c12b4 := decide_eq_true c12s
          have c12b5 := eq_false (Nat.not_lt.2 c12s)
          clear c12s
          replace H := Option.bind_eq_some_iff.mp H
          obtain ⟨⟨t252, t253⟩, A130, H⟩ := H
          replace H : (if a0 ≥ 32 then (if a0 ≤ 126 then (furrowlaw2_LineBytes.j2 k2 a1 t253 true) else (if a0 = 9 then (furrowlaw2_LineBytes.j2 k2 a1 t253 true) else (furrowlaw2_LineBytes.j2 k2 a1 t253 (a0 == 10)))) else (if a0 = 9 then (furrowlaw2_LineBytes.j2 k2 a1 t253 true) else (furrowlaw2_LineBytes.j2 k2 a1 t253 (a0 == 10)))) = some true := H
          have A13 := mk0 A130
          clear A130
          have HC14 := mk0 H
          clear H
          go_upto_region 13 with (first | ((with_reducible refine gate_dst (N := 35) rfl ?_); refine Kd.R_lit (Kd.int .u8) _ 5 ?hg (N := 35) ?hd (xs := ([a0] : List Int)) (inner := [.int .u8 a0]) (ok := fun _ => True) (okp := fun _ => True) ?hr ?hp (fun _ hk => hk) trivial (Below.refl _ _) (Nat.le_refl _) (by simp) ?_; (case hd => rfl); (case hg => rfl); (case hr => first | (go_simp; done) | (go_simp; rfl)); (case hp => exact (Reps.one (show Kd.M (Kd.int .u8) _ _ _ a0 [.int .u8 a0] from rfl) (Reps.none _ _))); intro v250 w15 ho16 hb hg_ hnew_; clear hg_ hnew_; (first | rw [← Ny249.out] at ho16 | (simp only [Int.reduceToNat] at ho16; rw [← Ny249.out] at ho16)); have n0_ := mk0 (Kd.R_lower ho16 (below_size (uL HB.out))); have n1_ := mk0 (below_step (uL HB.out) hb); clear HB; have HO251 := n0_; have HB := n1_; clear n0_ n1_; clear hb ho16; have hcv17 := own_string (P := Tryd.prog) Tryd.underlying41 Tryd.underlying5 Tryd.underlying9 (Kd.own_of_R HO251.out)) | ((with_reducible refine gate_callee (f := 13) rfl ?_); refine goesL_ (some 39) rfl rfl Tryd.func13 (by kernel_rfl) rfl #[.string ((x7_2 ++ (strOfNums y249)) ++ (⟨#[122, 10]⟩ : ByteArray))] rfl (by (try simp only [List.map_toArray, List.map_cons, List.map_nil]); first | done | rfl | (simp only [List.length_drop, List.length_take]; rfl)) ?_; (with_reducible refine (line_Split.calls ((x7_2 ++ (strOfNums y249)) ++ (⟨#[122, 10]⟩ : ByteArray)) t252 t253 _ A13.out).mono ?_); rintro e w18 ⟨v254, v256, rfl, ho0, ho1, hb⟩; refine ⟨_, rfl, ?_⟩; have n0_ := mk0 (Kd.R_below (uR HO251.out) hb); have n1_ := mk0 (Kd.R_lower ho0 (below_size (uL HB.out))); have n2_ := mk0 (Kd.R_lower ho1 (below_size (uL HB.out))); have n3_ := mk0 (below_step (uL HB.out) hb); clear HO251; clear HB; have HO251 := n0_; have HO255 := n1_; have HO257 := n2_; have HB := n3_; clear n0_ n1_ n2_ n3_; (try clear hb); (try clear hb2); (try clear hk); (try clear hi); (try clear ho0); (try clear ho1); (first | (have EHO257 := cmpV_no HO257.out (by with_reducible assumption)) | (have EHO257 := cmpV_yes HO257.out (by with_reducible assumption)) | skip)))
          (try simp only [Act.put, List.setIfInBounds_toArray, List.set_cons_zero, List.set_cons_succ])
          go_cut [55] (fun v55 wc => ∃ (kq : Nat) (x55_13 : Bool), v55 = .bool x55_13 ∧ Aside0 (furrowlaw2_LineBytes.j2 kq a1 t253 x55_13 = some true) ∧ Aside0 (kq ≤ k2) ∧ Aside0 (Kd.R fltK 52 wc w.heap.size (fun _ => True) v256 t253) ∧ Aside0 (Below w.heap.size w wc))
          case first =>
           have H := HC14.out
           clear HC14
           by_cases c19 : a0 ≥ 32
           ·rw [if_pos c19] at H
            have c19b0 : decide (32 ≤ a0) = true := decide_eq_true c19
            clear c19
            (first | rw [c19b0] | (simp only [i64_w, i32_w]; rw [c19b0]) | skip)
            by_cases c20 : a0 ≤ 126
            ·rw [if_pos c20] at H
             have c20b0 : decide (a0 ≤ 126) = true := decide_eq_true c20
             clear c20
             have H' := mk0 H
             clear H
             (first | (have EHO257 := cmpV_no HO257.out (by with_reducible assumption)) | (have EHO257 := cmpV_yes HO257.out (by with_reducible assumption)) | skip)
             go_wp2
             go_meet
             case rel => exact ⟨_, (true), (by first | rfl | (simp; done) | (simp [*]; done) | (simp [bne_nil_, beq_nil_]; done)), H', ⟨by have := HK1.out; have := HK2.out; first | omega | exact Nat.le_refl _⟩, ⟨uR HO257.out⟩, ⟨uL HB.out⟩⟩
            ·rw [if_neg c20] at H
             have c20b0 : decide (a0 ≤ 126) = false := decide_eq_false c20
             clear c20
             by_cases c21 : a0 = 9
             ·rw [if_pos c21] at H
              have c21b0 : (a0 == 9) = true := beq_iff_eq.mpr c21
              have c21b1 : (a0 != 9) = false := bne_eq_false_iff_eq.mpr c21
              clear c21
              have H' := mk0 H
              clear H
              (first | (have EHO257 := cmpV_no HO257.out (by with_reducible assumption)) | (have EHO257 := cmpV_yes HO257.out (by with_reducible assumption)) | skip)
              go_wp2
              go_meet
              case rel => exact ⟨_, (true), (by first | rfl | (simp; done) | (simp [*]; done) | (simp [bne_nil_, beq_nil_]; done)), H', ⟨by have := HK1.out; have := HK2.out; first | omega | exact Nat.le_refl _⟩, ⟨uR HO257.out⟩, ⟨uL HB.out⟩⟩
             ·rw [if_neg c21] at H
              have c21b0 : (a0 == 9) = false := beq_eq_false_iff_ne.mpr c21
              have c21b1 : (a0 != 9) = true := bne_iff_ne.mpr c21
              have H' := mk0 H
              clear H
              (first | (have EHO257 := cmpV_no HO257.out (by with_reducible assumption)) | (have EHO257 := cmpV_yes HO257.out (by with_reducible assumption)) | skip)
              go_wp2
              go_meet
              case rel => exact ⟨_, ((a0 == 10)), (by first | rfl | (simp; done) | (simp [*]; done) | (simp [bne_nil_, beq_nil_]; done)), H', ⟨by have := HK1.out; have := HK2.out; first | omega | exact Nat.le_refl _⟩, ⟨uR HO257.out⟩, ⟨uL HB.out⟩⟩
           ·rw [if_neg c19] at H
            have c19b0 : decide (32 ≤ a0) = false := decide_eq_false c19
            clear c19
            (first | rw [c19b0] | (simp only [i64_w, i32_w]; rw [c19b0]) | skip)
            by_cases c22 : a0 = 9
            ·rw [if_pos c22] at H
             have c22b0 : (a0 == 9) = true := beq_iff_eq.mpr c22
             have c22b1 : (a0 != 9) = false := bne_eq_false_iff_eq.mpr c22
             clear c22
             have H' := mk0 H
             clear H
             (first | (have EHO257 := cmpV_no HO257.out (by with_reducible assumption)) | (have EHO257 := cmpV_yes HO257.out (by with_reducible assumption)) | skip)
             go_wp2
             go_meet
             case rel => exact ⟨_, (true), (by first | rfl | (simp; done) | (simp [*]; done) | (simp [bne_nil_, beq_nil_]; done)), H', ⟨by have := HK1.out; have := HK2.out; first | omega | exact Nat.le_refl _⟩, ⟨uR HO257.out⟩, ⟨uL HB.out⟩⟩
            ·rw [if_neg c22] at H
             have c22b0 : (a0 == 9) = false := beq_eq_false_iff_ne.mpr c22
             have c22b1 : (a0 != 9) = true := bne_iff_ne.mpr c22
             have H' := mk0 H
             clear H
             (first | (have EHO257 := cmpV_no HO257.out (by with_reducible assumption)) | (have EHO257 := cmpV_yes HO257.out (by with_reducible assumption)) | skip)
             go_wp2
             go_meet
             case rel => exact ⟨_, ((a0 == 10)), (by first | rfl | (simp; done) | (simp [*]; done) | (simp [bne_nil_, beq_nil_]; done)), H', ⟨by have := HK1.out; have := HK2.out; first | omega | exact Nat.le_refl _⟩, ⟨uR HO257.out⟩, ⟨uL HB.out⟩⟩
          case rest =>
           clear HC14
           try clear c1
           try clear hcv1
           try clear c2
           try clear p2
           try clear c5
           try clear p6
           try clear c7
           try clear c7b0
           try clear c8
           try clear c8b0
           try clear c8b1
           try clear c8b2
           try clear c9
           try clear c9b0
           try clear c10
           try clear c10b0
           try clear c10b1
           try clear c10b2
           try clear c11
           try clear c11b0
           try clear c11b1
           try clear c11b2
           try clear c12
           try clear c12b0
           try clear c12b1
           try clear c12b2
           try clear c13
           try clear hcv17
           try clear c19
           try clear c19b0
           try clear c20
           try clear c20b0
           try clear c21
           try clear c21b0
           try clear c21b1
           try clear c22
           try clear c22b0
           try clear c22b1
           try clear p2
           try clear p6
           obtain ⟨kq, x55_13, rfl, HA, HJ13, HO_11, HB⟩ := hcut
           cases kq with
           | zero => exact absurd HA.out (by simp [furrowlaw2_LineBytes.j2])
           | succ kj13 =>
            have H := HA.out
            clear HA
            simp only [furrowlaw2_LineBytes.j2] at H
            by_cases c23 : x55_13 = true
            ·subst c23
             have H1 : (if (t253.length : Int) = 0 then (some true) else (some false)) = some true := by rw [if_pos rfl] at H; first | done | exact H
             clear H
             have H := H1
             clear H1
             by_cases c24 : (t253.length : Int) = 0
             ·rw [if_pos c24] at H
              have c24b0 : ((t253.length : Int) == 0) = true := beq_iff_eq.mpr c24
              have c24b1 : ((t253.length : Int) != 0) = false := bne_eq_false_iff_eq.mpr c24
              clear c24
              have HT := mk0 (Option.some.inj H)
              clear H
              (first | (have EHO_11 := cmpV_no HO_11.out (by with_reducible assumption)) | (have EHO_11 := cmpV_yes HO_11.out (by with_reducible assumption)) | skip)
              go_wp2
              go_ret
              exact ⟨by first | rfl | (simp [errW_none, errW_some] <;> rfl) | (exact congrArg (fun b_ => Ending.returned (Value.bool b_)) HT.out) | (rw [show _ = _ from HT.out]) | (simp [HT.out]; done) | (simp [show _ = _ from HT.out]; done) | (simp [*, errW_none, errW_some] <;> rfl), uL HB.out⟩
             ·rw [if_neg c24] at H
              have c24b0 : ((t253.length : Int) == 0) = false := beq_eq_false_iff_ne.mpr c24
              have c24b1 : ((t253.length : Int) != 0) = true := bne_iff_ne.mpr c24
              have c24b2 : ¬ (t253 = []) := fun h_ => c24 (by rw [h_]; rfl)
              exact absurd H (by simp)
            ·replace c23 := Bool.eq_false_iff.mpr c23
             subst c23
             have H1 : ((furrowref4_At.f (⟨#[108, 105, 110, 101]⟩ : ByteArray) (wrap64 (Int.tmod a1 10)) 3).bind fun bt258 => ((furrowlaw2_Tells.f t253 bt258.1 bt258.2).bind fun t262 => (some t262))) = some true := by rw [if_neg (show ¬ (false = true) by decide)] at H; first | done | exact H
             clear H
             have H := H1
             clear H1
             replace H := Option.bind_eq_some_iff.mp H
             obtain ⟨⟨t258, t261⟩, A250, H⟩ := H
             replace H : ((furrowlaw2_Tells.f t253 t258 t261).bind fun t262 => (some t262)) = some true := H
             have A25 := mk0 A250
             clear A250
             replace H := Option.bind_eq_some_iff.mp H
             obtain ⟨t262, A260, H⟩ := H
             replace H : (some t262) = some true := H
             have A26 := mk0 A260
             clear A260
             have HT := mk0 (Option.some.inj H)
             clear H
             (first | (have EHO_11 := cmpV_no HO_11.out (by with_reducible assumption)) | (have EHO_11 := cmpV_yes HO_11.out (by with_reducible assumption)) | skip)
             go_wp2_with (first | ((with_reducible refine gate_callee (f := 18) rfl ?_); refine goesL_ (some 62) rfl rfl Tryd.func18 (by kernel_rfl) rfl #[.string (⟨#[108, 105, 110, 101]⟩ : ByteArray), .int .i64 (wrap64 (Int.tmod a1 10)), .int .i64 3] rfl (by (try simp only [List.map_toArray, List.map_cons, List.map_nil]); first | done | rfl | (simp only [List.length_drop, List.length_take]; rfl)) ?_; (with_reducible refine (furrowref4_At.calls (⟨#[108, 105, 110, 101]⟩ : ByteArray) (wrap64 (Int.tmod a1 10)) 3 t258 t261 _ A25.out).mono ?_); rintro e w27 ⟨v259, rfl, ho0, hb⟩; refine ⟨_, rfl, ?_⟩; have n0_ := mk0 (Kd.R_below (uR HO_11.out) hb); have n1_ := mk0 (Kd.R_lower ho0 (below_size (uL HB.out))); have n2_ := mk0 (below_step (uL HB.out) hb); clear HO_11; clear HB; have HO_11 := n0_; have HO260 := n1_; have HB := n2_; clear n0_ n1_ n2_; (try clear hb); (try clear hb2); (try clear hk); (try clear hi); (try clear ho0); obtain ⟨Ao28, co28, eo28⟩ := Kd.R_slice HO_11.out; subst eo28; obtain ⟨Ao29, co29, eo29⟩ := Kd.R_slice HO260.out; subst eo29) | ((with_reducible refine gate_callee (f := 17) rfl ?_); refine goesL_ (some 63) rfl rfl Tryd.func17 (by kernel_rfl) rfl #[errV (.slice Ao28 t253.length co28), .agg #[.slice Ao29 t258.length co29, .int .i64 t261]] rfl (by (try simp only [List.map_toArray, List.map_cons, List.map_nil]); first | done | rfl | (simp only [List.length_drop, List.length_take]; rfl)) ?_; (with_reducible refine (furrowlaw2_Tells.calls _ _ t253 _ _ t258 t261 t262 _ ?side1 ?side2 ?side3 ?side4 ?side5 A26.out).mono ?_); (case side1 => repeat (first | exact (Kd.R_reads' HO_11.out).2.2 | (with_reducible refine Kd.C_alloc ?_ _) | (with_reducible refine Kd.C_drewN ?_ _) | (with_reducible refine Kd.C_drew ?_))); (case side2 => exact (Kd.R_reads' HO_11.out).2.1); (case side3 => repeat (first | exact (Kd.R_reads' HO260.out).2.2 | (with_reducible refine Kd.C_alloc ?_ _) | (with_reducible refine Kd.C_drewN ?_ _) | (with_reducible refine Kd.C_drew ?_))); (case side4 => exact (Kd.R_reads' HO260.out).2.1); (case side5 => exact Glob.below HG.out (uL HB.out)); rintro e w30 ⟨rfl, hb⟩; refine ⟨_, rfl, ?_⟩; have n0_ := mk0 (Kd.R_below (uR HO_11.out) hb); have n1_ := mk0 (Kd.R_below (uR HO260.out) hb); have n2_ := mk0 (below_step (uL HB.out) hb); clear HO_11; clear HO260; clear HB; have HO_11 := n0_; have HO260 := n1_; have HB := n2_; clear n0_ n1_ n2_; (try clear hb); (try clear hb2); (try clear hk); (try clear hi)))
             go_ret
             exact ⟨by first | rfl | (simp [errW_none, errW_some] <;> rfl) | (exact congrArg (fun b_ => Ending.returned (Value.bool b_)) HT.out) | (rw [show _ = _ from HT.out]) | (simp [HT.out]; done) | (simp [show _ = _ from HT.out]; done) | (simp [*, errW_none, errW_some] <;> rfl), uL HB.out⟩
         ·rw [if_neg c12] at H
          exact absurd H (by simp)
        ·rw [if_neg c11] at H
         exact absurd H (by simp)
 ·replace c5 := Bool.eq_false_iff.mpr c5
  subst c5
  have H1 : (some false) = some true := by rw [if_neg (show ¬ (false = true) by decide)] at H; first | done | exact H
  clear H
  have H := H1
  clear H1
  exact absurd H (by simp)

/-- THE ONE PURE STATEMENT of furrowlaw2_LineBytes: yours. -/
def furrowlaw2_LineBytes.Pure : Prop := ∀ (a0 : Int) (a1 : Int) (a2 : Int), (Lit.int .u8 a0).wf = true → (Lit.int .u8 a1).wf = true → (Lit.int .u8 a2).wf = true → ∃ k, furrowlaw2_LineBytes.f k a0 a1 a2 = some true
theorem furrowlaw2_LineBytes.walk (P : furrowlaw2_LineBytes.Pure) (a0 : Int) (a1 : Int) (a2 : Int) (w : World) (w0 : (Lit.int .u8 a0).wf = true) (w1 : (Lit.int .u8 a1).wf = true) (w2 : (Lit.int .u8 a2).wf = true) (hG : Glob w) :
  Calls Tryd.prog 7 #[.int .u8 a0, .int .u8 a1, .int .u8 a2] w fun e w' => e = .returned (.bool true) ∧ Below w.heap.size w w' := by
 obtain ⟨k, h⟩ := P a0 a1 a2 w0 w1 w2
 refine (furrowlaw2_LineBytes.calls k a0 a1 a2  w hG h).mono ?_
 rintro e w' ⟨rfl, hd⟩
 exact ⟨rfl, hd⟩

end Go.Proofs.YtnecoebdmjkblaaDoor.X
