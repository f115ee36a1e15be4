-- PRINTED by print.py (a twelfth state) out of the translation. Not trusted: Lean checks it.
import Derived.Test.YteeeoblpfepepaaDoorXx0
import Derived.Test.YteeeoblpfepepaaDoorXx1
import Derived.Test.YteeeoblpfepepaaDoorXx2
import Derived.Test.YteeeoblpfepepaaDoorXx6
import Derived.Test.YteeeoblpfepepaaDoorHandE
import Derived.Test.YteeeoblpfepepaaDoorHandN
namespace Go.Proofs.YteeeoblpfepepaaDoor.X
open Go.Proofs.YteeeoblpfepepaaDoor.Flt Go.Proofs.YteeeoblpfepepaaDoor.H Go.RowKit Go.Proofs.YteeeoblpfepepaaDoorW.PrintWords Go.Proofs.YteeeoblpfepepaaDoorW.PrintLast Go.Proofs.YteeeoblpfepepaaDoorW.PrintMore
attribute [local go_sem] max2_int min2_int max_two min_two max_three min_three max_four min_four   -- for this text's walks alone
set_option linter.unusedVariables false
set_option linter.unusedSimpArgs false

/-! ### edit_Diff: function 15 -/
def edit_Diff.f (k : Nat) (l0 : List ByteArray) (l1 : List ByteArray) : Option ((List (S38))) := (slices_Equal_string_string.f k l0 l1).bind fun t139 => (if t139 = true then (some ([] : List (S38))) else ((edit_alike.f k l0 l1).bind fun t140 => (if 0 ≤ t140 then (if t140 ≤ (l0.length : Int) then ((slices_Clone_string_string.f (l0.drop (t140 : Int).toNat)).bind fun t142 => (if t140 ≤ (l1.length : Int) then ((slices_Clone_string_string.f (l1.drop (t140 : Int).toNat)).bind fun t146 => ((slices_Reverse_string_string.f k t142).bind fun t149 => ((slices_Reverse_string_string.f k t146).bind fun t150 => ((edit_alike.f k t149 t150).bind fun t151 => (if t140 ≤ (wrap64 ((l1.length : Int) - t151)) then (if (wrap64 ((l1.length : Int) - t151)) ≤ (l1.length : Int) then ((slices_Clone_string_string.f ((l1.take ((wrap64 ((l1.length : Int) - t151)) : Int).toNat).drop (t140 : Int).toNat)).bind fun t153 => (some (([(⟨t140, wrap64 ((l0.length : Int) - t151), t153⟩ : S38)] : List (S38))))) else (none)) else (none)))))) else (none))) else (none)) else (none))))
theorem edit_Diff.mono : ∀ a0 a1 k, LeO (edit_Diff.f k a0 a1) (edit_Diff.f (k + 1) a0 a1) := by
 intro a0 a1 k
 unfold edit_Diff.f
 repeat' first
   | (with_reducible exact edit_alike.mono _ _ _)
   | (with_reducible exact slices_Equal_string_string.mono _ _ _)
   | (with_reducible exact slices_Reverse_string_string.mono _ _)
   | (with_reducible exact LeO.refl _)
   | (with_reducible exact LeO.none _)
   | (with_reducible refine LeO.ite ?_ ?_)
   | (with_reducible refine LeO.bind ?_ (fun _ => ?_))
   | exact edit_alike.mono _ _ _
   | exact slices_Equal_string_string.mono _ _ _
   | exact slices_Reverse_string_string.mono _ _
   | exact LeO.none _
   | refine LeO.ite ?_ ?_
   | refine LeO.bind ?_ (fun _ => ?_)
def edit_Diff.T4 : Bool × List (List Nat × List Nat) := (true, [([], []), ([], []), ([0, 1], [0, 1]), ([2], [2]), ([], []), ([], []), ([4, 5], [4, 5]), ([6, 3], [6]), ([3, 7, 0, 1, 2, 3], [3]), ([7, 8, 0, 1, 2, 3, 4, 5, 6, 7, 8], [7])])
def edit_Diff.B4 : List Nat := [0, 0, 3, 7, 0, 0, 48, 127, 255, 511]
theorem edit_Diff.tab4 : rtab .any (opsOf Tryd.f15 4) = edit_Diff.T4 := by kernel_rfl
theorem edit_Diff.bits4 : waitsOk edit_Diff.T4.2 edit_Diff.B4 = true := by kernel_rfl
set_option maxHeartbeats 8000000 in
set_option maxRecDepth 100000 in
theorem edit_Diff.calls (k : Nat) (A0 : Option Addr) (c0 : Nat) (l0 : List ByteArray) (A1 : Option Addr) (c1 : Nat) (l1 : List ByteArray) (r : List (S38)) (w : World) (hr0 : Kd.C Kd.string w A0 l0.length l0) (hc0 : l0.length ≤ c0) (hr1 : Kd.C Kd.string w A1 l1.length l1) (hc1 : l1.length ≤ c1) (h : edit_Diff.f k l0 l1 = some r) :
  Calls Tryd.prog 15 #[.slice A0 l0.length c0, .slice A1 l1.length c1] w fun e w' => ∃ v0_ : Value, e = .returned (v0_) ∧ Kd.N k38 38 w' w.heap.size (fun k_ => (w.heap.size ≤ k_)) v0_ r ∧ Below w.heap.size w w' := by
 have hu38 := Tryd.underlying38
 have HR0 := mk0 hr0
 have HC0 := mk0 hc0
 clear hr0 hc0
 have HR1 := mk0 hr1
 have HC1 := mk0 hc1
 clear hr1 hc1
 have HB := mk0 (Below.refl w.heap.size w)
 have H : ((slices_Equal_string_string.f k l0 l1).bind fun t139 => (if t139 = true then (some ([] : List (S38))) else ((edit_alike.f k l0 l1).bind fun t140 => (if 0 ≤ t140 then (if t140 ≤ (l0.length : Int) then ((slices_Clone_string_string.f (l0.drop (t140 : Int).toNat)).bind fun t142 => (if t140 ≤ (l1.length : Int) then ((slices_Clone_string_string.f (l1.drop (t140 : Int).toNat)).bind fun t146 => ((slices_Reverse_string_string.f k t142).bind fun t149 => ((slices_Reverse_string_string.f k t146).bind fun t150 => ((edit_alike.f k t149 t150).bind fun t151 => (if t140 ≤ (wrap64 ((l1.length : Int) - t151)) then (if (wrap64 ((l1.length : Int) - t151)) ≤ (l1.length : Int) then ((slices_Clone_string_string.f ((l1.take ((wrap64 ((l1.length : Int) - t151)) : Int).toNat).drop (t140 : Int).toNat)).bind fun t153 => (some (([(⟨t140, wrap64 ((l0.length : Int) - t151), t153⟩ : S38)] : List (S38))))) else (none)) else (none)))))) else (none))) else (none)) else (none))))) = some r := h
 clear h
 replace H := Option.bind_eq_some_iff.mp H
 obtain ⟨t139, A30, H⟩ := H
 replace H : (if t139 = true then (some ([] : List (S38))) else ((edit_alike.f k l0 l1).bind fun t140 => (if 0 ≤ t140 then (if t140 ≤ (l0.length : Int) then ((slices_Clone_string_string.f (l0.drop (t140 : Int).toNat)).bind fun t142 => (if t140 ≤ (l1.length : Int) then ((slices_Clone_string_string.f (l1.drop (t140 : Int).toNat)).bind fun t146 => ((slices_Reverse_string_string.f k t142).bind fun t149 => ((slices_Reverse_string_string.f k t146).bind fun t150 => ((edit_alike.f k t149 t150).bind fun t151 => (if t140 ≤ (wrap64 ((l1.length : Int) - t151)) then (if (wrap64 ((l1.length : Int) - t151)) ≤ (l1.length : Int) then ((slices_Clone_string_string.f ((l1.take ((wrap64 ((l1.length : Int) - t151)) : Int).toNat).drop (t140 : Int).toNat)).bind fun t153 => (some (([(⟨t140, wrap64 ((l0.length : Int) - t151), t153⟩ : S38)] : List (S38))))) else (none)) else (none)))))) else (none))) else (none)) else (none)))) = some r := H
 have A3 := mk0 A30
 clear A30
 by_cases c4 : t139 = true
 ·subst c4
  have H1 : (some ([] : List (S38))) = some r := by rw [if_pos rfl] at H; exact H
  clear H
  have H := H1
  clear H1
  obtain rfl := Option.some.inj H
  go_enter Tryd.func15, Tryd.ntmps15
  go_wp2_with (first | ((with_reducible refine gate_callee (f := 27) rfl ?_); refine goesL_ (some 11) rfl rfl Tryd.func27 (by kernel_rfl) rfl #[.slice A0 l0.length c0, .slice A1 l1.length c1] rfl (by (try simp only [List.map_toArray, List.map_cons, List.map_nil]); first | done | rfl | (simp only [List.length_drop, List.length_take]; rfl)) ?_; (with_reducible refine (slices_Equal_string_string.calls k _ _ l0 _ _ l1 true _ ?side1 ?side2 ?side3 ?side4 A3.out).mono ?_); (case side1 => repeat (first | exact HR0.out | (with_reducible refine Kd.C_alloc ?_ _) | (with_reducible refine Kd.C_drewN ?_ _) | (with_reducible refine Kd.C_drew ?_))); (case side2 => exact HC0.out); (case side3 => repeat (first | exact HR1.out | (with_reducible refine Kd.C_alloc ?_ _) | (with_reducible refine Kd.C_drewN ?_ _) | (with_reducible refine Kd.C_drew ?_))); (case side4 => exact HC1.out); rintro e w' ⟨rfl, ⟨nd, rfl⟩⟩; refine ⟨_, rfl, ?_⟩))
  go_ret
  exact ⟨_, by first | rfl | (simp [errW_none, errW_some] <;> rfl) | (simp [*, errW_none, errW_some] <;> rfl), by first | exact Kd.S_nil _ _ _ _ _ | exact Kd.N_nil _ _ _ _ _ | exact Kd.V_nil _ _ _ _ _ | exact Kd.Q_nil _ _ _ _ _ | exact Kd.R_nil _ _ _ _ _, uL HB.out⟩
 ·replace c4 := Bool.eq_false_iff.mpr c4
  subst c4
  have H1 : ((edit_alike.f k l0 l1).bind fun t140 => (if 0 ≤ t140 then (if t140 ≤ (l0.length : Int) then ((slices_Clone_string_string.f (l0.drop (t140 : Int).toNat)).bind fun t142 => (if t140 ≤ (l1.length : Int) then ((slices_Clone_string_string.f (l1.drop (t140 : Int).toNat)).bind fun t146 => ((slices_Reverse_string_string.f k t142).bind fun t149 => ((slices_Reverse_string_string.f k t146).bind fun t150 => ((edit_alike.f k t149 t150).bind fun t151 => (if t140 ≤ (wrap64 ((l1.length : Int) - t151)) then (if (wrap64 ((l1.length : Int) - t151)) ≤ (l1.length : Int) then ((slices_Clone_string_string.f ((l1.take ((wrap64 ((l1.length : Int) - t151)) : Int).toNat).drop (t140 : Int).toNat)).bind fun t153 => (some (([(⟨t140, wrap64 ((l0.length : Int) - t151), t153⟩ : S38)] : List (S38))))) else (none)) else (none)))))) else (none))) else (none)) else (none))) = some r := by rw [if_neg (show ¬ (false = true) by decide)] at H; exact H
  clear H
  have H := H1
  clear H1
  replace H := Option.bind_eq_some_iff.mp H
  obtain ⟨t140, A50, H⟩ := H
  replace H : (if 0 ≤ t140 then (if t140 ≤ (l0.length : Int) then ((slices_Clone_string_string.f (l0.drop (t140 : Int).toNat)).bind fun t142 => (if t140 ≤ (l1.length : Int) then ((slices_Clone_string_string.f (l1.drop (t140 : Int).toNat)).bind fun t146 => ((slices_Reverse_string_string.f k t142).bind fun t149 => ((slices_Reverse_string_string.f k t146).bind fun t150 => ((edit_alike.f k t149 t150).bind fun t151 => (if t140 ≤ (wrap64 ((l1.length : Int) - t151)) then (if (wrap64 ((l1.length : Int) - t151)) ≤ (l1.length : Int) then ((slices_Clone_string_string.f ((l1.take ((wrap64 ((l1.length : Int) - t151)) : Int).toNat).drop (t140 : Int).toNat)).bind fun t153 => (some (([(⟨t140, wrap64 ((l0.length : Int) - t151), t153⟩ : S38)] : List (S38))))) else (none)) else (none)))))) else (none))) else (none)) else (none)) = some r := H
  have A5 := mk0 A50
  clear A50
  by_cases c6 : 0 ≤ t140
  ·rw [if_pos c6] at H
   have c6b0 := eq_true c6
   have c6b1 : decide (0 ≤ t140) = true := decide_eq_true c6
   clear c6
   by_cases c7 : t140 ≤ (l0.length : Int)
   ·rw [if_pos c7] at H
    have c7b0 := eq_true c7
    have c7b1 : decide (t140 ≤ (l0.length : Int)) = true := decide_eq_true c7
    clear c7
    replace H := Option.bind_eq_some_iff.mp H
    obtain ⟨t142, A80, H⟩ := H
    replace H : (if t140 ≤ (l1.length : Int) then ((slices_Clone_string_string.f (l1.drop (t140 : Int).toNat)).bind fun t146 => ((slices_Reverse_string_string.f k t142).bind fun t149 => ((slices_Reverse_string_string.f k t146).bind fun t150 => ((edit_alike.f k t149 t150).bind fun t151 => (if t140 ≤ (wrap64 ((l1.length : Int) - t151)) then (if (wrap64 ((l1.length : Int) - t151)) ≤ (l1.length : Int) then ((slices_Clone_string_string.f ((l1.take ((wrap64 ((l1.length : Int) - t151)) : Int).toNat).drop (t140 : Int).toNat)).bind fun t153 => (some (([(⟨t140, wrap64 ((l0.length : Int) - t151), t153⟩ : S38)] : List (S38))))) else (none)) else (none)))))) else (none)) = some r := H
    have A8 := mk0 A80
    clear A80
    have c9b0 := eq_true (of_decide_eq_true (by first | (with_reducible assumption) | assumption) : 0 ≤ t140)
    by_cases c10 : t140 ≤ (l1.length : Int)
    ·rw [if_pos c10] at H
     have c10b0 := eq_true c10
     have c10b1 : decide (t140 ≤ (l1.length : Int)) = true := decide_eq_true c10
     clear c10
     replace H := Option.bind_eq_some_iff.mp H
     obtain ⟨t146, A110, H⟩ := H
     replace H : ((slices_Reverse_string_string.f k t142).bind fun t149 => ((slices_Reverse_string_string.f k t146).bind fun t150 => ((edit_alike.f k t149 t150).bind fun t151 => (if t140 ≤ (wrap64 ((l1.length : Int) - t151)) then (if (wrap64 ((l1.length : Int) - t151)) ≤ (l1.length : Int) then ((slices_Clone_string_string.f ((l1.take ((wrap64 ((l1.length : Int) - t151)) : Int).toNat).drop (t140 : Int).toNat)).bind fun t153 => (some (([(⟨t140, wrap64 ((l0.length : Int) - t151), t153⟩ : S38)] : List (S38))))) else (none)) else (none))))) = some r := H
     have A11 := mk0 A110
     clear A110
     replace H := Option.bind_eq_some_iff.mp H
     obtain ⟨t149, A120, H⟩ := H
     replace H : ((slices_Reverse_string_string.f k t146).bind fun t150 => ((edit_alike.f k t149 t150).bind fun t151 => (if t140 ≤ (wrap64 ((l1.length : Int) - t151)) then (if (wrap64 ((l1.length : Int) - t151)) ≤ (l1.length : Int) then ((slices_Clone_string_string.f ((l1.take ((wrap64 ((l1.length : Int) - t151)) : Int).toNat).drop (t140 : Int).toNat)).bind fun t153 => (some (([(⟨t140, wrap64 ((l0.length : Int) - t151), t153⟩ : S38)] : List (S38))))) else (none)) else (none)))) = some r := H
     have A12 := mk0 A120
     clear A120
     replace H := Option.bind_eq_some_iff.mp H
     obtain ⟨t150, A130, H⟩ := H
     replace H : ((edit_alike.f k t149 t150).bind fun t151 => (if t140 ≤ (wrap64 ((l1.length : Int) - t151)) then (if (wrap64 ((l1.length : Int) - t151)) ≤ (l1.length : Int) then ((slices_Clone_string_string.f ((l1.take ((wrap64 ((l1.length : Int) - t151)) : Int).toNat).drop (t140 : Int).toNat)).bind fun t153 => (some (([(⟨t140, wrap64 ((l0.length : Int) - t151), t153⟩ : S38)] : List (S38))))) else (none)) else (none))) = some r := H
     have A13 := mk0 A130
     clear A130
     replace H := Option.bind_eq_some_iff.mp H
     obtain ⟨t151, A140, H⟩ := H
     replace H : (if t140 ≤ (wrap64 ((l1.length : Int) - t151)) then (if (wrap64 ((l1.length : Int) - t151)) ≤ (l1.length : Int) then ((slices_Clone_string_string.f ((l1.take ((wrap64 ((l1.length : Int) - t151)) : Int).toNat).drop (t140 : Int).toNat)).bind fun t153 => (some (([(⟨t140, wrap64 ((l0.length : Int) - t151), t153⟩ : S38)] : List (S38))))) else (none)) else (none)) = some r := H
     have A14 := mk0 A140
     clear A140
     have c15b0 := eq_true (of_decide_eq_true (by first | (with_reducible assumption) | assumption) : 0 ≤ t140)
     by_cases c16 : t140 ≤ (wrap64 ((l1.length : Int) - t151))
     ·rw [if_pos c16] at H
      have c16b0 := eq_true c16
      have c16b1 : decide (t140 ≤ (wrap64 ((l1.length : Int) - t151))) = true := decide_eq_true c16
      clear c16
      by_cases c17 : (wrap64 ((l1.length : Int) - t151)) ≤ (l1.length : Int)
      ·rw [if_pos c17] at H
       have c17b0 := eq_true c17
       have c17b1 : decide ((wrap64 ((l1.length : Int) - t151)) ≤ (l1.length : Int)) = true := decide_eq_true c17
       clear c17
       replace H := Option.bind_eq_some_iff.mp H
       obtain ⟨t153, A180, H⟩ := H
       replace H : (some (([(⟨t140, wrap64 ((l0.length : Int) - t151), t153⟩ : S38)] : List (S38)))) = some r := H
       have A18 := mk0 A180
       clear A180
       obtain ⟨y156, hy156⟩ : ∃ y_ : List (S38), y_ = (([(⟨t140, wrap64 ((l0.length : Int) - t151), t153⟩ : S38)] : List (S38))) := ⟨_, rfl⟩
       replace H : (some y156) = some r := by first | (rw [hy156]; with_reducible exact H) | (have H2_ := (Option.bind_some _ _).symm.trans H; rw [hy156]; with_reducible exact H2_) | (have H2_ := (Option.bind_some _ _).symm.trans H; with_reducible exact H2_) | with_reducible exact H | (rw [hy156]; exact H) | exact H
       have Ny156 := mk0 hy156
       clear hy156
       obtain rfl := Option.some.inj H
       go_enter Tryd.func15, Tryd.ntmps15
       try go_wp2_with (first | ((with_reducible refine gate_callee (f := 27) rfl ?_); refine goesL_ (some 11) rfl rfl Tryd.func27 (by kernel_rfl) rfl #[.slice A0 l0.length c0, .slice A1 l1.length c1] rfl (by (try simp only [List.map_toArray, List.map_cons, List.map_nil]); first | done | rfl | (simp only [List.length_drop, List.length_take]; rfl)) ?_; (with_reducible refine (slices_Equal_string_string.calls k _ _ l0 _ _ l1 false _ ?side1 ?side2 ?side3 ?side4 A3.out).mono ?_); (case side1 => repeat (first | exact HR0.out | (with_reducible refine Kd.C_alloc ?_ _) | (with_reducible refine Kd.C_drewN ?_ _) | (with_reducible refine Kd.C_drew ?_))); (case side2 => exact HC0.out); (case side3 => repeat (first | exact HR1.out | (with_reducible refine Kd.C_alloc ?_ _) | (with_reducible refine Kd.C_drewN ?_ _) | (with_reducible refine Kd.C_drew ?_))); (case side4 => exact HC1.out); rintro e w' ⟨rfl, ⟨nd, rfl⟩⟩; refine ⟨_, rfl, ?_⟩) | ((with_reducible refine gate_callee (f := 28) rfl ?_); refine goesL_ (some 14) rfl rfl Tryd.func28 (by kernel_rfl) rfl #[.slice A0 l0.length c0, .slice A1 l1.length c1] rfl (by (try simp only [List.map_toArray, List.map_cons, List.map_nil]); first | done | rfl | (simp only [List.length_drop, List.length_take]; rfl)) ?_; (with_reducible refine (edit_alike.calls k _ _ l0 _ _ l1 t140 _ ?side1 ?side2 ?side3 ?side4 A5.out).mono ?_); (case side1 => repeat (first | exact HR0.out | (with_reducible refine Kd.C_alloc ?_ _) | (with_reducible refine Kd.C_drewN ?_ _) | (with_reducible refine Kd.C_drew ?_))); (case side2 => exact HC0.out); (case side3 => repeat (first | exact HR1.out | (with_reducible refine Kd.C_alloc ?_ _) | (with_reducible refine Kd.C_drewN ?_ _) | (with_reducible refine Kd.C_drew ?_))); (case side4 => exact HC1.out); rintro e w' ⟨rfl, ⟨nd, rfl⟩⟩; refine ⟨_, rfl, ?_⟩))
       have n0_ := mk0 (below_drew1 HB.out)
       clear HB
       have HB := n0_
       clear n0_
       obtain ⟨i020, hi020, _, hsz20, _⟩ := info_parts info9
       obtain ⟨A20, hcut20, hA20, hC20⟩ := print_drop_of (P := Tryd.prog) Value.string (⟨#[]⟩ : ByteArray) 22 9 .i64 Tryd.underlying22 hi020 hsz20 A0 c0 l0 t140 (of_decide_eq_true (by first | (with_reducible assumption) | assumption)) (of_decide_eq_true (by first | (with_reducible assumption) | assumption)) HC0.out
       have HR141 := mk0 (Kd.C_of_reads (h1 := fun _ => rfl) (hA20 _ (Kd.reads_of_C HR0.out)))
       have HC141 := mk0 hC20
       clear hA20 hC20 hi020 hsz20
       obtain ⟨i021, hi021, _, hsz21, _⟩ := info_parts info9
       obtain ⟨A21, hcut21, hA21, hC21⟩ := print_drop_of (P := Tryd.prog) Value.string (⟨#[]⟩ : ByteArray) 22 9 .i64 Tryd.underlying22 hi021 hsz21 A1 c1 l1 t140 (of_decide_eq_true (by first | (with_reducible assumption) | assumption)) (of_decide_eq_true (by first | (with_reducible assumption) | assumption)) HC1.out
       have HR145 := mk0 (Kd.C_of_reads (h1 := fun _ => rfl) (hA21 _ (Kd.reads_of_C HR1.out)))
       have HC145 := mk0 hC21
       clear hA21 hC21 hi021 hsz21
       refine start_ (n := 10) (S := fun w' => True) (ds := []) #[false, false, false, false, false, false, false, false, false, false] (by kernel_rfl) rfl rfl trivial (fun hHeld => ?_); refine with_tabW edit_Diff.tab4 edit_Diff.bits4 (fun HT_ HW_ => ?_)
       first | (rw [drewN_self w]; generalize hq_ : (World.drewN w _).drew = w19; have n0_ : Aside0 (Below w.heap.size w w19) := ⟨by rw [← hq_]; exact below_drew1 (pw_below_drewN (Below.refl _ _) _)⟩; clear HB hq_; have HB := n0_; clear n0_) | generalize w.drew = w19 at HB HR141 HR145 hHeld ⊢
       refine pure_ (i := 0) (N := some 15) (v := ?_) (a' := ?_) #[true, false, false, false, false, false, false, false, false, false] rfl rfl (any_of HT_.out (by kernel_rfl)) (fun _ _ _ h => h) (Or.inl ⟨by rfl, ?_⟩) ?_ ?_
       rotate_left
       ·intro w'
        go_simp
        with_reducible rfl
       rotate_left
       ·simp only [Act.put, List.setIfInBounds_toArray, List.set_cons_zero, List.set_cons_succ, i64_w, i32_w]
        rfl
       refine pure_ (i := 1) (N := some 16) (v := ?_) (a' := ?_) #[true, true, false, false, false, false, false, false, false, false] rfl rfl (any_of HT_.out (by kernel_rfl)) (fun _ _ _ h => h) (Or.inl ⟨by rfl, ?_⟩) ?_ ?_
       rotate_left
       ·intro w'
        go_simp
        with_reducible rfl
       rotate_left
       ·simp only [Act.put, List.setIfInBounds_toArray, List.set_cons_zero, List.set_cons_succ, i64_w, i32_w]
        rfl
       refine pure_ (i := 2) (N := some 17) (v := ?_) (a' := ?_) #[true, true, true, false, false, false, false, false, false, false] rfl rfl (any_of HT_.out (by kernel_rfl)) (fun _ _ _ h => h) (Or.inl ⟨by rfl, ?_⟩) ?_ ?_
       rotate_left
       ·intro w'
        go_simp
        with_reducible rfl
       rotate_left
       ·simp only [Act.put, List.setIfInBounds_toArray, List.set_cons_zero, List.set_cons_succ, i64_w, i32_w]
        rfl
       refine pure_ (i := 4) (N := some 19) (v := ?_) (a' := ?_) #[true, true, true, false, true, false, false, false, false, false] rfl rfl (any_of HT_.out (by kernel_rfl)) (fun _ _ _ h => h) (Or.inl ⟨by rfl, ?_⟩) ?_ ?_
       rotate_left
       ·intro w'
        go_simp
        with_reducible rfl
       rotate_left
       ·simp only [Act.put, List.setIfInBounds_toArray, List.set_cons_zero, List.set_cons_succ, i64_w, i32_w]
        rfl
       refine pure_ (i := 5) (N := some 20) (v := ?_) (a' := ?_) #[true, true, true, false, true, true, false, false, false, false] rfl rfl (any_of HT_.out (by kernel_rfl)) (fun _ _ _ h => h) (Or.inl ⟨by rfl, ?_⟩) ?_ ?_
       rotate_left
       ·intro w'
        go_simp
        with_reducible rfl
       rotate_left
       ·simp only [Act.put, List.setIfInBounds_toArray, List.set_cons_zero, List.set_cons_succ, i64_w, i32_w]
        rfl
       refine pure_ (i := 6) (N := some 21) (v := ?_) (a' := ?_) #[true, true, true, false, true, true, true, false, false, false] rfl rfl (any_of HT_.out (by kernel_rfl)) (fun _ _ _ h => h) (Or.inl ⟨by rfl, ?_⟩) ?_ ?_
       rotate_left
       ·intro w'
        go_simp
        with_reducible rfl
       rotate_left
       ·simp only [Act.put, List.setIfInBounds_toArray, List.set_cons_zero, List.set_cons_succ, i64_w, i32_w]
        rfl
       refine one_ (i := 3) (N := some 18) #[true, true, true, true, true, true, true, false, false, false] rfl rfl (one_of HT_.out (by kernel_rfl)) (by decide) (fun K hK => ?_)
       refine goes_ Tryd.func26 (by kernel_rfl) rfl #[.slice A20 (l0.drop (t140 : Int).toNat).length (c0 - t140.toNat)] (by rfl) rfl rfl (by (try simp only [List.map_toArray, List.map_cons, List.map_nil]); first | done | (rw [show (l0.drop (t140 : Int).toNat).length = (l0.length - t140.toNat) from List.length_drop] <;> rfl) | rfl | (simp only [List.length_drop, List.length_take]; rfl)) ?_
       with_reducible refine (slices_Clone_string_string.calls _ _ (l0.drop (t140 : Int).toNat) t142 _ ?side1 ?side2 A8.out).mono ?_
       (case side1 => repeat (first | exact (Kd.C_below HR141.out HB.out) | (with_reducible refine Kd.C_alloc ?_ _) | (with_reducible refine Kd.C_drewN ?_ _) | (with_reducible refine Kd.C_drew ?_)))
       (case side2 => exact HC141.out)
       rintro e w22 ⟨v143, rfl, ho0, hb⟩
       refine ⟨_, rfl, ?_⟩
       have n0_ := mk0 (Kd.R_lower (Kd.R_newM (M := fun k_ => (w.heap.size ≤ k_)) ho0 (below_size (uL HB.out)) (fun k_ h_ => h_)) (below_size (uL HB.out)))
       have n1_ := mk0 (below_step (uL HB.out) hb)
       clear HB
       have HO144 := n0_
       have HB := n1_
       clear n0_ n1_
       (try clear hb)
       (try clear hb2)
       (try clear hk)
       (try clear hi)
       (try clear ho0)
       refine hK.out _ _ trivial (fun hHeld => ?_)
       clear hK K
       refine norm_ (a' := ?_) ?_ ?_
       rotate_left
       ·show Act.put _ (some 18) _ = _
        simp only [Act.put, List.setIfInBounds_toArray, List.set_cons_zero, List.set_cons_succ, i64_w, i32_w]
        rfl
       refine one_ (i := 7) (N := some 22) #[true, true, true, true, true, true, true, true, false, false] rfl rfl (one_of HT_.out (by kernel_rfl)) (by decide) (fun K hK => ?_)
       refine goes_ Tryd.func26 (by kernel_rfl) rfl #[.slice A21 (l1.drop (t140 : Int).toNat).length (c1 - t140.toNat)] (by rfl) rfl rfl (by (try simp only [List.map_toArray, List.map_cons, List.map_nil]); first | done | (rw [show (l1.drop (t140 : Int).toNat).length = (l1.length - t140.toNat) from List.length_drop] <;> rfl) | rfl | (simp only [List.length_drop, List.length_take]; rfl)) ?_
       with_reducible refine (slices_Clone_string_string.calls _ _ (l1.drop (t140 : Int).toNat) t146 _ ?side1 ?side2 A11.out).mono ?_
       (case side1 => repeat (first | exact (Kd.C_below HR145.out HB.out) | (with_reducible refine Kd.C_alloc ?_ _) | (with_reducible refine Kd.C_drewN ?_ _) | (with_reducible refine Kd.C_drew ?_)))
       (case side2 => exact HC145.out)
       rintro e w23 ⟨v147, rfl, ho0, hb⟩
       refine ⟨_, rfl, ?_⟩
       have n0_ := mk0 (Kd.R_elder' (uR HO144.out) (Kd.R_base ho0) hb)
       have n1_ := mk0 (Kd.R_lower (Kd.R_new' (Kd.R_newM (M := fun k_ => (w.heap.size ≤ k_)) ho0 (below_size (uL HB.out)) (fun k_ h_ => h_)) (Kd.R_lt (uR HO144.out))) (below_size (uL HB.out)))
       have n2_ := mk0 (below_step (uL HB.out) hb)
       clear HO144
       clear HB
       have HO144 := n0_
       have HO148 := n1_
       have HB := n2_
       clear n0_ n1_ n2_
       (try clear hb)
       (try clear hb2)
       (try clear hk)
       (try clear hi)
       (try clear ho0)
       refine hK.out _ _ trivial (fun hHeld => ?_)
       clear hK K
       refine norm_ (a' := ?_) ?_ ?_
       rotate_left
       ·show Act.put _ (some 22) _ = _
        simp only [Act.put, List.setIfInBounds_toArray, List.set_cons_zero, List.set_cons_succ, i64_w, i32_w]
        rfl
       refine pure_ (i := 8) (N := some 6) (v := ?_) (a' := ?_) #[true, true, true, true, true, true, true, true, true, false] rfl rfl (any_of HT_.out (by kernel_rfl)) (fun _ _ _ h => h) (Or.inl ⟨by rfl, ?_⟩) ?_ ?_
       rotate_left
       ·intro w'
        go_simp
        with_reducible rfl
       rotate_left
       ·simp only [Act.put, List.setIfInBounds_toArray, List.set_cons_zero, List.set_cons_succ, i64_w, i32_w]
        rfl
       refine pure_ (i := 9) (N := some 7) (v := ?_) (a' := ?_) #[true, true, true, true, true, true, true, true, true, true] rfl rfl (any_of HT_.out (by kernel_rfl)) (fun _ _ _ h => h) (Or.inl ⟨by rfl, ?_⟩) ?_ ?_
       rotate_left
       ·intro w'
        go_simp
        with_reducible rfl
       rotate_left
       ·simp only [Act.put, List.setIfInBounds_toArray, List.set_cons_zero, List.set_cons_succ, i64_w, i32_w]
        rfl
       refine done_ (done_of HT_.out (by kernel_rfl)) ?_
       obtain ⟨Ao24, co24, eo24⟩ := Kd.R_slice HO144.out
       subst eo24
       try go_wp2_with (first | ((with_reducible refine gate_callee (f := 29) rfl ?_); refine goesL_ (some 24) rfl rfl Tryd.func29 (by kernel_rfl) rfl #[.slice Ao24 t142.length co24] rfl (by (try simp only [List.map_toArray, List.map_cons, List.map_nil]); first | done | rfl | (simp only [List.length_drop, List.length_take]; rfl)) ?_; (with_reducible refine (slices_Reverse_string_string.calls k (fun k_ => some k_ = (.slice Ao24 t142.length co24 : Value).ownBlock) (.slice Ao24 t142.length co24) t142 t149 w _ ?side1 ?side2 A12.out).mono ?_); (case side1 => repeat (first | (with_reducible first | exact HB.out | apply below_alloc | apply pw_below_drewN | apply below_drew1) | exact HB.out)); (case side2 => exact Kd.R_tight rfl HO144.out); rintro e w25 ⟨rfl, hy0, hb, hkp⟩; refine ⟨_, rfl, ?_⟩; have n0_ := mk0 (Kd.R_reok rfl hy0 (fun k_ e_ => HO144.out.1 k_ e_)); have n1_ := mk0 (Kd.R_mono (ok' := fun k_ => (w.heap.size ≤ k_) ∧ some k_ ≠ (.slice Ao24 t142.length co24 : Value).ownBlock) (Kd.R_keptB (HO148.out) hkp (fun k_ hk_ hs_ => (hk_.2) hs_)) (fun k_ hk_ => ⟨hk_.1.1.1, hk_.1.2⟩)); have n2_ := mk0 (hb); clear HO144; clear HO148; clear HB; have HO144 := n0_; have HO148 := n1_; have HB := n2_; clear n0_ n1_ n2_; (try clear hb); (try clear hkp); (try clear hy0); obtain ⟨Ao26, co26, eo26⟩ := Kd.R_slice HO148.out; subst eo26) | ((with_reducible refine gate_callee (f := 29) rfl ?_); refine goesL_ (some 26) rfl rfl Tryd.func29 (by kernel_rfl) rfl #[.slice Ao26 t146.length co26] rfl (by (try simp only [List.map_toArray, List.map_cons, List.map_nil]); first | done | rfl | (simp only [List.length_drop, List.length_take]; rfl)) ?_; (with_reducible refine (slices_Reverse_string_string.calls k (fun k_ => some k_ = (.slice Ao26 t146.length co26 : Value).ownBlock) (.slice Ao26 t146.length co26) t146 t150 w _ ?side1 ?side2 A13.out).mono ?_); (case side1 => repeat (first | (with_reducible first | exact HB.out | apply below_alloc | apply pw_below_drewN | apply below_drew1) | exact HB.out)); (case side2 => exact Kd.R_tight rfl HO148.out); rintro e w27 ⟨rfl, hy0, hb, hkp⟩; refine ⟨_, rfl, ?_⟩; have n0_ := mk0 (Kd.R_mono (ok' := fun k_ => (w.heap.size ≤ k_) ∧ some k_ ≠ (.slice Ao26 t146.length co26 : Value).ownBlock) (Kd.R_keptB (HO144.out) hkp (fun k_ hk_ hs_ => (hk_.2) hs_)) (fun k_ hk_ => ⟨hk_.1.1.1, hk_.1.2⟩)); have n1_ := mk0 (Kd.R_reok rfl hy0 (fun k_ e_ => HO148.out.1 k_ e_)); have n2_ := mk0 (hb); clear HO144; clear HO148; clear HB; have HO144 := n0_; have HO148 := n1_; have HB := n2_; clear n0_ n1_ n2_; (try clear hb); (try clear hkp); (try clear hy0)) | ((with_reducible refine gate_callee (f := 28) rfl ?_); refine goesL_ (some 29) rfl rfl Tryd.func28 (by kernel_rfl) rfl #[.slice Ao24 t149.length co24, .slice Ao26 t150.length co26] rfl (by (try simp only [List.map_toArray, List.map_cons, List.map_nil]); first | done | (rw [show t149.length = t142.length from (Kd.R_reads' HO144.out).1.symm, show t150.length = t146.length from (Kd.R_reads' HO148.out).1.symm] <;> rfl) | rfl | (simp only [List.length_drop, List.length_take]; rfl)) ?_; (with_reducible refine (edit_alike.calls k _ _ t149 _ _ t150 t151 _ ?side1 ?side2 ?side3 ?side4 A14.out).mono ?_); (case side1 => repeat (first | exact (Kd.R_reads' HO144.out).2.2 | (with_reducible refine Kd.C_alloc ?_ _) | (with_reducible refine Kd.C_drewN ?_ _) | (with_reducible refine Kd.C_drew ?_))); (case side2 => rw [show t149.length = t142.length from (Kd.R_reads' HO144.out).1.symm]; exact (Kd.R_reads' HO144.out).2.1); (case side3 => repeat (first | exact (Kd.R_reads' HO148.out).2.2 | (with_reducible refine Kd.C_alloc ?_ _) | (with_reducible refine Kd.C_drewN ?_ _) | (with_reducible refine Kd.C_drew ?_))); (case side4 => rw [show t150.length = t146.length from (Kd.R_reads' HO148.out).1.symm]; exact (Kd.R_reads' HO148.out).2.1); rintro e w' ⟨rfl, ⟨nd, rfl⟩⟩; refine ⟨_, rfl, ?_⟩; obtain ⟨i028, hi028, _, hsz28, _⟩ := info_parts info9; obtain ⟨A28, hcut28, hA28, hC28⟩ := print_mid_of (P := Tryd.prog) Value.string (⟨#[]⟩ : ByteArray) 22 9 .i64 .i64 Tryd.underlying22 hi028 hsz28 A1 c1 l1 t140 (wrap64 ((l1.length : Int) - t151)) (of_decide_eq_true (by first | (with_reducible assumption) | assumption)) (by first | omega | exact of_decide_eq_true (by first | (with_reducible assumption) | assumption)) (of_decide_eq_true (by first | (with_reducible assumption) | assumption)) HC1.out; have HR152 := mk0 (Kd.C_of_reads (h1 := fun _ => rfl) (hA28 _ (Kd.reads_of_C HR1.out))); have HC152 := mk0 hC28; clear hA28 hC28 hi028 hsz28) | ((with_reducible refine gate_callee (f := 26) rfl ?_); refine goesL_ (some 42) rfl rfl Tryd.func26 (by kernel_rfl) rfl #[.slice A28 ((l1.take ((wrap64 ((l1.length : Int) - t151)) : Int).toNat).drop (t140 : Int).toNat).length (c1 - t140.toNat)] rfl (by (try simp only [List.map_toArray, List.map_cons, List.map_nil]); first | done | (rw [show ((l1.take ((wrap64 ((l1.length : Int) - t151)) : Int).toNat).drop (t140 : Int).toNat).length = ((wrap64 ((l1.length : Int) - t151)).toNat - t140.toNat) from (by rw [List.length_drop, List.length_take]; have h_ : ((wrap64 ((l1.length : Int) - t151)) : Int) ≤ (l1.length : Int) := of_decide_eq_true (by first | (with_reducible assumption) | assumption); omega)] <;> rfl) | rfl | (simp only [List.length_drop, List.length_take]; rfl)) ?_; (with_reducible refine (slices_Clone_string_string.calls _ _ ((l1.take ((wrap64 ((l1.length : Int) - t151)) : Int).toNat).drop (t140 : Int).toNat) t153 _ ?side1 ?side2 A18.out).mono ?_); (case side1 => repeat (first | exact (Kd.C_below HR152.out (uL HB.out)) | (with_reducible refine Kd.C_alloc ?_ _) | (with_reducible refine Kd.C_drewN ?_ _) | (with_reducible refine Kd.C_drew ?_))); (case side2 => exact HC152.out); rintro e w29 ⟨v154, rfl, ho0, hb⟩; refine ⟨_, rfl, ?_⟩; have n0_ := mk0 (Kd.R_elder' (uR HO144.out) (Kd.R_base ho0) hb); have n1_ := mk0 (Kd.R_elder' (uR HO148.out) (Kd.R_base ho0) hb); have n2_ := mk0 (Kd.R_lower (Kd.R_new' (Kd.R_new' (Kd.R_newM (M := fun k_ => (w.heap.size ≤ k_)) ho0 (below_size (uL HB.out)) (fun k_ h_ => h_)) (Kd.R_lt (uR HO144.out))) (Kd.R_lt (uR HO148.out))) (below_size (uL HB.out))); have n3_ := mk0 (below_step (uL HB.out) hb); clear HO144; clear HO148; clear HB; have HO144 := n0_; have HO148 := n1_; have HO155 := n2_; have HB := n3_; clear n0_ n1_ n2_ n3_; (try clear hb); (try clear hb2); (try clear hk); (try clear hi); (try clear ho0); obtain ⟨Ao30, co30, eo30⟩ := Kd.R_slice HO155.out; subst eo30) | ((with_reducible refine gate_dst (N := 44) rfl ?_); refine Kd.N_lit k38 _ 38 ?hg (N' := 44) ?hd (xs := ([(⟨t140, wrap64 ((l0.length : Int) - t151), t153⟩ : S38)] : List (S38))) (inner := [.int .i64 t140, .int .i64 (wrap64 ((l0.length : Int) - t151)), .slice Ao30 t153.length co30]) (ok := (fun k_ => (w.heap.size ≤ k_) ∧ some k_ ≠ (.slice Ao24 t142.length co24 : Value).ownBlock ∧ some k_ ≠ (.slice Ao26 t146.length co26 : Value).ownBlock)) (okp := (fun k_ => (w.heap.size ≤ k_) ∧ some k_ ≠ (.slice Ao24 t142.length co24 : Value).ownBlock ∧ some k_ ≠ (.slice Ao26 t146.length co26 : Value).ownBlock)) ?hr ?hp (fun _ hk => hk) ((show ∀ k_, w29.heap.size ≤ k_ → (fun k_ => (w.heap.size ≤ k_) ∧ some k_ ≠ (.slice Ao24 t142.length co24 : Value).ownBlock ∧ some k_ ≠ (.slice Ao26 t146.length co26 : Value).ownBlock) k_ from fun k_ hk => ⟨(Nat.le_trans (below_size (uL HB.out)) hk), Kd.fresh' (Kd.R_lt (uR HO144.out)) k_ hk, Kd.fresh' (Kd.R_lt (uR HO148.out)) k_ hk⟩) _ (Nat.le_refl _)) (Below.refl _ _) (Nat.le_refl _) (by simp) ?_; (case hd => rfl); (case hg => rfl); (case hr => first | (go_simp; done) | (go_simp; rfl)); (case hp => exact (Reps.c3 (show Kd.FK k38 _ _ (⟨t140, wrap64 ((l0.length : Int) - t151), t153⟩ : S38) [.int .i64 t140, .int .i64 (wrap64 ((l0.length : Int) - t151)), .slice Ao30 t153.length co30] from (k38_mkF _ _ (⟨t140, wrap64 ((l0.length : Int) - t151), t153⟩ : S38) (Kd.R_reads' (Kd.R_mono (ok' := (fun k_ => (w.heap.size ≤ k_) ∧ some k_ ≠ (.slice Ao24 t142.length co24 : Value).ownBlock ∧ some k_ ≠ (.slice Ao26 t146.length co26 : Value).ownBlock)) (HO155.out) (fun k_ hk => ⟨hk.1.1.1, ⟨hk.1.2, hk.2⟩⟩))).2.1 (Kd.R_F (Kd.R_mono (ok' := (fun k_ => (w.heap.size ≤ k_) ∧ some k_ ≠ (.slice Ao24 t142.length co24 : Value).ownBlock ∧ some k_ ≠ (.slice Ao26 t146.length co26 : Value).ownBlock)) (HO155.out) (fun k_ hk => ⟨hk.1.1.1, ⟨hk.1.2, hk.2⟩⟩))))) (Reps.none _ _))); intro v157 w31 ho32 hb hg_ hnew_; clear hg_ hnew_; (first | rw [← Ny156.out] at ho32 | (simp only [Int.reduceToNat] at ho32; rw [← Ny156.out] at ho32)); have n0_ := mk0 (Kd.R_below (uR HO144.out) hb); have n1_ := mk0 (Kd.R_below (uR HO148.out) hb); have n2_ := mk0 (Kd.N_lower ho32 (below_size (uL HB.out))); have n3_ := mk0 (below_step (uL HB.out) hb); clear HO144; clear HO148; clear HB; clear HO155; have HO144 := n0_; have HO148 := n1_; have HO158 := n2_; have HB := n3_; clear n0_ n1_ n2_ n3_; clear hb ho32))
       go_ret
       exact ⟨_, by first | rfl | (simp [errW_none, errW_some] <;> rfl) | (simp [*, errW_none, errW_some] <;> rfl), uN (Kd.N_mono HO158.out (fun _ hk => hk.1)), uL HB.out⟩
      ·rw [if_neg c17] at H
       exact absurd H (by simp)
     ·rw [if_neg c16] at H
      exact absurd H (by simp)
    ·rw [if_neg c10] at H
     exact absurd H (by simp)
   ·rw [if_neg c7] at H
    exact absurd H (by simp)
  ·rw [if_neg c6] at H
   exact absurd H (by simp)

/-! ### furrowlaw3_tells: function 24 -/
def furrowlaw3_tells.f (l0 : List (Flt)) : Option (Bool) := (furrowref4_At.f (⟨#[101, 100, 105, 116]⟩ : ByteArray) 1 7).bind fun bt432 => ((furrowlaw2_Tells.f l0 bt432.1 bt432.2).bind fun t436 => (some t436))
set_option maxHeartbeats 8000000 in
set_option maxRecDepth 100000 in
theorem furrowlaw3_tells.calls (A0 : Option Addr) (c0 : Nat) (l0 : List (Flt)) (r : Bool) (w : World) (hr0 : Kd.C fltK w A0 l0.length l0) (hc0 : l0.length ≤ c0) (hG : Glob w) (h : furrowlaw3_tells.f l0 = some r) :
  Calls Tryd.prog 24 #[errV (.slice A0 l0.length c0)] w fun e w' => e = .returned (.bool r) ∧ Below w.heap.size w w' := by
 have HR0 := mk0 hr0
 have HC0 := mk0 hc0
 clear hr0 hc0
 have HG := mk0 hG
 clear hG
 have HB := mk0 (Below.refl w.heap.size w)
 have H : ((furrowref4_At.f (⟨#[101, 100, 105, 116]⟩ : ByteArray) 1 7).bind fun bt432 => ((furrowlaw2_Tells.f l0 bt432.1 bt432.2).bind fun t436 => (some t436))) = some r := h
 clear h
 replace H := Option.bind_eq_some_iff.mp H
 obtain ⟨⟨t432, t435⟩, A20, H⟩ := H
 replace H : ((furrowlaw2_Tells.f l0 t432 t435).bind fun t436 => (some t436)) = some r := H
 have A2 := mk0 A20
 clear A20
 replace H := Option.bind_eq_some_iff.mp H
 obtain ⟨t436, A30, H⟩ := H
 replace H : (some t436) = some r := H
 have A3 := mk0 A30
 clear A30
 obtain rfl := Option.some.inj H
 go_enter Tryd.func24, Tryd.ntmps24
 go_wp2_with (first | ((with_reducible refine gate_callee (f := 30) rfl ?_); refine goesL_ (some 4) rfl rfl Tryd.func30 (by kernel_rfl) rfl #[.string (⟨#[101, 100, 105, 116]⟩ : ByteArray), .int .i64 1, .int .i64 7] rfl (by (try simp only [List.map_toArray, List.map_cons, List.map_nil]); first | done | rfl | (simp only [List.length_drop, List.length_take]; rfl)) ?_; (with_reducible refine (furrowref4_At.calls (⟨#[101, 100, 105, 116]⟩ : ByteArray) 1 7 t432 t435 _ A2.out).mono ?_); rintro e w4 ⟨v433, rfl, ho0, hb⟩; refine ⟨_, rfl, ?_⟩; have n0_ := mk0 (Kd.R_lower ho0 (below_size (uL HB.out))); have n1_ := mk0 (below_step (uL HB.out) hb); clear HB; have HO434 := n0_; have HB := n1_; clear n0_ n1_; (try clear hb); (try clear hb2); (try clear hk); (try clear hi); (try clear ho0); obtain ⟨Ao5, co5, eo5⟩ := Kd.R_slice HO434.out; subst eo5) | ((with_reducible refine gate_callee (f := 22) rfl ?_); refine goesL_ (some 5) rfl rfl Tryd.func22 (by kernel_rfl) rfl #[errV (.slice A0 l0.length c0), .agg #[.slice Ao5 t432.length co5, .int .i64 t435]] rfl (by (try simp only [List.map_toArray, List.map_cons, List.map_nil]); first | done | rfl | (simp only [List.length_drop, List.length_take]; rfl)) ?_; (with_reducible refine (furrowlaw2_Tells.calls _ _ l0 _ _ t432 t435 t436 _ ?side1 ?side2 ?side3 ?side4 ?side5 A3.out).mono ?_); (case side1 => repeat (first | exact (Kd.C_below HR0.out HB.out) | (with_reducible refine Kd.C_alloc ?_ _) | (with_reducible refine Kd.C_drewN ?_ _) | (with_reducible refine Kd.C_drew ?_))); (case side2 => exact HC0.out); (case side3 => repeat (first | exact (Kd.R_reads' HO434.out).2.2 | (with_reducible refine Kd.C_alloc ?_ _) | (with_reducible refine Kd.C_drewN ?_ _) | (with_reducible refine Kd.C_drew ?_))); (case side4 => exact (Kd.R_reads' HO434.out).2.1); (case side5 => exact Glob.below HG.out (uL HB.out)); rintro e w6 ⟨rfl, hb⟩; refine ⟨_, rfl, ?_⟩; have n0_ := mk0 (Kd.R_below (uR HO434.out) hb); have n1_ := mk0 (below_step (uL HB.out) hb); clear HO434; clear HB; have HO434 := n0_; have HB := n1_; clear n0_ n1_; (try clear hb); (try clear hb2); (try clear hk); (try clear hi)))
 go_ret
 exact ⟨by first | rfl | (simp [errW_none, errW_some] <;> rfl) | (simp [*, errW_none, errW_some] <;> rfl), uL HB.out⟩

end Go.Proofs.YteeeoblpfepepaaDoor.X
