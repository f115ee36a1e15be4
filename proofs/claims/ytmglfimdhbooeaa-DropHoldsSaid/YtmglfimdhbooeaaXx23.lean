-- PRINTED by print.py (a twelfth state) out of the translation. Not trusted: Lean checks it.
import Derived.Test.YtmglfimdhbooeaaXx0
import Derived.Test.YtmglfimdhbooeaaHandI2
namespace Go.Proofs.Ytmglfimdhbooeaa.X
open Go.Proofs.Ytmglfimdhbooeaa.Flt Go.Proofs.Ytmglfimdhbooeaa.H Go.RowKit Go.Proofs.YtmglfimdhbooeaaW.PrintWords Go.Proofs.YtmglfimdhbooeaaW.PrintLast Go.Proofs.YtmglfimdhbooeaaW.PrintMore
attribute [local go_sem] max2_int min2_int max_two min_two max_three min_three max_four min_four   -- for this text's walks alone
set_option linter.unusedVariables false
set_option linter.unusedSimpArgs false

/-! ### fm_large: function 38 -/
def fm_large.f (k : Nat) (l0_0 : List Int) (a0_1 : Int) : Option (Bool) := (some (([a0_1] : List Int) : List Int)).bind fun y110 => (if y110.length + l0_0.length < 17592186044416 then ((slices_ContainsFunc_int64_int64.f k (y110 ++ l0_0)).bind fun t116 => (some t116)) else (none))
theorem fm_large.mono : ∀ a0 a1 k, LeO (fm_large.f k a0 a1) (fm_large.f (k + 1) a0 a1) := by
 intro a0 a1 k
 unfold fm_large.f
 repeat' first
   | (with_reducible exact slices_ContainsFunc_int64_int64.mono _ _)
   | (with_reducible exact LeO.refl _)
   | (with_reducible exact LeO.none _)
   | (with_reducible refine LeO.ite ?_ ?_)
   | (with_reducible refine LeO.bind ?_ (fun _ => ?_))
   | exact slices_ContainsFunc_int64_int64.mono _ _
   | exact LeO.none _
   | refine LeO.ite ?_ ?_
   | refine LeO.bind ?_ (fun _ => ?_)
set_option maxHeartbeats 8000000 in
set_option maxRecDepth 100000 in
theorem fm_large.calls (k : Nat) (A0_0 : Option Addr) (c0_0 : Nat) (l0_0 : List Int) (a0_1 : Int) (r : Bool) (w : World) (hr0_0 : Kd.C (Kd.int .i64) w A0_0 l0_0.length l0_0) (hc0_0 : l0_0.length ≤ c0_0) (h : fm_large.f k l0_0 a0_1 = some r) :
  Calls Try.prog 38 #[.agg #[.slice A0_0 l0_0.length c0_0, .int .i64 a0_1]] w fun e w' => e = .returned (.bool r) ∧ Below w.heap.size w w' := by
 have hu45 := Try.underlying45
 have HR0_0 := mk0 hr0_0
 have HC0_0 := mk0 hc0_0
 clear hr0_0 hc0_0
 have HB := mk0 (Below.refl w.heap.size w)
 have H : ((some (([a0_1] : List Int) : List Int)).bind fun y110 => (if y110.length + l0_0.length < 17592186044416 then ((slices_ContainsFunc_int64_int64.f k (y110 ++ l0_0)).bind fun t116 => (some t116)) else (none))) = some r := h
 clear h
 obtain ⟨y110, hy110⟩ : ∃ y_ : List Int, y_ = (([a0_1] : List Int)) := ⟨_, rfl⟩
 replace H : (if y110.length + l0_0.length < 17592186044416 then ((slices_ContainsFunc_int64_int64.f k (y110 ++ l0_0)).bind fun t116 => (some t116)) else (none)) = some r := by first | (rw [hy110]; with_reducible exact H) | (have H2_ := (Option.bind_some _ _).symm.trans H; rw [hy110]; with_reducible exact H2_) | (have H2_ := (Option.bind_some _ _).symm.trans H; with_reducible exact H2_) | with_reducible exact H | (rw [hy110]; exact H) | exact H
 have Ny110 := mk0 hy110
 clear hy110
 by_cases c2 : y110.length + l0_0.length < 17592186044416
 ·rw [if_pos c2] at H
  have LMc2 := mk0 c2; clear c2; obtain ⟨y113, hy113⟩ : ∃ y_ : List Int, y_ = (y110 ++ l0_0) := ⟨_, rfl⟩; (replace H : ((slices_ContainsFunc_int64_int64.f k y113).bind fun t116 => (some t116)) = some r := by first | (rw [hy113]; with_reducible exact H) | (have H2_ := (Option.bind_some _ _).symm.trans H; rw [hy113]; with_reducible exact H2_) | (have H2_ := (Option.bind_some _ _).symm.trans H; with_reducible exact H2_) | with_reducible exact H | (rw [hy113]; exact H) | exact H); have Ny113 := mk0 hy113; clear hy113; replace H := Option.bind_eq_some_iff.mp H; obtain ⟨t116, A30, H⟩ := H; have A3 := mk0 A30; clear A30; obtain rfl := Option.some.inj H; go_enter Try.func38, Try.ntmps38
  go_wp2_with (first | ((with_reducible refine gate_dst (N := 1) rfl ?_); refine bxE 1 #[.slice A0_0 l0_0.length c0_0, .int .i64 a0_1] 45 ?_; intro gb109 hg w4 hbox hb; have BK109 := mk0 (hbox); have GW109 := gE (uL HB.out) hg; have GE109 := gE (uL HB.out) hg; replace HB := hbB (uL HB.out) hb; clear hb hbox hg; obtain ⟨hcz5_0, hcz5_1, hfz5_0, hfz5_1⟩ := cL2 BK109) | ((with_reducible refine gate_dst (N := 5) rfl ?_); refine Kd.R_lit (Kd.int .i64) _ 2 ?hg (N := 5) ?hd (xs := ([a0_1] : List Int)) (inner := [.int .i64 a0_1]) (ok := fun _ => True) (okp := fun _ => True) ?hr ?hp (fun _ hk => hk) trivial (Below.refl _ _) (Nat.le_refl _) (by simp) ?_; (case hd => rfl); (case hg => rfl); (case hr => first | (go_simp; done) | (go_simp; rfl)); (case hp => exact (Reps.one (show Kd.M (Kd.int .i64) _ _ _ a0_1 [.int .i64 a0_1] from rfl) (Reps.none _ _))); intro v111 w6 ho7 hb hg_ hnew_; clear hg_ hnew_; (first | rw [← Ny110.out] at ho7 | (simp only [Int.reduceToNat] at ho7; rw [← Ny110.out] at ho7)); have HO112 := mk0 (Kd.R_lower ho7 (below_size bH)); replace BK109 := bB BK109 hb; replace HB := hbB bH hb; clear hb ho7; obtain ⟨hcz8_0, hcz8_1, hfz8_0, hfz8_1⟩ := cL2 BK109) | ((with_reducible refine gate_builtin (b := .append) (xs := #[.tmp 5, .tmp 7]) rfl ?_); at_builtin; refine Kd.R_append_rows (Kd.int .i64) (w0 := w) w.heap.size rfl (.tmp 5) (.tmp 7) 41 2 (.int .i64 0) 8 rfl Try.underlying41 info2 rfl (by decide) (by omega) v111 y110 l0_0 _ _ _ (fun _ => True) (fun _ => False) rfl rfl ?aO ?aR (fun _ _ h => h) (fun _ h => h.elim) ?aF ?aB ?aS ?aL ?_; (case aR => exact uC (Kd.C_below HR0_0.out HB.out)); (case aB => exact bH); (case aF => exact (fun _ _ => trivial)); (case aO => exact (uR HO112.out)); (case aS => exact (below_size bH)); (case aL => have := LMc2.out; omega); intro v114 w9 ho hb hg hat; rw [← Ny113.out] at ho; have n0_ := (gB BK109 hg (Kd.R_ne HO112.out BK109.out (by decide))); have n1_ := mk0 (hb); have n2_ := mk0 (ho); clear BK109; clear HB; clear HO112; have BK109 := n0_; have HB := n1_; have HO115 := n2_; clear n0_ n1_ n2_; clear ho hb hg hat; obtain ⟨Ao10, co10, eo10⟩ := Kd.R_slice HO115.out; subst eo10) | ((with_reducible refine gate_dst (N := 9) rfl ?_); refine gsM (some 9) Try.func58 #[.slice Ao10 y113.length co10, .func (.func 59) #[] #[]] ?_; (with_reducible refine (slices_ContainsFunc_int64_int64.calls k _ _ y113 t116 _ ?side1 ?side2 A3.out).mono ?_); (case side1 => exact uC ((Kd.R_reads' HO115.out).2.2)); (case side2 => exact (Kd.R_reads' HO115.out).2.1); rintro e w11 ⟨rfl, hb⟩; refine ⟨_, rfl, ?_⟩; replace HO115 := rB HO115 hb; replace BK109 := bB BK109 hb; replace HB := hbB bH hb; (try clear hb); (try clear hk); ))
  go_ret; exact ⟨rE, bH⟩
 ·rw [if_neg c2] at H
  exact absurd H (by simp)

end Go.Proofs.Ytmglfimdhbooeaa.X
