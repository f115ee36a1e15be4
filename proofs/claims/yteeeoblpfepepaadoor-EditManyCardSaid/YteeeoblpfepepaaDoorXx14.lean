-- PRINTED by print.py (a twelfth state) out of the translation. Not trusted: Lean checks it.
import Derived.Test.YteeeoblpfepepaaDoorXx0
import Derived.Test.YteeeoblpfepepaaDoorXx1
import Derived.Test.YteeeoblpfepepaaDoorXx11
import Derived.Test.YteeeoblpfepepaaDoorXx12
import Derived.Test.YteeeoblpfepepaaDoorXx13
import Derived.Test.YteeeoblpfepepaaDoorHandB
namespace Go.Proofs.YteeeoblpfepepaaDoor.X
open Go.Proofs.YteeeoblpfepepaaDoor.Flt Go.Proofs.YteeeoblpfepepaaDoor.H Go.RowKit Go.Proofs.YteeeoblpfepepaaDoorW.PrintWords Go.Proofs.YteeeoblpfepepaaDoorW.PrintLast Go.Proofs.YteeeoblpfepepaaDoorW.PrintMore
attribute [local go_sem] max2_int min2_int max_two min_two max_three min_three max_four min_four   -- for this text's walks alone
set_option linter.unusedVariables false
set_option linter.unusedSimpArgs false

/-! ### furrowlaw3_known: function 10 -/
def furrowlaw3_known.j0 : Nat → List ByteArray → List (S38) → List ByteArray → List (S38) → List (S38) → Bool → Option (Bool)
 | 0, _, _, _, _, _, _ => none
 | k + 1, x1, x2, x3, x5, x7, x49 => if x49 = true then (some false) else ((edit_Apply.f k x3 x5).bind fun bt183 => (if (bt183.2.length : Int) = 0 then ((furrowref4_SameLines.f k bt183.1 x1).bind fun t189 => (if t189 = true then (if 2 < (x3.length : Int) then (if (rdOf ByteArray.empty x3 2).toList = ([121] : List UInt8) then (if 0 < (x5.length : Int) then (if ((rd_T38 x5 0).f0) = 1 then (if ((rd_T38 x5 0).f1) = 3 then (if 0 < (x7.length : Int) then (if ((rd_T38 x7 0).f0) = 1 then (if ((rd_T38 x7 0).f1) = 2 then ((edit_Check.f k 1 x2).bind fun t195 => (if (t195.length : Int) = 0 then (some false) else ((edit_Diff.f k x1 x1).bind fun t198 => (some ((t198.length : Int) == 0))))) else (some false)) else (some false)) else (none)) else (some false)) else (some false)) else (none)) else (some false)) else (none)) else (some false))) else (some false)))
def furrowlaw3_known.f (k : Nat)  : Option (Bool) := (some (([(⟨#[97]⟩ : ByteArray), (⟨#[98]⟩ : ByteArray), (⟨#[99]⟩ : ByteArray)] : List ByteArray) : List ByteArray)).bind fun y159 => ((some (([(⟨1, 2, (([(⟨#[120]⟩ : ByteArray), (⟨#[121]⟩ : ByteArray)] : List ByteArray))⟩ : S38)] : List (S38)) : List (S38))).bind fun y165 => ((edit_Apply.f k y159 y165).bind fun bt168 => ((edit_Back.f k y159 y165).bind fun bt174 => ((edit_Diff.f k y159 bt168.1).bind fun t180 => (if (bt168.2.length : Int) = 0 then (if (bt174.2.length : Int) = 0 then (if (bt168.1.length : Int) = 4 then (if (bt174.1.length : Int) = 1 then (furrowlaw3_known.j0 k y159 y165 bt168.1 bt174.1 t180 ((t180.length : Int) != 1)) else (furrowlaw3_known.j0 k y159 y165 bt168.1 bt174.1 t180 true)) else (furrowlaw3_known.j0 k y159 y165 bt168.1 bt174.1 t180 true)) else (furrowlaw3_known.j0 k y159 y165 bt168.1 bt174.1 t180 true)) else (furrowlaw3_known.j0 k y159 y165 bt168.1 bt174.1 t180 true))))))
theorem furrowlaw3_known.mono_l : ∀ k, (∀ y0 y1 y2 y3 y4 y5, LeO (furrowlaw3_known.j0 k y0 y1 y2 y3 y4 y5) (furrowlaw3_known.j0 (k + 1) y0 y1 y2 y3 y4 y5))
 | 0 => fun _ _ _ _ _ _ r h => by simp [furrowlaw3_known.j0] at h
 | k + 1 => by
  have ih0 := furrowlaw3_known.mono_l k
  ·intro y0 y1 y2 y3 y4 y5
   unfold furrowlaw3_known.j0
   repeat' first
   | (with_reducible exact ih0 _ _ _ _ _ _)
   | (with_reducible exact edit_Apply.mono _ _ _)
   | (with_reducible exact edit_Back.mono _ _ _)
   | (with_reducible exact edit_Check.mono _ _ _)
   | (with_reducible exact edit_Diff.mono _ _ _)
   | (with_reducible exact furrowref4_SameLines.mono _ _ _)
   | (with_reducible exact LeO.refl _)
   | (with_reducible exact LeO.none _)
   | (with_reducible refine LeO.ite ?_ ?_)
   | (with_reducible refine LeO.bind ?_ (fun _ => ?_))
   | exact ih0 _ _ _ _ _ _
   | exact edit_Apply.mono _ _ _
   | exact edit_Back.mono _ _ _
   | exact edit_Check.mono _ _ _
   | exact edit_Diff.mono _ _ _
   | exact furrowref4_SameLines.mono _ _ _
   | exact LeO.none _
   | refine LeO.ite ?_ ?_
   | refine LeO.bind ?_ (fun _ => ?_)
theorem furrowlaw3_known.mono : ∀ k, LeO (furrowlaw3_known.f k ) (furrowlaw3_known.f (k + 1) ) := by
 intro  k
 have ih0 := furrowlaw3_known.mono_l k
 unfold furrowlaw3_known.f
 repeat' first
   | (with_reducible exact ih0 _ _ _ _ _ _)
   | (with_reducible exact edit_Apply.mono _ _ _)
   | (with_reducible exact edit_Back.mono _ _ _)
   | (with_reducible exact edit_Check.mono _ _ _)
   | (with_reducible exact edit_Diff.mono _ _ _)
   | (with_reducible exact furrowref4_SameLines.mono _ _ _)
   | (with_reducible exact LeO.refl _)
   | (with_reducible exact LeO.none _)
   | (with_reducible refine LeO.ite ?_ ?_)
   | (with_reducible refine LeO.bind ?_ (fun _ => ?_))
   | exact ih0 _ _ _ _ _ _
   | exact edit_Apply.mono _ _ _
   | exact edit_Back.mono _ _ _
   | exact edit_Check.mono _ _ _
   | exact edit_Diff.mono _ _ _
   | exact furrowref4_SameLines.mono _ _ _
   | exact LeO.none _
   | refine LeO.ite ?_ ?_
   | refine LeO.bind ?_ (fun _ => ?_)
set_option maxHeartbeats 8000000 in
set_option maxRecDepth 100000 in
theorem furrowlaw3_known.calls (k : Nat)  (w : World) (hG : Glob w) (h : furrowlaw3_known.f k  = some true) :
  Calls Tryd.prog 10 #[] w fun e w' => e = .returned (.bool true) ∧ Below w.heap.size w w' := by
 have hu38 := Tryd.underlying38
 have HG := mk0 hG
 clear hG
 have HB := mk0 (Below.refl w.heap.size w)
 have H : ((some (([(⟨#[97]⟩ : ByteArray), (⟨#[98]⟩ : ByteArray), (⟨#[99]⟩ : ByteArray)] : List ByteArray) : List ByteArray)).bind fun y159 => ((some (([(⟨1, 2, (([(⟨#[120]⟩ : ByteArray), (⟨#[121]⟩ : ByteArray)] : List ByteArray))⟩ : S38)] : List (S38)) : List (S38))).bind fun y165 => ((edit_Apply.f k y159 y165).bind fun bt168 => ((edit_Back.f k y159 y165).bind fun bt174 => ((edit_Diff.f k y159 bt168.1).bind fun t180 => (if (bt168.2.length : Int) = 0 then (if (bt174.2.length : Int) = 0 then (if (bt168.1.length : Int) = 4 then (if (bt174.1.length : Int) = 1 then (furrowlaw3_known.j0 k y159 y165 bt168.1 bt174.1 t180 ((t180.length : Int) != 1)) else (furrowlaw3_known.j0 k y159 y165 bt168.1 bt174.1 t180 true)) else (furrowlaw3_known.j0 k y159 y165 bt168.1 bt174.1 t180 true)) else (furrowlaw3_known.j0 k y159 y165 bt168.1 bt174.1 t180 true)) else (furrowlaw3_known.j0 k y159 y165 bt168.1 bt174.1 t180 true))))))) = some true := h
 clear h
 obtain ⟨y159, hy159⟩ : ∃ y_ : List ByteArray, y_ = (([(⟨#[97]⟩ : ByteArray), (⟨#[98]⟩ : ByteArray), (⟨#[99]⟩ : ByteArray)] : List ByteArray)) := ⟨_, rfl⟩
 replace H : ((some (([(⟨1, 2, (([(⟨#[120]⟩ : ByteArray), (⟨#[121]⟩ : ByteArray)] : List ByteArray))⟩ : S38)] : List (S38)) : List (S38))).bind fun y165 => ((edit_Apply.f k y159 y165).bind fun bt168 => ((edit_Back.f k y159 y165).bind fun bt174 => ((edit_Diff.f k y159 bt168.1).bind fun t180 => (if (bt168.2.length : Int) = 0 then (if (bt174.2.length : Int) = 0 then (if (bt168.1.length : Int) = 4 then (if (bt174.1.length : Int) = 1 then (furrowlaw3_known.j0 k y159 y165 bt168.1 bt174.1 t180 ((t180.length : Int) != 1)) else (furrowlaw3_known.j0 k y159 y165 bt168.1 bt174.1 t180 true)) else (furrowlaw3_known.j0 k y159 y165 bt168.1 bt174.1 t180 true)) else (furrowlaw3_known.j0 k y159 y165 bt168.1 bt174.1 t180 true)) else (furrowlaw3_known.j0 k y159 y165 bt168.1 bt174.1 t180 true)))))) = some true := by first | (rw [hy159]; with_reducible exact H) | (have H2_ := (Option.bind_some _ _).symm.trans H; rw [hy159]; with_reducible exact H2_) | (have H2_ := (Option.bind_some _ _).symm.trans H; with_reducible exact H2_) | with_reducible exact H | (rw [hy159]; exact H) | exact H
 have Ny159 := mk0 hy159
 clear hy159
 obtain ⟨y162, hy162⟩ : ∃ y_ : List ByteArray, y_ = (([(⟨#[120]⟩ : ByteArray), (⟨#[121]⟩ : ByteArray)] : List ByteArray)) := ⟨_, rfl⟩
 replace H : ((some (([(⟨1, 2, y162⟩ : S38)] : List (S38)) : List (S38))).bind fun y165 => ((edit_Apply.f k y159 y165).bind fun bt168 => ((edit_Back.f k y159 y165).bind fun bt174 => ((edit_Diff.f k y159 bt168.1).bind fun t180 => (if (bt168.2.length : Int) = 0 then (if (bt174.2.length : Int) = 0 then (if (bt168.1.length : Int) = 4 then (if (bt174.1.length : Int) = 1 then (furrowlaw3_known.j0 k y159 y165 bt168.1 bt174.1 t180 ((t180.length : Int) != 1)) else (furrowlaw3_known.j0 k y159 y165 bt168.1 bt174.1 t180 true)) else (furrowlaw3_known.j0 k y159 y165 bt168.1 bt174.1 t180 true)) else (furrowlaw3_known.j0 k y159 y165 bt168.1 bt174.1 t180 true)) else (furrowlaw3_known.j0 k y159 y165 bt168.1 bt174.1 t180 true)))))) = some true := by first | (rw [hy162]; with_reducible exact H) | (have H2_ := (Option.bind_some _ _).symm.trans H; rw [hy162]; with_reducible exact H2_) | (have H2_ := (Option.bind_some _ _).symm.trans H; with_reducible exact H2_) | with_reducible exact H | (rw [hy162]; exact H) | exact H
 have Ny162 := mk0 hy162
 clear hy162
 obtain ⟨y165, hy165⟩ : ∃ y_ : List (S38), y_ = (([(⟨1, 2, y162⟩ : S38)] : List (S38))) := ⟨_, rfl⟩
 replace H : ((edit_Apply.f k y159 y165).bind fun bt168 => ((edit_Back.f k y159 y165).bind fun bt174 => ((edit_Diff.f k y159 bt168.1).bind fun t180 => (if (bt168.2.length : Int) = 0 then (if (bt174.2.length : Int) = 0 then (if (bt168.1.length : Int) = 4 then (if (bt174.1.length : Int) = 1 then (furrowlaw3_known.j0 k y159 y165 bt168.1 bt174.1 t180 ((t180.length : Int) != 1)) else (furrowlaw3_known.j0 k y159 y165 bt168.1 bt174.1 t180 true)) else (furrowlaw3_known.j0 k y159 y165 bt168.1 bt174.1 t180 true)) else (furrowlaw3_known.j0 k y159 y165 bt168.1 bt174.1 t180 true)) else (furrowlaw3_known.j0 k y159 y165 bt168.1 bt174.1 t180 true))))) = some true := by first | (rw [hy165]; with_reducible exact H) | (have H2_ := (Option.bind_some _ _).symm.trans H; rw [hy165]; with_reducible exact H2_) | (have H2_ := (Option.bind_some _ _).symm.trans H; with_reducible exact H2_) | with_reducible exact H | (rw [hy165]; exact H) | exact H
 have Ny165 := mk0 hy165
 clear hy165
 replace H := Option.bind_eq_some_iff.mp H
 obtain ⟨⟨t168, t169⟩, A10, H⟩ := H
 replace H : ((edit_Back.f k y159 y165).bind fun bt174 => ((edit_Diff.f k y159 t168).bind fun t180 => (if (t169.length : Int) = 0 then (if (bt174.2.length : Int) = 0 then (if (t168.length : Int) = 4 then (if (bt174.1.length : Int) = 1 then (furrowlaw3_known.j0 k y159 y165 t168 bt174.1 t180 ((t180.length : Int) != 1)) else (furrowlaw3_known.j0 k y159 y165 t168 bt174.1 t180 true)) else (furrowlaw3_known.j0 k y159 y165 t168 bt174.1 t180 true)) else (furrowlaw3_known.j0 k y159 y165 t168 bt174.1 t180 true)) else (furrowlaw3_known.j0 k y159 y165 t168 bt174.1 t180 true)))) = some true := H
 have A1 := mk0 A10
 clear A10
 replace H := Option.bind_eq_some_iff.mp H
 obtain ⟨⟨t174, t175⟩, A20, H⟩ := H
 replace H : ((edit_Diff.f k y159 t168).bind fun t180 => (if (t169.length : Int) = 0 then (if (t175.length : Int) = 0 then (if (t168.length : Int) = 4 then (if (t174.length : Int) = 1 then (furrowlaw3_known.j0 k y159 y165 t168 t174 t180 ((t180.length : Int) != 1)) else (furrowlaw3_known.j0 k y159 y165 t168 t174 t180 true)) else (furrowlaw3_known.j0 k y159 y165 t168 t174 t180 true)) else (furrowlaw3_known.j0 k y159 y165 t168 t174 t180 true)) else (furrowlaw3_known.j0 k y159 y165 t168 t174 t180 true))) = some true := H
 have A2 := mk0 A20
 clear A20
 replace H := Option.bind_eq_some_iff.mp H
 obtain ⟨t180, A30, H⟩ := H
 replace H : (if (t169.length : Int) = 0 then (if (t175.length : Int) = 0 then (if (t168.length : Int) = 4 then (if (t174.length : Int) = 1 then (furrowlaw3_known.j0 k y159 y165 t168 t174 t180 ((t180.length : Int) != 1)) else (furrowlaw3_known.j0 k y159 y165 t168 t174 t180 true)) else (furrowlaw3_known.j0 k y159 y165 t168 t174 t180 true)) else (furrowlaw3_known.j0 k y159 y165 t168 t174 t180 true)) else (furrowlaw3_known.j0 k y159 y165 t168 t174 t180 true)) = some true := H
 have A3 := mk0 A30
 clear A30
 have HC4 := mk0 H
 clear H
 go_enter Tryd.func10, Tryd.ntmps10
 go_upto_region 6 with (first | ((with_reducible refine gate_dst (N := 10) rfl ?_); (try (refine gate_guard (by rfl) ?_; dsimp only)); refine Kd.R_lit Kd.string _ 9 ?hg (N := 10) ?hd (xs := ([(⟨#[97]⟩ : ByteArray), (⟨#[98]⟩ : ByteArray), (⟨#[99]⟩ : ByteArray)] : List ByteArray)) (inner := [.string (⟨#[97]⟩ : ByteArray), .string (⟨#[98]⟩ : ByteArray), .string (⟨#[99]⟩ : ByteArray)]) (ok := fun _ => True) (okp := fun _ => True) ?hr ?hp (fun _ hk => hk) trivial (Below.refl _ _) (Nat.le_refl _) (by simp) ?_; (case hd => rfl); (case hg => rfl); (case hr => first | (go_simp; done) | (go_simp; rfl)); (case hp => exact (Reps.one (show Kd.M Kd.string _ _ _ (⟨#[97]⟩ : ByteArray) [.string (⟨#[97]⟩ : ByteArray)] from rfl) (Reps.one (show Kd.M Kd.string _ _ _ (⟨#[98]⟩ : ByteArray) [.string (⟨#[98]⟩ : ByteArray)] from rfl) (Reps.one (show Kd.M Kd.string _ _ _ (⟨#[99]⟩ : ByteArray) [.string (⟨#[99]⟩ : ByteArray)] from rfl) (Reps.none _ _))))); intro v160 w5 ho6 hb hg_ hnew_; clear hg_ hnew_; (first | rw [← Ny159.out] at ho6 | (simp only [Int.reduceToNat] at ho6; rw [← Ny159.out] at ho6)); have n0_ := mk0 (Kd.R_lower ho6 (below_size (uL HB.out))); have n1_ := mk0 (below_step (uL HB.out) hb); clear HB; have HO161 := n0_; have HB := n1_; clear n0_ n1_; clear hb ho6) | ((with_reducible refine gate_dst (N := 11) rfl ?_); (try (refine gate_guard (by rfl) ?_; dsimp only)); refine Kd.R_lit Kd.string _ 9 ?hg (N := 11) ?hd (xs := ([(⟨#[120]⟩ : ByteArray), (⟨#[121]⟩ : ByteArray)] : List ByteArray)) (inner := [.string (⟨#[120]⟩ : ByteArray), .string (⟨#[121]⟩ : ByteArray)]) (ok := fun _ => True) (okp := fun _ => True) ?hr ?hp (fun _ hk => hk) trivial (Below.refl _ _) (Nat.le_refl _) (by simp) ?_; (case hd => rfl); (case hg => rfl); (case hr => first | (go_simp; done) | (go_simp; rfl)); (case hp => exact (Reps.one (show Kd.M Kd.string _ _ _ (⟨#[120]⟩ : ByteArray) [.string (⟨#[120]⟩ : ByteArray)] from rfl) (Reps.one (show Kd.M Kd.string _ _ _ (⟨#[121]⟩ : ByteArray) [.string (⟨#[121]⟩ : ByteArray)] from rfl) (Reps.none _ _)))); intro v163 w7 ho8 hb hg_ hnew_; clear hg_ hnew_; (first | rw [← Ny162.out] at ho8 | (simp only [Int.reduceToNat] at ho8; rw [← Ny162.out] at ho8)); have n0_ := mk0 (Kd.R_elder' (uR HO161.out) (Kd.R_base ho8) hb); have n1_ := mk0 (Kd.R_lower (Kd.R_new' ho8 (Kd.R_lt (uR HO161.out))) (below_size (uL HB.out))); have n2_ := mk0 (below_step (uL HB.out) hb); clear HO161; clear HB; have HO161 := n0_; have HO164 := n1_; have HB := n2_; clear n0_ n1_ n2_; clear hb ho8; obtain ⟨Ao9, co9, eo9⟩ := Kd.R_slice HO164.out; subst eo9) | ((with_reducible refine gate_dst (N := 13) rfl ?_); (try (refine gate_guard (by rfl) ?_; dsimp only)); refine Kd.N_lit k38 _ 38 ?hg (N' := 13) ?hd (xs := ([(⟨1, 2, y162⟩ : S38)] : List (S38))) (inner := [.int .i64 1, .int .i64 2, .slice Ao9 y162.length co9]) (ok := (fun k_ => some k_ ≠ (v160 : Value).ownBlock)) (okp := (fun k_ => some k_ ≠ (v160 : Value).ownBlock)) ?hr ?hp (fun _ hk => hk) ((show ∀ k_, w7.heap.size ≤ k_ → (fun k_ => some k_ ≠ (v160 : Value).ownBlock) k_ from fun k_ hk => Kd.fresh' (Kd.R_lt (uR HO161.out)) k_ hk) _ (Nat.le_refl _)) (Below.refl _ _) (Nat.le_refl _) (by simp) ?_; (case hd => rfl); (case hg => rfl); (case hr => first | (go_simp; done) | (go_simp; rfl)); (case hp => exact (Reps.c3 (show Kd.FK k38 _ _ (⟨1, 2, y162⟩ : S38) [.int .i64 1, .int .i64 2, .slice Ao9 y162.length co9] from (k38_mkF _ _ (⟨1, 2, y162⟩ : S38) (Kd.R_reads' (Kd.R_mono (ok' := (fun k_ => some k_ ≠ (v160 : Value).ownBlock)) (HO164.out) (fun k_ hk => hk.2))).2.1 (Kd.R_F (Kd.R_mono (ok' := (fun k_ => some k_ ≠ (v160 : Value).ownBlock)) (HO164.out) (fun k_ hk => hk.2))))) (Reps.none _ _))); intro v166 w10 ho11 hb hg_ hnew_; clear hg_ hnew_; (first | rw [← Ny165.out] at ho11 | (simp only [Int.reduceToNat] at ho11; rw [← Ny165.out] at ho11)); have n0_ := mk0 (Kd.R_below (uR HO161.out) hb); have n1_ := mk0 (Kd.N_lower ho11 (below_size (uL HB.out))); have n2_ := mk0 (below_step (uL HB.out) hb); clear HO161; clear HB; clear HO164; have HO161 := n0_; have HO167 := n1_; have HB := n2_; clear n0_ n1_ n2_; clear hb ho11; obtain ⟨Ao12, co12, eo12⟩ := Kd.R_slice HO161.out; subst eo12; obtain ⟨Ao13, co13, eo13⟩ := Kd.N_slice HO167.out; subst eo13) | ((with_reducible refine gate_callee (f := 12) rfl ?_); refine goesL_ (some 17) rfl rfl Tryd.func12 (by kernel_rfl) rfl #[.slice Ao12 y159.length co12, .slice Ao13 y165.length co13] rfl (by (try simp only [List.map_toArray, List.map_cons, List.map_nil]); first | done | rfl | (simp only [List.length_drop, List.length_take]; rfl)) ?_; (with_reducible refine (edit_Apply.calls k _ _ y159 _ _ y165 t168 t169 _ ?side1 ?side2 ?side3 ?side4 A1.out).mono ?_); (case side1 => repeat (first | exact (Kd.R_reads' HO161.out).2.2 | (with_reducible refine Kd.C_alloc ?_ _) | (with_reducible refine Kd.C_drewN ?_ _) | (with_reducible refine Kd.C_drew ?_))); (case side2 => exact (Kd.R_reads' HO161.out).2.1); (case side3 => repeat (first | exact (Kd.N_reads' HO167.out).2.2 | (with_reducible refine Kd.C_alloc ?_ _) | (with_reducible refine Kd.C_drewN ?_ _) | (with_reducible refine Kd.C_drew ?_))); (case side4 => exact (Kd.N_reads' HO167.out).2.1); rintro e w14 ⟨v170, v172, rfl, ho0, ho1, hb⟩; refine ⟨_, rfl, ?_⟩; have n0_ := mk0 (Kd.R_elder' (uR HO161.out) (Kd.R_base ho0) hb); have n1_ := mk0 (Kd.N_mono (Kd.N_told (Kd.N_told (Kd.N_old (uN HO167.out) hb) (Kd.R_base ho0)) (Kd.R_base ho1)) (fun _ h_ => h_.1)); have n2_ := mk0 (Kd.R_lower (Kd.R_new' ho0 (Kd.R_lt (uR HO161.out))) (below_size (uL HB.out))); have n3_ := mk0 (Kd.R_lower ho1 (below_size (uL HB.out))); have n4_ := mk0 (below_step (uL HB.out) hb); clear HO161; clear HO167; clear HB; have HO161 := n0_; have HO167 := n1_; have HO171 := n2_; have HO173 := n3_; have HB := n4_; clear n0_ n1_ n2_ n3_ n4_; (try clear hb); (try clear hb2); (try clear hk); (try clear hi); (try clear ho0); (try clear ho1); (first | (have EHO173 := cmpV_no HO173.out (by with_reducible assumption)) | (have EHO173 := cmpV_yes HO173.out (by with_reducible assumption)) | skip)) | ((with_reducible refine gate_callee (f := 13) rfl ?_); refine goesL_ (some 23) rfl rfl Tryd.func13 (by kernel_rfl) rfl #[.slice Ao12 y159.length co12, .slice Ao13 y165.length co13] rfl (by (try simp only [List.map_toArray, List.map_cons, List.map_nil]); first | done | rfl | (simp only [List.length_drop, List.length_take]; rfl)) ?_; (with_reducible refine (edit_Back.calls k _ _ y159 _ _ y165 t174 t175 _ ?side1 ?side2 ?side3 ?side4 ?side5 A2.out).mono ?_); (case side1 => repeat (first | exact (Kd.R_reads' HO161.out).2.2 | (with_reducible refine Kd.C_alloc ?_ _) | (with_reducible refine Kd.C_drewN ?_ _) | (with_reducible refine Kd.C_drew ?_))); (case side2 => exact (Kd.R_reads' HO161.out).2.1); (case side3 => repeat (first | exact (Kd.N_reads' HO167.out).2.2 | (with_reducible refine Kd.C_alloc ?_ _) | (with_reducible refine Kd.C_drewN ?_ _) | (with_reducible refine Kd.C_drew ?_))); (case side4 => exact (Kd.N_reads' HO167.out).2.1); (case side5 => exact Glob.below HG.out (uL HB.out)); rintro e w15 ⟨v176, v178, rfl, ho0, ho1, hb⟩; refine ⟨_, rfl, ?_⟩; have n0_ := mk0 (Kd.R_below (uR HO161.out) hb); have n1_ := mk0 (Kd.N_mono (Kd.N_told (Kd.N_told (Kd.N_old (uN HO167.out) hb) (Kd.S_base ho0)) (Kd.R_base ho1)) (fun _ h_ => h_.1)); have n2_ := mk0 (Kd.R_below (uR HO171.out) hb); have n3_ := mk0 (Kd.R_elder' (uR HO173.out) (Kd.R_base ho1) hb); have n4_ := mk0 (Kd.N_lower (Kd.N_mono (ok' := fun k_ => some k_ ≠ (v178 : Value).ownBlock ∧ some k_ ≠ (.slice Ao12 y159.length co12 : Value).ownBlock ∧ some k_ ≠ (.slice Ao13 y165.length co13 : Value).ownBlock ∧ some k_ ≠ (v170 : Value).ownBlock ∧ some k_ ≠ (v172 : Value).ownBlock) (Kd.S_N (Kd.S_bound (Kd.S_apart' ho0 (Kd.R_typed ho1) (by decide)))) (fun k_ hk_ => ⟨hk_.1.2, (Kd.fresh' (Kd.R_lt (uR HO161.out)) k_ hk_.2.1), (Kd.fresh' (Kd.N_lt (uN HO167.out)) k_ hk_.2.1), (Kd.fresh' (Kd.R_lt (uR HO171.out)) k_ hk_.2.1), (Kd.fresh' (Kd.R_lt (uR HO173.out)) k_ hk_.2.1)⟩)) (below_size (uL HB.out))); have n5_ := mk0 (Kd.R_lower (Kd.R_new' ho1 (Kd.R_lt (uR HO173.out))) (below_size (uL HB.out))); have n6_ := mk0 (below_step (uL HB.out) hb); clear HO161; clear HO167; clear HO171; clear HO173; clear HB; have HO161 := n0_; have HO167 := n1_; have HO171 := n2_; have HO173 := n3_; have HO177 := n4_; have HO179 := n5_; have HB := n6_; clear n0_ n1_ n2_ n3_ n4_ n5_ n6_; (try clear hb); (try clear hb2); (try clear hk); (try clear hi); (try clear ho0); (try clear ho1); (first | (have EHO179 := cmpV_no HO179.out (by with_reducible assumption)) | (have EHO179 := cmpV_yes HO179.out (by with_reducible assumption)) | skip); obtain ⟨Ao16, co16, eo16⟩ := Kd.R_slice HO171.out; subst eo16) | ((with_reducible refine gate_callee (f := 15) rfl ?_); refine goesL_ (some 28) rfl rfl Tryd.func15 (by kernel_rfl) rfl #[.slice Ao12 y159.length co12, .slice Ao16 t168.length co16] rfl (by (try simp only [List.map_toArray, List.map_cons, List.map_nil]); first | done | rfl | (simp only [List.length_drop, List.length_take]; rfl)) ?_; (with_reducible refine (edit_Diff.calls k _ _ y159 _ _ t168 t180 _ ?side1 ?side2 ?side3 ?side4 A3.out).mono ?_); (case side1 => repeat (first | exact (Kd.R_reads' HO161.out).2.2 | (with_reducible refine Kd.C_alloc ?_ _) | (with_reducible refine Kd.C_drewN ?_ _) | (with_reducible refine Kd.C_drew ?_))); (case side2 => exact (Kd.R_reads' HO161.out).2.1); (case side3 => repeat (first | exact (Kd.R_reads' HO171.out).2.2 | (with_reducible refine Kd.C_alloc ?_ _) | (with_reducible refine Kd.C_drewN ?_ _) | (with_reducible refine Kd.C_drew ?_))); (case side4 => exact (Kd.R_reads' HO171.out).2.1); rintro e w17 ⟨v181, rfl, ho0, hb⟩; refine ⟨_, rfl, ?_⟩; have n0_ := mk0 (Kd.R_below (uR HO161.out) hb); have n1_ := mk0 (Kd.N_elder' (uN HO167.out) (Kd.N_base ho0) hb); have n2_ := mk0 (Kd.R_below (uR HO171.out) hb); have n3_ := mk0 (Kd.R_below (uR HO173.out) hb); have n4_ := mk0 (Kd.N_elder' (uN HO177.out) (Kd.N_base ho0) hb); have n5_ := mk0 (Kd.R_below (uR HO179.out) hb); have n6_ := mk0 (Kd.N_lower (Kd.N_mono (ok' := fun k_ => some k_ ≠ (.slice Ao12 y159.length co12 : Value).ownBlock ∧ some k_ ≠ (.slice Ao13 y165.length co13 : Value).ownBlock ∧ some k_ ≠ (.slice Ao16 t168.length co16 : Value).ownBlock ∧ some k_ ≠ (v172 : Value).ownBlock ∧ some k_ ≠ (v176 : Value).ownBlock ∧ some k_ ≠ (v178 : Value).ownBlock) ho0 (fun k_ hk_ => ⟨(Kd.fresh' (Kd.R_lt (uR HO161.out)) k_ hk_), (Kd.fresh' (Kd.N_lt (uN HO167.out)) k_ hk_), (Kd.fresh' (Kd.R_lt (uR HO171.out)) k_ hk_), (Kd.fresh' (Kd.R_lt (uR HO173.out)) k_ hk_), (Kd.fresh' (Kd.N_lt (uN HO177.out)) k_ hk_), (Kd.fresh' (Kd.R_lt (uR HO179.out)) k_ hk_)⟩)) (below_size (uL HB.out))); have n7_ := mk0 (below_step (uL HB.out) hb); clear HO161; clear HO167; clear HO171; clear HO173; clear HO177; clear HO179; clear HB; have HO161 := n0_; have HO167 := n1_; have HO171 := n2_; have HO173 := n3_; have HO177 := n4_; have HO179 := n5_; have HO182 := n6_; have HB := n7_; clear n0_ n1_ n2_ n3_ n4_ n5_ n6_ n7_; (try clear hb); (try clear hb2); (try clear hk); (try clear hi); (try clear ho0)))
 (try simp only [Act.put, List.setIfInBounds_toArray, List.set_cons_zero, List.set_cons_succ])
 go_cut [49] (fun v49 wc => ∃ (kq : Nat) (x49_3 : Bool), v49 = .bool x49_3 ∧ Aside0 (furrowlaw3_known.j0 kq y159 y165 t168 t174 t180 x49_3 = some true) ∧ Aside0 (kq ≤ k) ∧ Aside0 (Kd.R Kd.string 9 wc w.heap.size (fun k_ => some k_ ≠ ((.slice Ao16 t168.length co16) : Value).ownBlock) (.slice Ao12 y159.length co12) y159) ∧ Aside0 (Kd.N k38 38 wc w.heap.size (fun k_ => some k_ ≠ ((.slice Ao12 y159.length co12) : Value).ownBlock ∧ some k_ ≠ ((.slice Ao16 t168.length co16) : Value).ownBlock ∧ some k_ ≠ (v176 : Value).ownBlock ∧ some k_ ≠ (v181 : Value).ownBlock) (.slice Ao13 y165.length co13) y165) ∧ Aside0 (Kd.R Kd.string 9 wc w.heap.size (fun k_ => some k_ ≠ ((.slice Ao12 y159.length co12) : Value).ownBlock) (.slice Ao16 t168.length co16) t168) ∧ Aside0 (Kd.N k38 38 wc w.heap.size (fun k_ => some k_ ≠ ((.slice Ao12 y159.length co12) : Value).ownBlock ∧ some k_ ≠ ((.slice Ao13 y165.length co13) : Value).ownBlock ∧ some k_ ≠ ((.slice Ao16 t168.length co16) : Value).ownBlock ∧ some k_ ≠ (v181 : Value).ownBlock) v176 t174) ∧ Aside0 (Kd.N k38 38 wc w.heap.size (fun k_ => some k_ ≠ ((.slice Ao12 y159.length co12) : Value).ownBlock ∧ some k_ ≠ ((.slice Ao13 y165.length co13) : Value).ownBlock ∧ some k_ ≠ ((.slice Ao16 t168.length co16) : Value).ownBlock ∧ some k_ ≠ (v176 : Value).ownBlock) v181 t180) ∧ Aside0 (Below w.heap.size w wc))
 case first =>
  have H := HC4.out
  clear HC4
  by_cases c18 : (t169.length : Int) = 0
  ·rw [if_pos c18] at H
   have c18b0 : ((t169.length : Int) == 0) = true := beq_iff_eq.mpr c18
   have c18b1 : ((t169.length : Int) != 0) = false := bne_eq_false_iff_eq.mpr c18
   clear c18
   (first | rw [c18b0] | (simp only [i64_w, i32_w]; rw [c18b0]) | skip)
   by_cases c19 : (t175.length : Int) = 0
   ·rw [if_pos c19] at H
    have c19b0 : ((t175.length : Int) == 0) = true := beq_iff_eq.mpr c19
    have c19b1 : ((t175.length : Int) != 0) = false := bne_eq_false_iff_eq.mpr c19
    clear c19
    by_cases c20 : (t168.length : Int) = 4
    ·rw [if_pos c20] at H
     have c20b0 : ((t168.length : Int) == 4) = true := beq_iff_eq.mpr c20
     have c20b1 : ((t168.length : Int) != 4) = false := bne_eq_false_iff_eq.mpr c20
     clear c20
     by_cases c21 : (t174.length : Int) = 1
     ·rw [if_pos c21] at H
      have c21b0 : ((t174.length : Int) == 1) = true := beq_iff_eq.mpr c21
      have c21b1 : ((t174.length : Int) != 1) = false := bne_eq_false_iff_eq.mpr c21
      clear c21
      have H' := mk0 H
      clear H
      (first | (have EHO173 := cmpV_no HO173.out (by with_reducible assumption)) | (have EHO173 := cmpV_yes HO173.out (by with_reducible assumption)) | skip)
      (first | (have EHO179 := cmpV_no HO179.out (by with_reducible assumption)) | (have EHO179 := cmpV_yes HO179.out (by with_reducible assumption)) | skip)
      obtain ⟨Ao22, co22, eo22⟩ := Kd.N_slice HO177.out
      subst eo22
      obtain ⟨Ao23, co23, eo23⟩ := Kd.N_slice HO182.out
      subst eo23
      go_wp2
      go_meet
      case rel => exact ⟨_, (((t180.length : Int) != 1)), (by first | rfl | (simp; done) | (simp [*]; done) | (simp [bne_nil_, beq_nil_]; done)), H', ⟨by first | omega | exact Nat.le_refl _⟩, ⟨uR (Kd.R_mono HO161.out (fun _ hk => hk.2))⟩, ⟨uN (Kd.N_mono HO167.out (fun _ hk => ⟨hk.1.1.1.1.1, ⟨hk.1.1.1.1.2, ⟨hk.1.1.2, hk.2⟩⟩⟩))⟩, ⟨uR (Kd.R_mono HO171.out (fun _ hk => hk.2))⟩, ⟨uN (Kd.N_mono HO177.out (fun _ hk => ⟨hk.1.2.1, ⟨hk.1.2.2.1, ⟨hk.1.2.2.2.1, hk.2⟩⟩⟩))⟩, ⟨uN (Kd.N_mono HO182.out (fun _ hk => ⟨hk.1, ⟨hk.2.1, ⟨hk.2.2.1, hk.2.2.2.2.1⟩⟩⟩))⟩, ⟨uL HB.out⟩⟩
     ·rw [if_neg c21] at H
      have c21b0 : ((t174.length : Int) == 1) = false := beq_eq_false_iff_ne.mpr c21
      have c21b1 : ((t174.length : Int) != 1) = true := bne_iff_ne.mpr c21
      have H' := mk0 H
      clear H
      (first | (have EHO173 := cmpV_no HO173.out (by with_reducible assumption)) | (have EHO173 := cmpV_yes HO173.out (by with_reducible assumption)) | skip)
      (first | (have EHO179 := cmpV_no HO179.out (by with_reducible assumption)) | (have EHO179 := cmpV_yes HO179.out (by with_reducible assumption)) | skip)
      obtain ⟨Ao24, co24, eo24⟩ := Kd.N_slice HO177.out
      subst eo24
      go_wp2
      go_meet
      case rel => exact ⟨_, (true), (by first | rfl | (simp; done) | (simp [*]; done) | (simp [bne_nil_, beq_nil_]; done)), H', ⟨by first | omega | exact Nat.le_refl _⟩, ⟨uR (Kd.R_mono HO161.out (fun _ hk => hk.2))⟩, ⟨uN (Kd.N_mono HO167.out (fun _ hk => ⟨hk.1.1.1.1.1, ⟨hk.1.1.1.1.2, ⟨hk.1.1.2, hk.2⟩⟩⟩))⟩, ⟨uR (Kd.R_mono HO171.out (fun _ hk => hk.2))⟩, ⟨uN (Kd.N_mono HO177.out (fun _ hk => ⟨hk.1.2.1, ⟨hk.1.2.2.1, ⟨hk.1.2.2.2.1, hk.2⟩⟩⟩))⟩, ⟨uN (Kd.N_mono HO182.out (fun _ hk => ⟨hk.1, ⟨hk.2.1, ⟨hk.2.2.1, hk.2.2.2.2.1⟩⟩⟩))⟩, ⟨uL HB.out⟩⟩
    ·rw [if_neg c20] at H
     have c20b0 : ((t168.length : Int) == 4) = false := beq_eq_false_iff_ne.mpr c20
     have c20b1 : ((t168.length : Int) != 4) = true := bne_iff_ne.mpr c20
     have H' := mk0 H
     clear H
     (first | (have EHO173 := cmpV_no HO173.out (by with_reducible assumption)) | (have EHO173 := cmpV_yes HO173.out (by with_reducible assumption)) | skip)
     (first | (have EHO179 := cmpV_no HO179.out (by with_reducible assumption)) | (have EHO179 := cmpV_yes HO179.out (by with_reducible assumption)) | skip)
     go_wp2
     go_meet
     case rel => exact ⟨_, (true), (by first | rfl | (simp; done) | (simp [*]; done) | (simp [bne_nil_, beq_nil_]; done)), H', ⟨by first | omega | exact Nat.le_refl _⟩, ⟨uR (Kd.R_mono HO161.out (fun _ hk => hk.2))⟩, ⟨uN (Kd.N_mono HO167.out (fun _ hk => ⟨hk.1.1.1.1.1, ⟨hk.1.1.1.1.2, ⟨hk.1.1.2, hk.2⟩⟩⟩))⟩, ⟨uR (Kd.R_mono HO171.out (fun _ hk => hk.2))⟩, ⟨uN (Kd.N_mono HO177.out (fun _ hk => ⟨hk.1.2.1, ⟨hk.1.2.2.1, ⟨hk.1.2.2.2.1, hk.2⟩⟩⟩))⟩, ⟨uN (Kd.N_mono HO182.out (fun _ hk => ⟨hk.1, ⟨hk.2.1, ⟨hk.2.2.1, hk.2.2.2.2.1⟩⟩⟩))⟩, ⟨uL HB.out⟩⟩
   ·rw [if_neg c19] at H
    have c19b0 : ((t175.length : Int) == 0) = false := beq_eq_false_iff_ne.mpr c19
    have c19b1 : ((t175.length : Int) != 0) = true := bne_iff_ne.mpr c19
    have c19b2 : ¬ (t175 = []) := fun h_ => c19 (by rw [h_]; rfl)
    have H' := mk0 H
    clear H
    (first | (have EHO173 := cmpV_no HO173.out (by with_reducible assumption)) | (have EHO173 := cmpV_yes HO173.out (by with_reducible assumption)) | skip)
    (first | (have EHO179 := cmpV_no HO179.out (by with_reducible assumption)) | (have EHO179 := cmpV_yes HO179.out (by with_reducible assumption)) | skip)
    go_wp2
    go_meet
    case rel => exact ⟨_, (true), (by first | rfl | (simp; done) | (simp [*]; done) | (simp [bne_nil_, beq_nil_]; done)), H', ⟨by first | omega | exact Nat.le_refl _⟩, ⟨uR (Kd.R_mono HO161.out (fun _ hk => hk.2))⟩, ⟨uN (Kd.N_mono HO167.out (fun _ hk => ⟨hk.1.1.1.1.1, ⟨hk.1.1.1.1.2, ⟨hk.1.1.2, hk.2⟩⟩⟩))⟩, ⟨uR (Kd.R_mono HO171.out (fun _ hk => hk.2))⟩, ⟨uN (Kd.N_mono HO177.out (fun _ hk => ⟨hk.1.2.1, ⟨hk.1.2.2.1, ⟨hk.1.2.2.2.1, hk.2⟩⟩⟩))⟩, ⟨uN (Kd.N_mono HO182.out (fun _ hk => ⟨hk.1, ⟨hk.2.1, ⟨hk.2.2.1, hk.2.2.2.2.1⟩⟩⟩))⟩, ⟨uL HB.out⟩⟩
  ·rw [if_neg c18] at H
   have c18b0 : ((t169.length : Int) == 0) = false := beq_eq_false_iff_ne.mpr c18
   have c18b1 : ((t169.length : Int) != 0) = true := bne_iff_ne.mpr c18
   have c18b2 : ¬ (t169 = []) := fun h_ => c18 (by rw [h_]; rfl)
   (first | rw [c18b0] | (simp only [i64_w, i32_w]; rw [c18b0]) | skip)
   have H' := mk0 H
   clear H
   (first | (have EHO173 := cmpV_no HO173.out (by with_reducible assumption)) | (have EHO173 := cmpV_yes HO173.out (by with_reducible assumption)) | skip)
   (first | (have EHO179 := cmpV_no HO179.out (by with_reducible assumption)) | (have EHO179 := cmpV_yes HO179.out (by with_reducible assumption)) | skip)
   go_wp2
   go_meet
   case rel => exact ⟨_, (true), (by first | rfl | (simp; done) | (simp [*]; done) | (simp [bne_nil_, beq_nil_]; done)), H', ⟨by first | omega | exact Nat.le_refl _⟩, ⟨uR (Kd.R_mono HO161.out (fun _ hk => hk.2))⟩, ⟨uN (Kd.N_mono HO167.out (fun _ hk => ⟨hk.1.1.1.1.1, ⟨hk.1.1.1.1.2, ⟨hk.1.1.2, hk.2⟩⟩⟩))⟩, ⟨uR (Kd.R_mono HO171.out (fun _ hk => hk.2))⟩, ⟨uN (Kd.N_mono HO177.out (fun _ hk => ⟨hk.1.2.1, ⟨hk.1.2.2.1, ⟨hk.1.2.2.2.1, hk.2⟩⟩⟩))⟩, ⟨uN (Kd.N_mono HO182.out (fun _ hk => ⟨hk.1, ⟨hk.2.1, ⟨hk.2.2.1, hk.2.2.2.2.1⟩⟩⟩))⟩, ⟨uL HB.out⟩⟩
 case rest =>
  clear HC4
  try clear c1
  try clear c2
  try clear p2
  try clear c3
  try clear c10
  try clear c12
  try clear c13
  try clear c15
  try clear c18
  try clear c18b0
  try clear c18b1
  try clear c18b2
  try clear c19
  try clear c19b0
  try clear c19b1
  try clear c19b2
  try clear c20
  try clear c20b0
  try clear c20b1
  try clear c21
  try clear c21b0
  try clear c21b1
  obtain ⟨kq, x49_3, rfl, HA, HJ3, HO_1, HO_2, HO_3, HO_5, HO_7, HB⟩ := hcut
  cases kq with
  | zero => exact absurd HA.out (by simp [furrowlaw3_known.j0])
  | succ kj3 =>
   have H := HA.out
   clear HA
   simp only [furrowlaw3_known.j0] at H
   by_cases c25 : x49_3 = true
   ·subst c25
    have H1 : (some false) = some true := by rw [if_pos rfl] at H; first | done | exact H
    clear H
    have H := H1
    clear H1
    exact absurd H (by simp)
   ·replace c25 := Bool.eq_false_iff.mpr c25
    subst c25
    have H1 : ((edit_Apply.f kj3 t168 t174).bind fun bt183 => (if (bt183.2.length : Int) = 0 then ((furrowref4_SameLines.f kj3 bt183.1 y159).bind fun t189 => (if t189 = true then (if 2 < (t168.length : Int) then (if (rdOf ByteArray.empty t168 2).toList = ([121] : List UInt8) then (if 0 < (t174.length : Int) then (if ((rd_T38 t174 0).f0) = 1 then (if ((rd_T38 t174 0).f1) = 3 then (if 0 < (t180.length : Int) then (if ((rd_T38 t180 0).f0) = 1 then (if ((rd_T38 t180 0).f1) = 2 then ((edit_Check.f kj3 1 y165).bind fun t195 => (if (t195.length : Int) = 0 then (some false) else ((edit_Diff.f kj3 y159 y159).bind fun t198 => (some ((t198.length : Int) == 0))))) else (some false)) else (some false)) else (none)) else (some false)) else (some false)) else (none)) else (some false)) else (none)) else (some false))) else (some false))) = some true := by rw [if_neg (show ¬ (false = true) by decide)] at H; first | done | exact H
    clear H
    have H := H1
    clear H1
    replace H := Option.bind_eq_some_iff.mp H
    obtain ⟨⟨t183, t184⟩, A260, H⟩ := H
    replace H : (if (t184.length : Int) = 0 then ((furrowref4_SameLines.f kj3 t183 y159).bind fun t189 => (if t189 = true then (if 2 < (t168.length : Int) then (if (rdOf ByteArray.empty t168 2).toList = ([121] : List UInt8) then (if 0 < (t174.length : Int) then (if ((rd_T38 t174 0).f0) = 1 then (if ((rd_T38 t174 0).f1) = 3 then (if 0 < (t180.length : Int) then (if ((rd_T38 t180 0).f0) = 1 then (if ((rd_T38 t180 0).f1) = 2 then ((edit_Check.f kj3 1 y165).bind fun t195 => (if (t195.length : Int) = 0 then (some false) else ((edit_Diff.f kj3 y159 y159).bind fun t198 => (some ((t198.length : Int) == 0))))) else (some false)) else (some false)) else (none)) else (some false)) else (some false)) else (none)) else (some false)) else (none)) else (some false))) else (some false)) = some true := H
    have A26 := mk0 A260
    clear A260
    by_cases c27 : (t184.length : Int) = 0
    ·rw [if_pos c27] at H
     have c27b0 : ((t184.length : Int) == 0) = true := beq_iff_eq.mpr c27
     have c27b1 : ((t184.length : Int) != 0) = false := bne_eq_false_iff_eq.mpr c27
     clear c27
     replace H := Option.bind_eq_some_iff.mp H
     obtain ⟨t189, A280, H⟩ := H
     replace H : (if t189 = true then (if 2 < (t168.length : Int) then (if (rdOf ByteArray.empty t168 2).toList = ([121] : List UInt8) then (if 0 < (t174.length : Int) then (if ((rd_T38 t174 0).f0) = 1 then (if ((rd_T38 t174 0).f1) = 3 then (if 0 < (t180.length : Int) then (if ((rd_T38 t180 0).f0) = 1 then (if ((rd_T38 t180 0).f1) = 2 then ((edit_Check.f kj3 1 y165).bind fun t195 => (if (t195.length : Int) = 0 then (some false) else ((edit_Diff.f kj3 y159 y159).bind fun t198 => (some ((t198.length : Int) == 0))))) else (some false)) else (some false)) else (none)) else (some false)) else (some false)) else (none)) else (some false)) else (none)) else (some false)) = some true := H
     have A28 := mk0 A280
     clear A280
     by_cases c29 : t189 = true
     ·subst c29
      have H1 : (if 2 < (t168.length : Int) then (if (rdOf ByteArray.empty t168 2).toList = ([121] : List UInt8) then (if 0 < (t174.length : Int) then (if ((rd_T38 t174 0).f0) = 1 then (if ((rd_T38 t174 0).f1) = 3 then (if 0 < (t180.length : Int) then (if ((rd_T38 t180 0).f0) = 1 then (if ((rd_T38 t180 0).f1) = 2 then ((edit_Check.f kj3 1 y165).bind fun t195 => (if (t195.length : Int) = 0 then (some false) else ((edit_Diff.f kj3 y159 y159).bind fun t198 => (some ((t198.length : Int) == 0))))) else (some false)) else (some false)) else (none)) else (some false)) else (some false)) else (none)) else (some false)) else (none)) = some true := by rw [if_pos rfl] at H; first | done | exact H
      clear H
      have H := H1
      clear H1
      by_cases c30 : 2 < (t168.length : Int)
      ·rw [if_pos c30] at H
       have c30b0 : decide (2 < (t168.length : Int)) = true := decide_eq_true c30
       have c30b1 : decide (2 < t168.length) = true := decide_eq_true (by omega)
       clear c30
       by_cases c31 : (rdOf ByteArray.empty t168 2).toList = ([121] : List UInt8)
       ·rw [if_pos c31] at H
        have c31b0 : ((rdOf ByteArray.empty t168 2).toList == ([121] : List UInt8)) = true := beq_iff_eq.mpr c31
        have c31b1 : ((rdOf ByteArray.empty t168 2).toList != ([121] : List UInt8)) = false := bne_eq_false_iff_eq.mpr c31
        clear c31
        by_cases c32 : 0 < (t174.length : Int)
        ·rw [if_pos c32] at H
         have c32b0 : decide (0 < (t174.length : Int)) = true := decide_eq_true c32
         have c32b1 : decide (0 < t174.length) = true := decide_eq_true (by omega)
         clear c32
         by_cases c33 : ((rd_T38 t174 0).f0) = 1
         ·rw [if_pos c33] at H
          have c33b0 : (((rd_T38 t174 0).f0) == 1) = true := beq_iff_eq.mpr c33
          have c33b1 : (((rd_T38 t174 0).f0) != 1) = false := bne_eq_false_iff_eq.mpr c33
          clear c33
          by_cases c34 : ((rd_T38 t174 0).f1) = 3
          ·rw [if_pos c34] at H
           have c34b0 : (((rd_T38 t174 0).f1) == 3) = true := beq_iff_eq.mpr c34
           have c34b1 : (((rd_T38 t174 0).f1) != 3) = false := bne_eq_false_iff_eq.mpr c34
           clear c34
           by_cases c35 : 0 < (t180.length : Int)
           ·rw [if_pos c35] at H
            have c35b0 : decide (0 < (t180.length : Int)) = true := decide_eq_true c35
            have c35b1 : decide (0 < t180.length) = true := decide_eq_true (by omega)
            clear c35
            by_cases c36 : ((rd_T38 t180 0).f0) = 1
            ·rw [if_pos c36] at H
             have c36b0 : (((rd_T38 t180 0).f0) == 1) = true := beq_iff_eq.mpr c36
             have c36b1 : (((rd_T38 t180 0).f0) != 1) = false := bne_eq_false_iff_eq.mpr c36
             clear c36
             by_cases c37 : ((rd_T38 t180 0).f1) = 2
             ·rw [if_pos c37] at H
              have c37b0 : (((rd_T38 t180 0).f1) == 2) = true := beq_iff_eq.mpr c37
              have c37b1 : (((rd_T38 t180 0).f1) != 2) = false := bne_eq_false_iff_eq.mpr c37
              clear c37
              replace H := Option.bind_eq_some_iff.mp H
              obtain ⟨t195, A380, H⟩ := H
              replace H : (if (t195.length : Int) = 0 then (some false) else ((edit_Diff.f kj3 y159 y159).bind fun t198 => (some ((t198.length : Int) == 0)))) = some true := H
              have A38 := mk0 A380
              clear A380
              by_cases c39 : (t195.length : Int) = 0
              ·rw [if_pos c39] at H
               have c39b0 : ((t195.length : Int) == 0) = true := beq_iff_eq.mpr c39
               have c39b1 : ((t195.length : Int) != 0) = false := bne_eq_false_iff_eq.mpr c39
               clear c39
               exact absurd H (by simp)
              ·rw [if_neg c39] at H
               have c39b0 : ((t195.length : Int) == 0) = false := beq_eq_false_iff_ne.mpr c39
               have c39b1 : ((t195.length : Int) != 0) = true := bne_iff_ne.mpr c39
               have c39b2 : ¬ (t195 = []) := fun h_ => c39 (by rw [h_]; rfl)
               replace H := Option.bind_eq_some_iff.mp H
               obtain ⟨t198, A400, H⟩ := H
               replace H : (some ((t198.length : Int) == 0)) = some true := H
               have A40 := mk0 A400
               clear A400
               have HT := mk0 (Option.some.inj H)
               clear H
               obtain ⟨Ao41, co41, eo41⟩ := Kd.N_slice HO_5.out
               subst eo41
               go_wp2_with (first | ((with_reducible refine gate_callee (f := 12) rfl ?_); refine goesL_ (some 53) rfl rfl Tryd.func12 (by kernel_rfl) rfl #[.slice Ao16 t168.length co16, .slice Ao41 t174.length co41] rfl (by (try simp only [List.map_toArray, List.map_cons, List.map_nil]); first | done | rfl | (simp only [List.length_drop, List.length_take]; rfl)) ?_; (with_reducible refine (edit_Apply.calls kj3 _ _ t168 _ _ t174 t183 t184 _ ?side1 ?side2 ?side3 ?side4 A26.out).mono ?_); (case side1 => repeat (first | exact (Kd.R_reads' HO_3.out).2.2 | (with_reducible refine Kd.C_alloc ?_ _) | (with_reducible refine Kd.C_drewN ?_ _) | (with_reducible refine Kd.C_drew ?_))); (case side2 => exact (Kd.R_reads' HO_3.out).2.1); (case side3 => repeat (first | exact (Kd.N_reads' HO_5.out).2.2 | (with_reducible refine Kd.C_alloc ?_ _) | (with_reducible refine Kd.C_drewN ?_ _) | (with_reducible refine Kd.C_drew ?_))); (case side4 => exact (Kd.N_reads' HO_5.out).2.1); rintro e w42 ⟨v185, v187, rfl, ho0, ho1, hb⟩; refine ⟨_, rfl, ?_⟩; have n0_ := mk0 (Kd.R_elder' (uR HO_1.out) (Kd.R_base ho0) hb); have n1_ := mk0 (Kd.N_mono (Kd.N_told (Kd.N_told (Kd.N_old (uN HO_2.out) hb) (Kd.R_base ho0)) (Kd.R_base ho1)) (fun _ h_ => h_.1)); have n2_ := mk0 (Kd.R_elder' (uR HO_3.out) (Kd.R_base ho0) hb); have n3_ := mk0 (Kd.N_mono (Kd.N_told (Kd.N_told (Kd.N_old (uN HO_5.out) hb) (Kd.R_base ho0)) (Kd.R_base ho1)) (fun _ h_ => h_.1)); have n4_ := mk0 (Kd.N_mono (Kd.N_told (Kd.N_told (Kd.N_old (uN HO_7.out) hb) (Kd.R_base ho0)) (Kd.R_base ho1)) (fun _ h_ => h_.1)); have n5_ := mk0 (Kd.R_lower (Kd.R_new' (Kd.R_new' ho0 (Kd.R_lt (uR HO_1.out))) (Kd.R_lt (uR HO_3.out))) (below_size (uL HB.out))); have n6_ := mk0 (Kd.R_lower ho1 (below_size (uL HB.out))); have n7_ := mk0 (below_step (uL HB.out) hb); clear HO_1; clear HO_2; clear HO_3; clear HO_5; clear HO_7; clear HB; have HO_1 := n0_; have HO_2 := n1_; have HO_3 := n2_; have HO_5 := n3_; have HO_7 := n4_; have HO186 := n5_; have HO188 := n6_; have HB := n7_; clear n0_ n1_ n2_ n3_ n4_ n5_ n6_ n7_; (try clear hb); (try clear hb2); (try clear hk); (try clear hi); (try clear ho0); (try clear ho1); (first | (have EHO188 := cmpV_no HO188.out (by with_reducible assumption)) | (have EHO188 := cmpV_yes HO188.out (by with_reducible assumption)) | skip); obtain ⟨Ao43, co43, eo43⟩ := Kd.R_slice HO186.out; subst eo43) | (go_at_call 14; (with_reducible refine (furrowref4_SameLines.calls kj3 _ _ t183 _ _ y159 true _ ?side1 ?side2 ?side3 ?side4 A28.out).mono ?_); (case side1 => repeat (first | exact (Kd.R_reads' HO186.out).2.2 | (with_reducible refine Kd.C_alloc ?_ _) | (with_reducible refine Kd.C_drewN ?_ _) | (with_reducible refine Kd.C_drew ?_))); (case side2 => exact (Kd.R_reads' HO186.out).2.1); (case side3 => repeat (first | exact (Kd.R_reads' HO_1.out).2.2 | (with_reducible refine Kd.C_alloc ?_ _) | (with_reducible refine Kd.C_drewN ?_ _) | (with_reducible refine Kd.C_drew ?_))); (case side4 => exact (Kd.R_reads' HO_1.out).2.1); rintro e w' ⟨rfl, ⟨nd, rfl⟩⟩; have p190 : 0 ≤ (2 : Int) := (by omega); have q190 : 2 < (t168.length : Int) := of_decide_eq_true (by first | (with_reducible assumption) | assumption); obtain ⟨ad190, e190, hx190_0⟩ := Kd.at_string (Kd.R_reads' HO_3.out).2.2 2 p190 q190; cases e190; (try simp only [show (2 : Int).toNat = 2 from rfl, Nat.reduceMul, Nat.reduceEqDiff, Go.Addr.add, ↓reduceIte] at hx190_0); have qi190 : (2 < t168.length) = True := eq_true (by omega); (try rw [show ((2 : Int)).toNat = 2 from rfl] at hx190_0); replace p190 := eq_true p190; replace q190 := eq_true q190; have p191 : 0 ≤ (0 : Int) := (by omega); have q191 : 0 < (t174.length : Int) := of_decide_eq_true (by first | (with_reducible assumption) | assumption); obtain ⟨ad191, A191_2, c191_2, e191, hx191_0, hx191_1, hx191_2, hl191_2, hi191_2⟩ := at_T38 (Kd.N_reads' HO_5.out).2.2 0 p191 q191; cases e191; obtain ⟨ce191, hce191, hMe191, hcc191⟩ := Kd.N_get HO_5.out z38 0 p191 (by first | exact q191 | exact of_decide_eq_true (by first | (with_reducible assumption) | assumption) | (have e_ := (Kd.N_reads' HO_5.out).1; omega)); obtain ⟨ua191_2, uc191_2, rfl, ul191_2, ge191_2⟩ := k38_openF hMe191; have hv191_2 := hcc191 2 _ rfl; rw [add_field _ _ 2 (by omega)] at hv191_2; replace hv191_2 := Option.some.inj (hv191_2.symm.trans hx191_2); injection hv191_2 with hva_ hvn_ hvc_; rw [hva_] at ge191_2; rw [hvc_] at ul191_2; have HL191_2 := mk0 (show Kd.V Kd.string 9 _ w.heap.size _ _ ((rd_T38 t174 0).f2) from Kd.V_mk ul191_2 ge191_2); clear hva_ hvn_ hvc_ ge191_2 ul191_2; clear hcc191 hce191; have qi191 : (0 < t174.length) = True := eq_true (by omega); (try rw [show ((0 : Int)).toNat = 0 from rfl] at hx191_0); (try rw [show 0 * 3 = 0 from rfl] at hx191_0); (try rw [Addr.add_zero'] at hx191_0); (try rw [show ((0 : Int)).toNat = 0 from rfl] at hx191_1); (try rw [show 0 * 3 = 0 from rfl] at hx191_1); (try rw [Addr.add_zero'] at hx191_1); (try rw [show ((0 : Int)).toNat = 0 from rfl] at hx191_2); (try rw [show 0 * 3 = 0 from rfl] at hx191_2); (try rw [Addr.add_zero'] at hx191_2); have HR191_2 := mk0 hi191_2; have HC191_2 := mk0 hl191_2; clear hi191_2 hl191_2; replace p191 := eq_true p191; replace q191 := eq_true q191; have p192 : 0 ≤ (0 : Int) := (by omega); have q192 : 0 < (t174.length : Int) := of_decide_eq_true (by first | (with_reducible assumption) | assumption); obtain ⟨ad192, A192_2, c192_2, e192, hx192_0, hx192_1, hx192_2, hl192_2, hi192_2⟩ := at_T38 (Kd.N_reads' HO_5.out).2.2 0 p192 q192; obtain rfl : ad191 = ad192 := (by injection e192); obtain ⟨ce192, hce192, hMe192, hcc192⟩ := Kd.N_get HO_5.out z38 0 p192 (by first | exact q192 | exact of_decide_eq_true (by first | (with_reducible assumption) | assumption) | (have e_ := (Kd.N_reads' HO_5.out).1; omega)); obtain ⟨ua192_2, uc192_2, rfl, ul192_2, ge192_2⟩ := k38_openF hMe192; have hv192_2 := hcc192 2 _ rfl; rw [add_field _ _ 2 (by omega)] at hv192_2; replace hv192_2 := Option.some.inj (hv192_2.symm.trans hx192_2); injection hv192_2 with hva_ hvn_ hvc_; rw [hva_] at ge192_2; rw [hvc_] at ul192_2; have HL192_2 := mk0 (show Kd.V Kd.string 9 _ w.heap.size _ _ ((rd_T38 t174 0).f2) from Kd.V_mk ul192_2 ge192_2); clear hva_ hvn_ hvc_ ge192_2 ul192_2; clear hcc192 hce192; have qi192 : (0 < t174.length) = True := eq_true (by omega); (try rw [show ((0 : Int)).toNat = 0 from rfl] at hx192_0); (try rw [show 0 * 3 = 0 from rfl] at hx192_0); (try rw [Addr.add_zero'] at hx192_0); (try rw [show ((0 : Int)).toNat = 0 from rfl] at hx192_1); (try rw [show 0 * 3 = 0 from rfl] at hx192_1); (try rw [Addr.add_zero'] at hx192_1); (try rw [show ((0 : Int)).toNat = 0 from rfl] at hx192_2); (try rw [show 0 * 3 = 0 from rfl] at hx192_2); (try rw [Addr.add_zero'] at hx192_2); have HR192_2 := mk0 hi192_2; have HC192_2 := mk0 hl192_2; clear hi192_2 hl192_2; replace p192 := eq_true p192; replace q192 := eq_true q192; have ea_ := Option.some.inj (hx191_2.symm.trans hx192_2); injection ea_ with ea_ en_ ec_; subst ea_; subst ec_; clear en_; obtain ⟨Ao44, co44, eo44⟩ := Kd.N_slice HO_7.out; subst eo44; have p193 : 0 ≤ (0 : Int) := (by omega); have q193 : 0 < (t180.length : Int) := of_decide_eq_true (by first | (with_reducible assumption) | assumption); obtain ⟨ad193, A193_2, c193_2, e193, hx193_0, hx193_1, hx193_2, hl193_2, hi193_2⟩ := at_T38 (Kd.N_reads' HO_7.out).2.2 0 p193 q193; cases e193; obtain ⟨ce193, hce193, hMe193, hcc193⟩ := Kd.N_get HO_7.out z38 0 p193 (by first | exact q193 | exact of_decide_eq_true (by first | (with_reducible assumption) | assumption) | (have e_ := (Kd.N_reads' HO_7.out).1; omega)); obtain ⟨ua193_2, uc193_2, rfl, ul193_2, ge193_2⟩ := k38_openF hMe193; have hv193_2 := hcc193 2 _ rfl; rw [add_field _ _ 2 (by omega)] at hv193_2; replace hv193_2 := Option.some.inj (hv193_2.symm.trans hx193_2); injection hv193_2 with hva_ hvn_ hvc_; rw [hva_] at ge193_2; rw [hvc_] at ul193_2; have HL193_2 := mk0 (show Kd.V Kd.string 9 _ w.heap.size _ _ ((rd_T38 t180 0).f2) from Kd.V_mk ul193_2 ge193_2); clear hva_ hvn_ hvc_ ge193_2 ul193_2; clear hcc193 hce193; have qi193 : (0 < t180.length) = True := eq_true (by omega); (try rw [show ((0 : Int)).toNat = 0 from rfl] at hx193_0); (try rw [show 0 * 3 = 0 from rfl] at hx193_0); (try rw [Addr.add_zero'] at hx193_0); (try rw [show ((0 : Int)).toNat = 0 from rfl] at hx193_1); (try rw [show 0 * 3 = 0 from rfl] at hx193_1); (try rw [Addr.add_zero'] at hx193_1); (try rw [show ((0 : Int)).toNat = 0 from rfl] at hx193_2); (try rw [show 0 * 3 = 0 from rfl] at hx193_2); (try rw [Addr.add_zero'] at hx193_2); have HR193_2 := mk0 hi193_2; have HC193_2 := mk0 hl193_2; clear hi193_2 hl193_2; replace p193 := eq_true p193; replace q193 := eq_true q193; have p194 : 0 ≤ (0 : Int) := (by omega); have q194 : 0 < (t180.length : Int) := of_decide_eq_true (by first | (with_reducible assumption) | assumption); obtain ⟨ad194, A194_2, c194_2, e194, hx194_0, hx194_1, hx194_2, hl194_2, hi194_2⟩ := at_T38 (Kd.N_reads' HO_7.out).2.2 0 p194 q194; obtain rfl : ad193 = ad194 := (by injection e194); obtain ⟨ce194, hce194, hMe194, hcc194⟩ := Kd.N_get HO_7.out z38 0 p194 (by first | exact q194 | exact of_decide_eq_true (by first | (with_reducible assumption) | assumption) | (have e_ := (Kd.N_reads' HO_7.out).1; omega)); obtain ⟨ua194_2, uc194_2, rfl, ul194_2, ge194_2⟩ := k38_openF hMe194; have hv194_2 := hcc194 2 _ rfl; rw [add_field _ _ 2 (by omega)] at hv194_2; replace hv194_2 := Option.some.inj (hv194_2.symm.trans hx194_2); injection hv194_2 with hva_ hvn_ hvc_; rw [hva_] at ge194_2; rw [hvc_] at ul194_2; have HL194_2 := mk0 (show Kd.V Kd.string 9 _ w.heap.size _ _ ((rd_T38 t180 0).f2) from Kd.V_mk ul194_2 ge194_2); clear hva_ hvn_ hvc_ ge194_2 ul194_2; clear hcc194 hce194; have qi194 : (0 < t180.length) = True := eq_true (by omega); (try rw [show ((0 : Int)).toNat = 0 from rfl] at hx194_0); (try rw [show 0 * 3 = 0 from rfl] at hx194_0); (try rw [Addr.add_zero'] at hx194_0); (try rw [show ((0 : Int)).toNat = 0 from rfl] at hx194_1); (try rw [show 0 * 3 = 0 from rfl] at hx194_1); (try rw [Addr.add_zero'] at hx194_1); (try rw [show ((0 : Int)).toNat = 0 from rfl] at hx194_2); (try rw [show 0 * 3 = 0 from rfl] at hx194_2); (try rw [Addr.add_zero'] at hx194_2); have HR194_2 := mk0 hi194_2; have HC194_2 := mk0 hl194_2; clear hi194_2 hl194_2; replace p194 := eq_true p194; replace q194 := eq_true q194; have ea_ := Option.some.inj (hx193_2.symm.trans hx194_2); injection ea_ with ea_ en_ ec_; subst ea_; subst ec_; clear en_) | (go_at_call 23; (with_reducible refine (edit_Check.calls kj3 1 _ _ y165 t195 _ ?side1 ?side2 A38.out).mono ?_); (case side1 => repeat (first | exact (Kd.N_reads' HO_2.out).2.2 | (with_reducible refine Kd.C_alloc ?_ _) | (with_reducible refine Kd.C_drewN ?_ _) | (with_reducible refine Kd.C_drew ?_))); (case side2 => exact (Kd.N_reads' HO_2.out).2.1); rintro e w45 ⟨v196, rfl, ho0, hb⟩; have n0_ := mk0 (Kd.R_below (uR HO_1.out) hb); have n1_ := mk0 (Kd.N_elder' (uN HO_2.out) (Kd.R_base ho0) hb); have n2_ := mk0 (Kd.R_below (uR HO_3.out) hb); have n3_ := mk0 (Kd.N_elder' (uN HO_5.out) (Kd.R_base ho0) hb); have n4_ := mk0 (Kd.N_elder' (uN HO_7.out) (Kd.R_base ho0) hb); have n5_ := mk0 (Kd.R_below (uR HO186.out) hb); have n6_ := mk0 (Kd.R_elder' (uR HO188.out) (Kd.R_base ho0) hb); have n11_ := mk0 (Kd.R_lower (Kd.R_new' ho0 (Kd.R_lt (uR HO188.out))) (below_size (uL HB.out))); have n16_ := mk0 (below_step (uL HB.out) hb); clear HO_1; clear HO_2; clear HO_3; clear HO_5; clear HO_7; clear HO186; clear HO188; clear HB; have HO_1 := n0_; have HO_2 := n1_; have HO_3 := n2_; have HO_5 := n3_; have HO_7 := n4_; have HO186 := n5_; have HO188 := n6_; have HO197 := n11_; have HB := n16_; clear n0_ n1_ n2_ n3_ n4_ n5_ n6_ n11_ n16_; (try clear hb); (try clear hb2); (try clear hk); (try clear hi); (try clear ho0); (first | (have EHO197 := cmpV_no HO197.out (by with_reducible assumption)) | (have EHO197 := cmpV_yes HO197.out (by with_reducible assumption)) | skip)) | (go_at_call 15; (with_reducible refine (edit_Diff.calls kj3 _ _ y159 _ _ y159 t198 _ ?side1 ?side2 ?side3 ?side4 A40.out).mono ?_); (case side1 => repeat (first | exact (Kd.R_reads' HO_1.out).2.2 | (with_reducible refine Kd.C_alloc ?_ _) | (with_reducible refine Kd.C_drewN ?_ _) | (with_reducible refine Kd.C_drew ?_))); (case side2 => exact (Kd.R_reads' HO_1.out).2.1); (case side3 => repeat (first | exact (Kd.R_reads' HO_1.out).2.2 | (with_reducible refine Kd.C_alloc ?_ _) | (with_reducible refine Kd.C_drewN ?_ _) | (with_reducible refine Kd.C_drew ?_))); (case side4 => exact (Kd.R_reads' HO_1.out).2.1); rintro e w46 ⟨v199, rfl, ho0, hb⟩; have n0_ := mk0 (Kd.R_below (uR HO_1.out) hb); have n1_ := mk0 (Kd.N_elder' (uN HO_2.out) (Kd.N_base ho0) hb); have n2_ := mk0 (Kd.R_below (uR HO_3.out) hb); have n3_ := mk0 (Kd.N_elder' (uN HO_5.out) (Kd.N_base ho0) hb); have n4_ := mk0 (Kd.N_elder' (uN HO_7.out) (Kd.N_base ho0) hb); have n5_ := mk0 (Kd.R_below (uR HO186.out) hb); have n6_ := mk0 (Kd.R_below (uR HO188.out) hb); have n11_ := mk0 (Kd.R_below (uR HO197.out) hb); have n12_ := mk0 (Kd.N_lower (Kd.N_mono (ok' := fun k_ => some k_ ≠ (.slice Ao12 y159.length co12 : Value).ownBlock ∧ some k_ ≠ (.slice Ao13 y165.length co13 : Value).ownBlock ∧ some k_ ≠ (.slice (some ad190) t168.length co16 : Value).ownBlock ∧ some k_ ≠ (.slice (some ad191) t174.length co41 : Value).ownBlock ∧ some k_ ≠ (.slice (some ad193) t180.length co44 : Value).ownBlock ∧ some k_ ≠ (.slice Ao43 t183.length co43 : Value).ownBlock ∧ some k_ ≠ (v187 : Value).ownBlock ∧ some k_ ≠ (v196 : Value).ownBlock) ho0 (fun k_ hk_ => ⟨(Kd.fresh' (Kd.R_lt (uR HO_1.out)) k_ hk_), (Kd.fresh' (Kd.N_lt (uN HO_2.out)) k_ hk_), (Kd.fresh' (Kd.R_lt (uR HO_3.out)) k_ hk_), (Kd.fresh' (Kd.N_lt (uN HO_5.out)) k_ hk_), (Kd.fresh' (Kd.N_lt (uN HO_7.out)) k_ hk_), (Kd.fresh' (Kd.R_lt (uR HO186.out)) k_ hk_), (Kd.fresh' (Kd.R_lt (uR HO188.out)) k_ hk_), (Kd.fresh' (Kd.R_lt (uR HO197.out)) k_ hk_)⟩)) (below_size (uL HB.out))); have n17_ := mk0 (below_step (uL HB.out) hb); clear HO_1; clear HO_2; clear HO_3; clear HO_5; clear HO_7; clear HO186; clear HO188; clear HO197; clear HB; have HO_1 := n0_; have HO_2 := n1_; have HO_3 := n2_; have HO_5 := n3_; have HO_7 := n4_; have HO186 := n5_; have HO188 := n6_; have HO197 := n11_; have HO200 := n12_; have HB := n17_; clear n0_ n1_ n2_ n3_ n4_ n5_ n6_ n11_ n12_ n17_; (try clear hb); (try clear hb2); (try clear hk); (try clear hi); (try clear ho0); obtain ⟨Ao47, co47, eo47⟩ := Kd.N_slice HO200.out; subst eo47))
               go_ret
               exact ⟨by first | rfl | (simp [errW_none, errW_some] <;> rfl) | (exact congrArg (fun b_ => Ending.returned (Value.bool b_)) HT.out) | (rw [show _ = _ from HT.out]) | (simp [HT.out]; done) | (simp [show _ = _ from HT.out]; done) | (simp [*, errW_none, errW_some] <;> rfl), uL HB.out⟩
             ·rw [if_neg c37] at H
              have c37b0 : (((rd_T38 t180 0).f1) == 2) = false := beq_eq_false_iff_ne.mpr c37
              have c37b1 : (((rd_T38 t180 0).f1) != 2) = true := bne_iff_ne.mpr c37
              exact absurd H (by simp)
            ·rw [if_neg c36] at H
             have c36b0 : (((rd_T38 t180 0).f0) == 1) = false := beq_eq_false_iff_ne.mpr c36
             have c36b1 : (((rd_T38 t180 0).f0) != 1) = true := bne_iff_ne.mpr c36
             exact absurd H (by simp)
           ·rw [if_neg c35] at H
            exact absurd H (by simp)
          ·rw [if_neg c34] at H
           have c34b0 : (((rd_T38 t174 0).f1) == 3) = false := beq_eq_false_iff_ne.mpr c34
           have c34b1 : (((rd_T38 t174 0).f1) != 3) = true := bne_iff_ne.mpr c34
           exact absurd H (by simp)
         ·rw [if_neg c33] at H
          have c33b0 : (((rd_T38 t174 0).f0) == 1) = false := beq_eq_false_iff_ne.mpr c33
          have c33b1 : (((rd_T38 t174 0).f0) != 1) = true := bne_iff_ne.mpr c33
          exact absurd H (by simp)
        ·rw [if_neg c32] at H
         exact absurd H (by simp)
       ·rw [if_neg c31] at H
        have c31b0 : ((rdOf ByteArray.empty t168 2).toList == ([121] : List UInt8)) = false := beq_eq_false_iff_ne.mpr c31
        have c31b1 : ((rdOf ByteArray.empty t168 2).toList != ([121] : List UInt8)) = true := bne_iff_ne.mpr c31
        exact absurd H (by simp)
      ·rw [if_neg c30] at H
       exact absurd H (by simp)
     ·replace c29 := Bool.eq_false_iff.mpr c29
      subst c29
      have H1 : (some false) = some true := by rw [if_neg (show ¬ (false = true) by decide)] at H; first | done | exact H
      clear H
      have H := H1
      clear H1
      exact absurd H (by simp)
    ·rw [if_neg c27] at H
     have c27b0 : ((t184.length : Int) == 0) = false := beq_eq_false_iff_ne.mpr c27
     have c27b1 : ((t184.length : Int) != 0) = true := bne_iff_ne.mpr c27
     have c27b2 : ¬ (t184 = []) := fun h_ => c27 (by rw [h_]; rfl)
     exact absurd H (by simp)

end Go.Proofs.YteeeoblpfepepaaDoor.X
