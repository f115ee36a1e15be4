-- PRINTED by print.py (a twelfth state) out of the translation. Not trusted: Lean checks it.
import Derived.Test.YtmhkijidnpihmaaDoorXx0
import Derived.Test.YtmhkijidnpihmaaDoorXx1
namespace Go.Proofs.YtmhkijidnpihmaaDoor.X
open Go.Proofs.YtmhkijidnpihmaaDoor.Flt Go.Proofs.YtmhkijidnpihmaaDoor.H Go.RowKit Go.Proofs.YtmhkijidnpihmaaDoorW.PrintWords Go.Proofs.YtmhkijidnpihmaaDoorW.PrintLast Go.Proofs.YtmhkijidnpihmaaDoorW.PrintMore
attribute [local go_sem] max2_int min2_int max_two min_two max_three min_three max_four min_four   -- for this text's walks alone
set_option linter.unusedVariables false
set_option linter.unusedSimpArgs false

/-! ### furrowlaw9_Table: function 8 -/
def furrowlaw9_Table.l0 : Nat → List ByteArray → Int → List (S71) → Int → Option ((List (S71)) × Int)
 | 0, _, _, _, _ => none
 | k + 1, x4, x5, x117000, x117001 => if x5 < (x4.length : Int) then (if 0 ≤ x5 then ((furrowlaw9_add.f x117000 x117001 (rdOf ByteArray.empty x4 x5) ([] : List Int) 1).bind fun bt135 => (furrowlaw9_Table.l0 k x4 (wrap64 (x5 + 1)) bt135.1 bt135.2)) else (none)) else (some (x117000, x117001))
def furrowlaw9_Table.f (k : Nat) (a0 : Int) : Option ((List (S71)) × Int) := (furrowlaw9_add.f ([] : List (S71)) 0 (⟨#[97]⟩ : ByteArray) (([a0] : List Int)) a0).bind fun bt120 => ((furrowlaw9_add.f bt120.1 bt120.2 (⟨#[98]⟩ : ByteArray) (([3, 2] : List Int)) 6).bind fun bt127 => (furrowlaw9_Table.l0 k (([(⟨#[120]⟩ : ByteArray), (⟨#[121]⟩ : ByteArray), (⟨#[110]⟩ : ByteArray), (⟨#[105]⟩ : ByteArray), (⟨#[106]⟩ : ByteArray)] : List ByteArray)) 0 bt127.1 bt127.2))
theorem furrowlaw9_Table.mono_l : ∀ k, (∀ y0 y1 y2 y3, LeO (furrowlaw9_Table.l0 k y0 y1 y2 y3) (furrowlaw9_Table.l0 (k + 1) y0 y1 y2 y3))
 | 0 => fun _ _ _ _ r h => by simp [furrowlaw9_Table.l0] at h
 | k + 1 => by
  have ih0 := furrowlaw9_Table.mono_l k
  ·intro y0 y1 y2 y3
   unfold furrowlaw9_Table.l0
   repeat' first
   | (with_reducible exact ih0 _ _ _ _)
   | (with_reducible exact LeO.refl _)
   | (with_reducible exact LeO.none _)
   | (with_reducible refine LeO.ite ?_ ?_)
   | (with_reducible refine LeO.bind ?_ (fun _ => ?_))
   | exact ih0 _ _ _ _
   | exact LeO.none _
   | refine LeO.ite ?_ ?_
   | refine LeO.bind ?_ (fun _ => ?_)
theorem furrowlaw9_Table.mono : ∀ a0 k, LeO (furrowlaw9_Table.f k a0) (furrowlaw9_Table.f (k + 1) a0) := by
 intro a0 k
 have ih0 := furrowlaw9_Table.mono_l k
 unfold furrowlaw9_Table.f
 repeat' first
   | (with_reducible exact ih0 _ _ _ _)
   | (with_reducible exact LeO.refl _)
   | (with_reducible exact LeO.none _)
   | (with_reducible refine LeO.ite ?_ ?_)
   | (with_reducible refine LeO.bind ?_ (fun _ => ?_))
   | exact ih0 _ _ _ _
   | exact LeO.none _
   | refine LeO.ite ?_ ?_
   | refine LeO.bind ?_ (fun _ => ?_)
set_option maxHeartbeats 8000000 in
set_option maxRecDepth 100000 in
theorem furrowlaw9_Table.calls (k : Nat) (a0 : Int) (r1 : List (S71)) (r2 : Int) (w : World) (h : furrowlaw9_Table.f k a0 = some (r1, r2)) :
  Calls Tryd.prog 8 #[.int .i64 a0] w fun e w' => ∃ v0_ : Value, e = .returned (.agg #[v0_, .int .i64 r2]) ∧ Kd.N k71 71 w' w.heap.size (fun k_ => (w.heap.size ≤ k_)) v0_ r1 ∧ Below w.heap.size w w' := by
 have hu29 := Tryd.underlying29
 have HB := mk0 (Below.refl w.heap.size w)
 have H : ((furrowlaw9_add.f ([] : List (S71)) 0 (⟨#[97]⟩ : ByteArray) (([a0] : List Int)) a0).bind fun au => ((furrowlaw9_add.f au.1 au.2 (⟨#[98]⟩ : ByteArray) (([3, 2] : List Int)) 6).bind fun aj => (furrowlaw9_Table.l0 k (([(⟨#[120]⟩ : ByteArray), (⟨#[121]⟩ : ByteArray), (⟨#[110]⟩ : ByteArray), (⟨#[105]⟩ : ByteArray), (⟨#[106]⟩ : ByteArray)] : List ByteArray)) 0 aj.1 aj.2))) = some (r1, r2) := h
 clear h
 obtain ⟨aG, av⟩ : ∃ y_ : List Int, y_ = (([a0] : List Int)) := ⟨_, rfl⟩
 replace H : ((furrowlaw9_add.f ([] : List (S71)) 0 (⟨#[97]⟩ : ByteArray) aG a0).bind fun au => ((furrowlaw9_add.f au.1 au.2 (⟨#[98]⟩ : ByteArray) (([3, 2] : List Int)) 6).bind fun aj => (furrowlaw9_Table.l0 k (([(⟨#[120]⟩ : ByteArray), (⟨#[121]⟩ : ByteArray), (⟨#[110]⟩ : ByteArray), (⟨#[105]⟩ : ByteArray), (⟨#[106]⟩ : ByteArray)] : List ByteArray)) 0 aj.1 aj.2))) = some (r1, r2) := by first | (rw [av]; with_reducible exact H) | (have H2_ := (Option.bind_some _ _).symm.trans H; rw [av]; with_reducible exact H2_) | (have H2_ := (Option.bind_some _ _).symm.trans H; with_reducible exact H2_) | with_reducible exact H | (rw [av]; exact H) | exact H
 have bc := mk0 av
 clear av
 replace H := Option.bind_eq_some_iff.mp H
 obtain ⟨⟨ak, al⟩, bd, H⟩ := H
 dsimp only at H
 have A2 := mk0 bd
 clear bd
 obtain ⟨aw, ax⟩ : ∃ y_ : List Int, y_ = (([3, 2] : List Int)) := ⟨_, rfl⟩
 replace H : ((furrowlaw9_add.f ak al (⟨#[98]⟩ : ByteArray) aw 6).bind fun aj => (furrowlaw9_Table.l0 k (([(⟨#[120]⟩ : ByteArray), (⟨#[121]⟩ : ByteArray), (⟨#[110]⟩ : ByteArray), (⟨#[105]⟩ : ByteArray), (⟨#[106]⟩ : ByteArray)] : List ByteArray)) 0 aj.1 aj.2)) = some (r1, r2) := by first | (rw [ax]; with_reducible exact H) | (have H2_ := (Option.bind_some _ _).symm.trans H; rw [ax]; with_reducible exact H2_) | (have H2_ := (Option.bind_some _ _).symm.trans H; with_reducible exact H2_) | with_reducible exact H | (rw [ax]; exact H) | exact H
 have bf := mk0 ax
 clear ax
 replace H := Option.bind_eq_some_iff.mp H
 obtain ⟨⟨aq, ay⟩, bg, H⟩ := H
 dsimp only at H
 have A3 := mk0 bg
 clear bg
 obtain ⟨af, az⟩ : ∃ y_ : List ByteArray, y_ = (([(⟨#[120]⟩ : ByteArray), (⟨#[121]⟩ : ByteArray), (⟨#[110]⟩ : ByteArray), (⟨#[105]⟩ : ByteArray), (⟨#[106]⟩ : ByteArray)] : List ByteArray)) := ⟨_, rfl⟩
 replace H : (furrowlaw9_Table.l0 k af 0 aq ay) = some (r1, r2) := by first | (rw [az]; with_reducible exact H) | (have H2_ := (Option.bind_some _ _).symm.trans H; rw [az]; with_reducible exact H2_) | (have H2_ := (Option.bind_some _ _).symm.trans H; with_reducible exact H2_) | with_reducible exact H | (rw [az]; exact H) | exact H
 have bh := mk0 az
 clear az
 have H' := mk0 H
 clear H
 go_enter Tryd.func8, Tryd.ntmps8
 go_wp2_with (first | ((with_reducible refine gate_dst (N := 2) rfl ?_); refine bxE 2 #[.slice none 0 0, .int .i64 0] 29 ?_; intro ae hg w4 hbox hb; have ab := mk0 (hbox); have b3 := gE (uL HB.out) hg; have b4 := gE (uL HB.out) hg; replace HB := hbB (uL HB.out) hb; clear hb hbox hg) | ((with_reducible refine gate_dst (N := 3) rfl ?_); refine bxE 3 #[.slice none 0 0, .int .i64 0] 29 ?_; intro ac hg w5 hbox hb; have aa := mk0 (hbox); have b5 := gE bH hg; have b6 := gE bH hg; replace HB := hbB bH hb; have aH := nL ab hg; have aI := nG ab hg; replace ab := bB ab hb; clear hb hbox hg; have b7 := aI.out; have b8 := aH.out; obtain ⟨bw, bx, bz, bC⟩ := cL2 aa) | ((with_reducible refine gate_dst (N := 9) rfl ?_); refine Kd.R_lit (Kd.int .i64) _ 2 ?hg (N := 9) ?hd (xs := ([a0] : List Int)) (inner := [.int .i64 a0]) (ok := fun _ => True) (okp := fun _ => True) ?hr ?hp (fun _ hk => hk) trivial (Below.refl _ _) (Nat.le_refl _) (by simp) ?_; (case hd => rfl); (case hg => rfl); (case hr => first | (go_simp; done) | (go_simp; rfl)); (case hp => exact (Reps.one (show Kd.M (Kd.int .i64) _ _ _ a0 [.int .i64 a0] from rfl) (Reps.none _ _))); intro b9 w8 ho9 hb hg_ hnew_; clear hg_ hnew_; (first | rw [← bc.out] at ho9 | (simp only [Int.reduceToNat] at ho9; rw [← bc.out] at ho9)); have am := mk0 (Kd.R_lower (Kd.R_newM (M := fun k_ => (w.heap.size ≤ k_)) ho9 (below_size bH) (fun k_ h_ => h_)) (below_size bH)); replace ab := mk0 (blk_below (g := ae) (o := .cells #[.slice none 0 0, .int .i64 0] 29 (0, 0)) (kB) hb); replace aa := mk0 (blk_below (g := ac) (o := .cells #[.slice none 0 0, .int .i64 0] 29 (0, 0)) (kB) hb); replace HB := hbB bH hb; clear hb ho9; obtain ⟨bi, bj, bE⟩ := Kd.R_slice am.out; subst bE) | ((with_reducible refine gate_dst (N := 11) rfl ?_); refine gsM (some 11) Tryd.func22 #[.agg #[.slice none 0 0, .int .i64 0], .string (⟨#[97]⟩ : ByteArray), .slice bi aG.length bj, .int .i64 a0] ?_; (refine (furrowlaw9_add.calls (fun k_ => False) _ _ ([] : List (S71)) 0 (⟨#[97]⟩ : ByteArray) (fun k_ => some k_ = (.slice bi aG.length bj : Value).ownBlock) _ _ aG a0 ak al _ ?side1 ?side2 A2.out).mono ?_); (case side1 => exact Kd.V_nil _ _ _ _ _); (case side2 => exact Kd.R_V (Kd.R_tight rfl (Kd.R_types (Kd.R_types (am.out) ab.out (by decide)) aa.out (by decide)))); rintro e ca ⟨cb, rfl, ho0, hb⟩; refine ⟨_, rfl, ?_⟩; have ao := mk0 (Kd.N_lower (Kd.N_mono (ok' := fun k_ => (w.heap.size ≤ k_) ∧ k_ ≠ ae ∧ k_ ≠ ac) ho0 (fun k_ hk_ => ⟨Or.elim hk_ (fun hs_ => Or.elim hs_ (fun hs_ => (hs_).elim) (fun hs_ => ((Kd.R_types (Kd.R_types (am.out) ab.out (by decide)) aa.out (by decide)).1 k_ hs_.symm).1.1.1)) (fun hn_ => (Nat.le_trans (below_size bH) hn_)), Or.elim hk_ (fun hs_ => Or.elim hs_ (fun hs_ => (hs_).elim) (fun hs_ => ((Kd.R_types (Kd.R_types (am.out) ab.out (by decide)) aa.out (by decide)).1 k_ hs_.symm).1.2)) (fun hn_ => (Kd.freshB (g := ae) (o := .cells #[.slice none 0 0, .int .i64 0] 29 (0, 0)) (uB ab.out) k_ hn_)), Or.elim hk_ (fun hs_ => Or.elim hs_ (fun hs_ => (hs_).elim) (fun hs_ => ((Kd.R_types (Kd.R_types (am.out) ab.out (by decide)) aa.out (by decide)).1 k_ hs_.symm).2)) (fun hn_ => (Kd.freshB (g := ac) (o := .cells #[.slice none 0 0, .int .i64 0] 29 (0, 0)) (uB aa.out) k_ hn_))⟩)) (below_size bH)); replace am := rB am hb; replace ab := bB ab hb; replace aa := bB aa hb; replace HB := hbB bH hb; (try clear hb hk ho0); obtain ⟨aA, aC, bF⟩ := Kd.N_slice ao.out; subst bF; obtain ⟨bG, bI, bJ, bK⟩ := cL2 aa) | ((with_reducible refine gate_dst (N := 13) rfl ?_); refine Kd.R_lit (Kd.int .i64) _ 2 ?hg (N := 13) ?hd (xs := ([3, 2] : List Int)) (inner := [.int .i64 3, .int .i64 2]) (ok := fun _ => True) (okp := fun _ => True) ?hr ?hp (fun _ hk => hk) trivial (Below.refl _ _) (Nat.le_refl _) (by simp) ?_; (case hd => rfl); (case hg => rfl); (case hr => first | (go_simp; done) | (go_simp; rfl)); (case hp => exact (Reps.one (show Kd.M (Kd.int .i64) _ _ _ 3 [.int .i64 3] from rfl) (Reps.one (show Kd.M (Kd.int .i64) _ _ _ 2 [.int .i64 2] from rfl) (Reps.none _ _)))); intro cd ce ho15 hb hg_ hnew_; clear hg_ hnew_; (first | rw [← bf.out] at ho15 | (simp only [Int.reduceToNat] at ho15; rw [← bf.out] at ho15)); replace ao := mk0 (Kd.N_elder' (uN (Kd.N_mono (Kd.N_far (p := ⟨ac, 1, none⟩) (Kd.N_far (p := ⟨ac, 0, none⟩) (Kd.N_mono ao.out (fun k_ hk => (⟨hk, hk.2.2⟩ : _ ∧ k_ ≠ ac))) (fun _ hk => hk.2) (.slice aA ak.length aC)) (fun _ hk => hk.2) (.int .i64 al)) (fun _ h_ => h_.1))) (Kd.R_base ho15) hb); have aD := mk0 (Kd.R_lower (Kd.R_new' (Kd.R_newM (M := fun k_ => (w.heap.size ≤ k_)) ho15 (below_size bH) (fun k_ h_ => h_)) (Kd.R_lt (uR (Kd.R_mono (Kd.R_far (p := ⟨ac, 1, none⟩) (Kd.R_far (p := ⟨ac, 0, none⟩) (Kd.R_types am.out aa.out (by decide)) (fun _ hk => hk.2) (.slice aA ak.length aC)) (fun _ hk => hk.2) (.int .i64 al)) (fun _ h_ => h_.1))))) (below_size bH)); replace ab := mk0 (blk_below (g := ae) (o := .cells #[.slice none 0 0, .int .i64 0] 29 (0, 0)) (kB) hb); replace aa := mk0 (blk_below (g := ac) (o := .cells #[.slice aA ak.length aC, .int .i64 al] 29 (0, 0)) (kB) hb); replace HB := hbB bH hb; clear hb ho15; obtain ⟨aT, aU, bL⟩ := Kd.R_slice aD.out; subst bL) | ((with_reducible refine gate_dst (N := 14) rfl ?_); refine gsM (some 14) Tryd.func22 #[.agg #[.slice aA ak.length aC, .int .i64 al], .string (⟨#[98]⟩ : ByteArray), .slice aT aw.length aU, .int .i64 6] ?_; (with_reducible refine (furrowlaw9_add.calls (fun k_ => (((w.heap.size ≤ k_) ∧ (k_ ≠ ae ∧ k_ ≠ ac)) ∧ some k_ ≠ (.slice aT aw.length aU : Value).ownBlock)) _ _ ak al (⟨#[98]⟩ : ByteArray) (fun k_ => some k_ = (.slice aT aw.length aU : Value).ownBlock) _ _ aw 6 aq ay _ ?side1 ?side2 A3.out).mono ?_); (case side1 => exact Kd.N_V (ao.out)); (case side2 => exact Kd.R_V (Kd.R_tight rfl (Kd.R_types (Kd.R_types (Kd.R_apart' (aD.out) (Kd.N_typed ao.out) (by decide)) ab.out (by decide)) aa.out (by decide)))); rintro e cf ⟨cg, rfl, ho0, hb⟩; refine ⟨_, rfl, ?_⟩; have aJ := mk0 (Kd.N_lower (Kd.N_mono (ok' := fun k_ => (w.heap.size ≤ k_) ∧ k_ ≠ ae ∧ k_ ≠ ac) ho0 (fun k_ hk_ => ⟨Or.elim hk_ (fun hs_ => Or.elim hs_ (fun hs_ => hs_.1.1) (fun hs_ => ((Kd.R_types (Kd.R_types (Kd.R_apart' (aD.out) (Kd.N_typed ao.out) (by decide)) ab.out (by decide)) aa.out (by decide)).1 k_ hs_.symm).1.1.1.1.1)) (fun hn_ => (Nat.le_trans (below_size bH) hn_)), Or.elim hk_ (fun hs_ => Or.elim hs_ (fun hs_ => hs_.1.2.1) (fun hs_ => ((Kd.R_types (Kd.R_types (Kd.R_apart' (aD.out) (Kd.N_typed ao.out) (by decide)) ab.out (by decide)) aa.out (by decide)).1 k_ hs_.symm).1.2)) (fun hn_ => (Kd.freshB (g := ae) (o := .cells #[.slice none 0 0, .int .i64 0] 29 (0, 0)) (uB ab.out) k_ hn_)), Or.elim hk_ (fun hs_ => Or.elim hs_ (fun hs_ => hs_.1.2.2) (fun hs_ => ((Kd.R_types (Kd.R_types (Kd.R_apart' (aD.out) (Kd.N_typed ao.out) (by decide)) ab.out (by decide)) aa.out (by decide)).1 k_ hs_.symm).2)) (fun hn_ => (Kd.freshB (g := ac) (o := .cells #[.slice aA ak.length aC, .int .i64 al] 29 (0, 0)) (uB aa.out) k_ hn_))⟩)) (below_size bH)); replace ab := bB ab hb; replace aa := bB aa hb; replace HB := hbB bH hb; (try clear hb hk ho0); obtain ⟨aV, aW, bM⟩ := Kd.N_slice aJ.out; subst bM; obtain ⟨bO, bP, bQ, bR⟩ := cL2 aa) | ((with_reducible refine gate_dst (N := 15) rfl ?_); refine Kd.R_lit Kd.string _ 9 ?hg (N := 15) ?hd (xs := ([(⟨#[120]⟩ : ByteArray), (⟨#[121]⟩ : ByteArray), (⟨#[110]⟩ : ByteArray), (⟨#[105]⟩ : ByteArray), (⟨#[106]⟩ : ByteArray)] : List ByteArray)) (inner := [.string (⟨#[120]⟩ : ByteArray), .string (⟨#[121]⟩ : ByteArray), .string (⟨#[110]⟩ : ByteArray), .string (⟨#[105]⟩ : ByteArray), .string (⟨#[106]⟩ : ByteArray)]) (ok := fun _ => True) (okp := fun _ => True) ?hr ?hp (fun _ hk => hk) trivial (Below.refl _ _) (Nat.le_refl _) (by simp) ?_; (case hd => rfl); (case hg => rfl); (case hr => first | (go_simp; done) | (go_simp; rfl)); (case hp => exact (Reps.one (show Kd.M Kd.string _ _ _ (⟨#[120]⟩ : ByteArray) [.string (⟨#[120]⟩ : ByteArray)] from rfl) (Reps.one (show Kd.M Kd.string _ _ _ (⟨#[121]⟩ : ByteArray) [.string (⟨#[121]⟩ : ByteArray)] from rfl) (Reps.one (show Kd.M Kd.string _ _ _ (⟨#[110]⟩ : ByteArray) [.string (⟨#[110]⟩ : ByteArray)] from rfl) (Reps.one (show Kd.M Kd.string _ _ _ (⟨#[105]⟩ : ByteArray) [.string (⟨#[105]⟩ : ByteArray)] from rfl) (Reps.one (show Kd.M Kd.string _ _ _ (⟨#[106]⟩ : ByteArray) [.string (⟨#[106]⟩ : ByteArray)] from rfl) (Reps.none _ _))))))); intro bk ch ho21 hb hg_ hnew_; clear hg_ hnew_; (first | rw [← bh.out] at ho21 | (simp only [Int.reduceToNat] at ho21; rw [← bh.out] at ho21)); replace aJ := mk0 (Kd.N_elder' (uN (Kd.N_mono (Kd.N_far (p := ⟨ac, 1, none⟩) (Kd.N_far (p := ⟨ac, 0, none⟩) (Kd.N_mono aJ.out (fun k_ hk => (⟨hk, hk.2.2⟩ : _ ∧ k_ ≠ ac))) (fun _ hk => hk.2) (.slice aV aq.length aW)) (fun _ hk => hk.2) (.int .i64 ay)) (fun _ h_ => h_.1))) (Kd.R_base ho21) hb); have bT := mk0 (Kd.R_lower (Kd.R_newM (M := fun k_ => (w.heap.size ≤ k_)) ho21 (below_size bH) (fun k_ h_ => h_)) (below_size bH)); replace ab := mk0 (blk_below (g := ae) (o := .cells #[.slice none 0 0, .int .i64 0] 29 (0, 0)) (kB) hb); replace aa := mk0 (blk_below (g := ac) (o := .cells #[.slice aV aq.length aW, .int .i64 ay] 29 (0, 0)) (kB) hb); replace HB := hbB bH hb; clear hb ho21))
 go_loopg [5] k (fun kq v5 w' => ∃ (x5_1 : Int) (ag : List (S71)) (ah : Int) (aX : Value), v5 = .int .i64 x5_1 ∧ Aside0 (furrowlaw9_Table.l0 kq af x5_1 ag ah = some (r1, r2)) ∧ Aside0 (kq ≤ k) ∧ Aside0 (Kd.R Kd.string 9 w' w.heap.size (fun k_ => (w.heap.size ≤ k_)) bk af) ∧ Aside0 (Kd.N k71 71 w' w.heap.size (fun k_ => (w.heap.size ≤ k_) ∧ some k_ ≠ (bk : Value).ownBlock ∧ k_ ≠ ae ∧ k_ ≠ ac) aX ag) ∧ Aside0 (w'.heap[ae]? = some (.cells #[(.slice none 0 0), .int .i64 0] 29 (0, 0))) ∧ Aside0 (w'.heap[ac]? = some (.cells #[aX, .int .i64 ah] 29 (0, 0))) ∧ Aside0 (Below w.heap.size w w'))
 case atStart => exact ⟨(0), (aq), (ay), (.slice aV aq.length aW), eK, H', ⟨Nat.le_refl _⟩, ⟨uR (Kd.R_mono bT.out (fun _ hk => hk.1))⟩, ⟨uN (nP aJ)⟩, ⟨uB ab.out⟩, ⟨uB aa.out⟩, ⟨bH⟩⟩
 case round =>
  clear H'; (try clear bG bI bO bP bw bx bJ bK bQ bR bz bC); obtain ⟨x5_1, ag, ah, aX, rfl, HA, bl, ai, ap, ab, aa, HB⟩ := hrel
  cases gk with
  | zero => exact absurd HA.out (by simp [furrowlaw9_Table.l0])
  | succ k1 =>
   have H := HA.out; clear HA; simp only [furrowlaw9_Table.l0] at H
   by_cases ar : x5_1 < (af.length : Int)
   ·rw [if_pos ar] at H
    have bU := decide_eq_true ar; clear ar
    by_cases aK : 0 ≤ x5_1
    ·rw [if_pos aK] at H
     have ci := decide_eq_true aK; clear aK; replace H := Option.bind_eq_some_iff.mp H; obtain ⟨⟨aE, aM⟩, bm, H⟩ := H; dsimp only at H; have bV := mk0 bm; clear bm; have H' := mk0 H; clear H; obtain ⟨cj, bn, bW⟩ := Kd.R_slice ai.out; subst bW; (try go_wp2); replace ai := mk0 (Kd.R_drew ai.out); replace ap := mk0 (Kd.N_drew ap.out); replace ab := mk0 (blk_drew ab.out); replace aa := mk0 (blk_drew aa.out); replace HB := mk0 (below_drew1 HB.out); have aY : 0 ≤ (x5_1 : Int) := dY; have aZ : x5_1 < (af.length : Int) := dY; obtain ⟨a_, bX, bo⟩ := Kd.at_string (Kd.R_reads' ai.out).2.2 x5_1 aY aZ
     cases bX
     replace aY := eq_true aY; replace aZ := eq_true aZ; obtain ⟨aN, aQ, bp⟩ := Kd.N_slice ap.out; (first | subst bp | (injection bp with f1_ f2_ f3_; have f4_ := f1_.symm; have f5_ := f3_.symm; clear f1_ f2_ f3_; subst f4_; subst f5_)); refine start_ (n := 7) (S := fun w' => w'.cell? ⟨ac, 0, none⟩ = some (.slice aN ag.length aQ) ∧ w'.cell? ⟨ac, 1, none⟩ = some (.int .i64 ah) ∧ w'.cell? (a_.add (x5_1).toNat) = some (.string (rdOf ByteArray.empty af x5_1))) (ds := [6]) (bts 7 0) (by kernel_rfl) rfl rfl ⟨(blk_cell aa.out 0).trans rfl, (blk_cell aa.out 1).trans rfl, bo⟩ (fun hHeld => ?_); generalize wr.drew = ck at ai ap ab aa HB bo hHeld ⊢; refine pure_ (i := 1) (N := some 23) (v := ?_) (a' := ?_) (bts 7 2) rfl rfl (by kernel_rfl) (fun _ _ _ h => h) (Or.inl ⟨by rfl, ?_⟩) ?_ ?_; rotate_left
     ·intro w'
      go_simp; (with_reducible rfl)
     rotate_left
     ·simp only [AP, i64_w, i32_w]
      rfl
     refine pure_ (i := 2) (N := some 24) (v := ?_) (a' := ?_) (bts 7 6) rfl rfl (by kernel_rfl) (fun _ _ _ h => h) (Or.inl ⟨by rfl, ?_⟩) ?_ ?_; rotate_left
     ·intro w'
      go_simp; (with_reducible rfl)
     rotate_left
     ·simp only [AP, i64_w, i32_w]
      rfl
     refine pure_ (i := 3) (N := some 25) (v := ?_) (a' := ?_) (bts 7 14) rfl rfl (by kernel_rfl) (fun _ _ _ h => h) (Or.inl ⟨by rfl, ?_⟩) ?_ ?_; rotate_left
     ·intro w'
      go_simp; (with_reducible rfl)
     rotate_left
     ·simp only [AP, i64_w, i32_w]
      rfl
     refine take_ (i := 0) (N := some 22) (v := ?_) (a' := ?_) (bts 7 15) rfl rfl (by kernel_rfl) (fun _ _ _ h => h) (Or.inl ⟨by rfl, ?_⟩) hHeld ?_ ?_; rotate_left
     ·rintro w' ⟨s0, s1, s2⟩
      go_simp; (with_reducible rfl)
     rotate_left
     ·simp only [AP, i64_w, i32_w]
      rfl
     refine take_ (i := 4) (N := some 26) (v := ?_) (a' := ?_) (bts 7 31) rfl rfl (by kernel_rfl) (fun _ _ _ h => h) (Or.inl ⟨by rfl, ?_⟩) hHeld ?_ ?_; rotate_left
     ·rintro w' ⟨s0, s1, s2⟩
      go_simp; (with_reducible rfl)
     rotate_left
     ·simp only [AP, i64_w, i32_w]
      rfl
     refine one_ (i := 5) (N := some 27) (bts 7 63) rfl rfl (by kernel_rfl) (by decide) (fun K hK => ?_); refine goes_ Tryd.func22 (by kernel_rfl) rfl #[.agg #[.slice aN ag.length aQ, .int .i64 ah], .string (rdOf ByteArray.empty af x5_1), .slice none 0 0, .int .i64 1] (by rfl) rfl rfl (by (try simp only [List.map_toArray, List.map_cons, List.map_nil]); first | done | rfl | (simp only [List.length_drop, List.length_take]; rfl)) ?_; refine (furrowlaw9_add.calls (fun k_ => ((w.heap.size ≤ k_) ∧ (some k_ ≠ (.slice (some a_) af.length bn : Value).ownBlock ∧ (k_ ≠ ae ∧ k_ ≠ ac)))) _ _ ag ah (rdOf ByteArray.empty af x5_1) (fun k_ => False) _ _ ([] : List Int) 1 aE aM _ ?side1 ?side2 bV.out).mono ?_; (case side1 => exact Kd.N_V (ap.out)); (case side2 => exact Kd.V_nil _ _ _ _ _); rintro e bq ⟨cl, rfl, ho0, hb⟩; have HS2_ := (hb.cell (World.block_lt_of_cell? _ _ (hHeld.2.2))).trans (hHeld.2.2); refine ⟨_, rfl, ?_⟩; have br := mk0 (Kd.N_lower (Kd.N_mono (ok' := fun k_ => (w.heap.size ≤ k_) ∧ some k_ ≠ (.slice (some a_) af.length bn : Value).ownBlock ∧ k_ ≠ ae ∧ k_ ≠ ac) ho0 (fun k_ hk_ => ⟨Or.elim hk_ (fun hs_ => Or.elim hs_ (fun hs_ => hs_.1) (fun hs_ => (hs_).elim)) (fun hn_ => (Nat.le_trans (below_size bH) hn_)), Or.elim hk_ (fun hs_ => Or.elim hs_ (fun hs_ => hs_.2.1) (fun hs_ => (hs_).elim)) (fun hn_ => (Kd.fresh' (Kd.R_lt (uR ai.out)) k_ hn_)), Or.elim hk_ (fun hs_ => Or.elim hs_ (fun hs_ => hs_.2.2.1) (fun hs_ => (hs_).elim)) (fun hn_ => (Kd.freshB (g := ae) (o := .cells #[.slice none 0 0, .int .i64 0] 29 (0, 0)) (uB ab.out) k_ hn_)), Or.elim hk_ (fun hs_ => Or.elim hs_ (fun hs_ => hs_.2.2.2) (fun hs_ => (hs_).elim)) (fun hn_ => (Kd.freshB (g := ac) (o := .cells #[.slice aN ag.length aQ, .int .i64 ah] 29 (0, 0)) (uB aa.out) k_ hn_))⟩)) (below_size bH)); replace ai := rB ai hb; replace ab := bB ab hb; replace aa := bB aa hb; replace HB := hbB bH hb; (try clear hb hk ho0); obtain ⟨ba, bb, bs⟩ := Kd.N_slice br.out; (first | subst bs | (injection bs with f1_ f2_ f3_; have f4_ := f1_.symm; have f5_ := f3_.symm; clear f1_ f2_ f3_; subst f4_; subst f5_)); refine hK.out _ _ ⟨(blk_cell aa.out 0).trans rfl, (blk_cell aa.out 1).trans rfl, HS2_⟩ (fun hHeld => ?_); clear hK K; refine norm_ (a' := ?_) ?_ ?_; rotate_left
     ·show Act.put _ (some 27) _ = _
      simp only [AP, i64_w, i32_w]; rfl
     refine last_ (i := 6) (N := none) (bts 7 127) rfl rfl (by kernel_rfl) (by decide) (fun K hK => ?_); have hs30 : bq.cell? ⟨ac, 0, none⟩ = some (.slice aN ag.length aQ) := (blk_cell aa.out 0).trans rfl; have hfs30 := blk_frozen aa.out 0; have cm := aH.out; have cn := aI.out; have hs31 : bq.cell? ⟨ac, 1, none⟩ = some (.int .i64 ah) := (blk_cell aa.out 1).trans rfl; have hfs31 := blk_frozen aa.out 1; have cp := aH.out; have cq := aI.out; refine skip_ (w1 := ?_) (by rfl) rfl ?_ ?_; rotate_left
     ·go_simp
      rfl
     refine hK.out _ _ ?_; clear hK K; refine done_ (by kernel_rfl) ?_; (try go_wp2)
     go_roundg k1
     case measure => have := bl.out; omega
     case rel => exact ⟨(wrap64 (x5_1 + 1)), (aE), (aM), (.slice ba aE.length bb), eK, H', ⟨by have := bl.out; omega⟩, ⟨uR (Kd.R_mono (Kd.R_far (p := ⟨ac, 1, none⟩) (Kd.R_far (p := ⟨ac, 0, none⟩) (Kd.R_types ai.out aa.out (by decide)) (fun _ hk => hk.2) (.slice ba aE.length bb)) (fun _ hk => hk.2) (.int .i64 aM)) (fun _ hk => hk.1))⟩, ⟨uN (Kd.N_mono (Kd.N_far (p := ⟨ac, 1, none⟩) (Kd.N_far (p := ⟨ac, 0, none⟩) (Kd.N_mono br.out (fun k_ hk => (⟨hk, hk.2.2.2⟩ : _ ∧ k_ ≠ ac))) (fun _ hk => hk.2) (.slice ba aE.length bb)) (fun _ hk => hk.2) (.int .i64 aM)) (fun _ hk => ⟨hk.1.1, ⟨hk.1.2.1, ⟨hk.1.2.2.1, hk.1.2.2.2⟩⟩⟩))⟩, ⟨kB⟩, ⟨kB⟩, ⟨bH⟩⟩
    ·exact nO H aK
   ·rw [if_neg ar] at H
    have bU := decide_eq_false ar; clear ar; simp only [Option.some.injEq, Prod.mk.injEq] at H; obtain ⟨rfl, rfl⟩ := H; obtain ⟨cr, ct, bY⟩ := Kd.R_slice ai.out; subst bY; have cu := aI.out; have cv := aH.out; obtain ⟨cw, cx, cy, cz⟩ := cL2 aa; obtain ⟨bu, bv, bZ⟩ := Kd.N_slice ap.out; subst bZ; obtain ⟨cA, cD, cE, cF⟩ := cL2 ab; go_wp2; refine bodyPost_ret (results_cell_row rfl _ _ ae 29 #[.slice bu ag.length bv, .int .i64 ah] (0, 0) _ rfl (kB) Tryd.underlying29 rfl (by kernel_rfl)) rfl ?_; exact ⟨_, rE, uN (Kd.N_mono (Kd.N_far (p := ⟨ae, 1, none⟩) (Kd.N_far (p := ⟨ae, 0, none⟩) (Kd.N_mono ap.out (fun k_ hk => (⟨hk, hk.2.2.1⟩ : _ ∧ k_ ≠ ae))) (fun _ hk => hk.2) (.slice bu ag.length bv)) (fun _ hk => hk.2) (.int .i64 ah)) (fun _ hk => hk.1.1)), bH⟩

/-! ### sema_Table_Find: function 28 -/
def sema_Table_Find.l0 : Nat → ByteArray → List (S64) → Int → Int → Option (ByteArray × List Int × Int × Int × Bool)
 | 0, _, _, _, _ => none
 | k + 1, x1, x9, x10, x11 => if x11 < x10 then (if 0 ≤ x11 then (if x11 < (x9.length : Int) then (if ((rd_T64 x9 x11).f0).toList = x1.toList then (some ((rd_T64 x9 x11).f0, (rd_T64 x9 x11).f1, (rd_T64 x9 x11).f2, (rd_T64 x9 x11).f3, true)) else (sema_Table_Find.l0 k x1 x9 x10 (wrap64 (x11 + 1)))) else (none)) else (none)) else (some ((⟨#[]⟩ : ByteArray), ([] : List Int), 0, 0, false))
def sema_Table_Find.f (k : Nat) (l0_0 : List (S64)) (a0_1 : Int) (a1 : ByteArray) : Option (ByteArray × List Int × Int × Int × Bool) := sema_Table_Find.l0 k a1 l0_0 (l0_0.length : Int) 0
theorem sema_Table_Find.mono_l : ∀ k, (∀ y0 y1 y2 y3, LeO (sema_Table_Find.l0 k y0 y1 y2 y3) (sema_Table_Find.l0 (k + 1) y0 y1 y2 y3))
 | 0 => fun _ _ _ _ r h => by simp [sema_Table_Find.l0] at h
 | k + 1 => by
  have ih0 := sema_Table_Find.mono_l k
  ·intro y0 y1 y2 y3
   unfold sema_Table_Find.l0
   repeat' first
   | (with_reducible exact ih0 _ _ _ _)
   | (with_reducible exact LeO.refl _)
   | (with_reducible exact LeO.none _)
   | (with_reducible refine LeO.ite ?_ ?_)
   | (with_reducible refine LeO.bind ?_ (fun _ => ?_))
   | exact ih0 _ _ _ _
   | exact LeO.none _
   | refine LeO.ite ?_ ?_
   | refine LeO.bind ?_ (fun _ => ?_)
theorem sema_Table_Find.mono : ∀ a0 a1 a2 k, LeO (sema_Table_Find.f k a0 a1 a2) (sema_Table_Find.f (k + 1) a0 a1 a2) := by
 intro a0 a1 a2 k
 have ih0 := sema_Table_Find.mono_l k
 unfold sema_Table_Find.f
 repeat' first
   | (with_reducible exact ih0 _ _ _ _)
   | (with_reducible exact LeO.refl _)
   | (with_reducible exact LeO.none _)
   | (with_reducible refine LeO.ite ?_ ?_)
   | (with_reducible refine LeO.bind ?_ (fun _ => ?_))
   | exact ih0 _ _ _ _
   | exact LeO.none _
   | refine LeO.ite ?_ ?_
   | refine LeO.bind ?_ (fun _ => ?_)
set_option maxHeartbeats 8000000 in
set_option maxRecDepth 100000 in
theorem sema_Table_Find.calls (k : Nat) (P0_0_ : Nat → Prop) (A0_0 : Option Addr) (c0_0 : Nat) (l0_0 : List (S64)) (a0_1 : Int) (a1 : ByteArray) (r1 : ByteArray) (r2 : List Int) (r3 : Int) (r4 : Int) (r5 : Bool) (w : World) (hs0_0 : Kd.V k64 64 w w.heap.size (fun k_ => P0_0_ k_) (.slice A0_0 l0_0.length c0_0) l0_0) (h : sema_Table_Find.f k l0_0 a0_1 a1 = some (r1, r2, r3, r4, r5)) :
  Calls Tryd.prog 28 #[.agg #[.slice A0_0 l0_0.length c0_0, .int .i64 a0_1], .string a1] w fun e w' => ∃ v1_ : Value, e = .returned (.tuple #[.agg #[.string r1, v1_, .int .i64 r3, .int .i64 r4], .bool r5]) ∧ Kd.V (Kd.int .i64) 2 w' w.heap.size (fun k_ => (P0_0_ k_ ∨ w.heap.size ≤ k_)) v1_ r2 ∧ Below w.heap.size w w' := by
 have hu46 := Tryd.underlying46
 have hu64 := Tryd.underlying64
 have ao := mk0 (show Kd.V k64 64 w w.heap.size (fun k_ => (P0_0_ k_ ∨ w.heap.size ≤ k_)) (.slice A0_0 l0_0.length c0_0) l0_0 from Kd.V_mono hs0_0 (fun k_ hk => .inl hk))
 have HB := mk0 (Below.refl w.heap.size w)
 have H : (sema_Table_Find.l0 k a1 l0_0 (l0_0.length : Int) 0) = some (r1, r2, r3, r4, r5) := h
 clear h
 have H' := mk0 H
 clear H
 go_enter Tryd.func28, Tryd.ntmps28
 go_wp2_with (first | ((with_reducible refine gate_dst (N := 2) rfl ?_); refine bxE 2 #[.slice A0_0 l0_0.length c0_0, .int .i64 a0_1] 46 ?_; intro aw hg w3 hbox hb; replace ao := vD ao aw hg hb; have ac := mk0 (hbox); have bn := gE (uL HB.out) hg; have bo := gE (uL HB.out) hg; replace HB := hbB (uL HB.out) hb; clear hb hbox hg) | ((with_reducible refine gate_dst (N := 4) rfl ?_); refine bxE 4 #[.string (⟨#[]⟩ : ByteArray), .slice none 0 0, .int .i64 0, .int .i64 0] 64 ?_; intro af hg w4 hbox hb; replace ao := vD ao af hg hb; have ae := mk0 (hbox); have bp := gE bH hg; have bq := gE bH hg; replace HB := hbB bH hb; have ay := nL ac hg; have az := nG ac hg; replace ac := bB ac hb; clear hb hbox hg; have br := ay.out; have bs := az.out; obtain ⟨aV, aW, aX, aY⟩ := cL2 ac))
 go_loopg [11] k (fun kq v11 w' => ∃ (aa : Int) (aA : ByteArray) (aC : Int) (aD : Int), v11 = .int .i64 aa ∧ Aside0 (sema_Table_Find.l0 kq a1 l0_0 (l0_0.length : Int) aa = some (r1, r2, r3, r4, r5)) ∧ Aside0 (kq ≤ k) ∧ Aside0 (Kd.V k64 64 w' w.heap.size (fun k_ => (P0_0_ k_ ∨ w.heap.size ≤ k_) ∧ k_ ≠ aw ∧ k_ ≠ af) (.slice A0_0 l0_0.length c0_0) l0_0) ∧ Aside0 (Kd.V k64 64 w' w.heap.size (fun k_ => (P0_0_ k_ ∨ w.heap.size ≤ k_) ∧ k_ ≠ aw ∧ k_ ≠ af) (.slice A0_0 l0_0.length c0_0) l0_0) ∧ Aside0 (w'.heap[aw]? = some (.cells #[(.slice A0_0 l0_0.length c0_0), .int .i64 a0_1] 46 (0, 0))) ∧ Aside0 (w'.heap[af]? = some (.cells #[.string aA, (.slice none 0 0), .int .i64 aC, .int .i64 aD] 64 (0, 0))) ∧ Aside0 (Below w.heap.size w w'))
 case atStart => exact ⟨(0), ((⟨#[]⟩ : ByteArray)), (0), (0), eK, H', ⟨Nat.le_refl _⟩, ⟨uV (vP ao)⟩, ⟨uV (vP ao)⟩, ⟨uB ac.out⟩, ⟨uB ae.out⟩, ⟨bH⟩⟩
 case round =>
  clear H'; (try clear aV aW aX aY); obtain ⟨aa, aA, aC, aD, rfl, HA, aU, ag, aE, ac, ae, HB⟩ := hrel
  cases gk with
  | zero => exact absurd HA.out (by simp [sema_Table_Find.l0])
  | succ k1 =>
   have H := HA.out; clear HA; simp only [sema_Table_Find.l0] at H
   by_cases c7 : aa < (l0_0.length : Int)
   ·rw [if_pos c7] at H
    have aZ := decide_eq_true c7; clear c7
    by_cases c8 : 0 ≤ aa
    ·rw [if_pos c8] at H
     have bu := decide_eq_true c8; clear c8
     by_cases c9 : aa < (l0_0.length : Int)
     ·rw [if_pos c9] at H
      have bv := decide_eq_true c9; clear c9
      by_cases ak : ((rd_T64 l0_0 aa).f0).toList = a1.toList
      ·rw [if_pos ak] at H
       have a_ : (((rd_T64 l0_0 aa).f0).toList == a1.toList) = true := beq_iff_eq.mpr ak; have ba : (((rd_T64 l0_0 aa).f0).toList != a1.toList) = false := bne_eq_false_iff_eq.mpr ak; clear ak; simp only [Option.some.injEq, Prod.mk.injEq] at H; obtain ⟨rfl, rfl, rfl, rfl, rfl⟩ := H; have ah : 0 ≤ (aa : Int) := dY; have ai : aa < (l0_0.length : Int) := dY; obtain ⟨bb, ap, aq, aG, bc, aH, bd, bf, ar, au⟩ := at_T64 (Kd.V_reads' ag.out).2.2 aa ah ai
       cases aG
       obtain ⟨bg, aI, aJ, av⟩ := Kd.V_get ag.out z64 aa ah (by first | exact ai | exact dY | (have e_ := (Kd.V_reads' ag.out).1; omega)); obtain ⟨bh, bi, rfl, al, am⟩ := k64_openF aJ; have aj := av 1 _ rfl; rw [add_field _ _ 1 (by omega)] at aj; replace aj := Option.some.inj (aj.symm.trans aH); injection aj with hva_ hvn_ hvc_; rw [hva_] at am; rw [hvc_] at al; have ax := mk0 (show Kd.V (Kd.int .i64) 2 _ w.heap.size _ _ ((rd_T64 l0_0 aa).f1) from Kd.V_mk al am); clear hva_ hvn_ hvc_ am al; clear av aI; have bj := mk0 au; have bk := mk0 ar; clear au ar; replace ah := eq_true ah; replace ai := eq_true ai
       go_wp2_with (first | ((with_reducible refine gate_dst (N := 7) rfl ?_); refine bxE 7 #[.string (⟨#[]⟩ : ByteArray), .slice none 0 0, .int .i64 0, .int .i64 0] 64 ?_; intro ab hg bw hbox hb; replace ax := vD ax ab hg hb; have aK := mk0 (hbox); have bl := gE bH hg; have bm := gE bH hg; replace HB := hbB bH hb; have aM := nL ac hg; have aN := nG ac hg; have aQ := nL ae hg; have aT := nG ae hg; replace ae := bB ae hb; clear hb hbox hg; have bx := aN.out; have bz := aM.out; have bC := aT.out; have bE := aQ.out; obtain ⟨bF, bG, bI, bJ, bK, bL, bM, bO⟩ := cL4 aK; have bP := az.out; have bQ := ay.out; obtain ⟨bR, bT, bU, bV, bW, bX, bY, bZ⟩ := cL4 ae))
       refine bodyPost_ret (results_ct rfl _ _ af 64 #[.string ((rd_T64 l0_0 aa).f0), .slice ap ((rd_T64 l0_0 aa).f1).length aq, .int .i64 ((rd_T64 l0_0 aa).f2), .int .i64 ((rd_T64 l0_0 aa).f3)] (0, 0) _ rfl (kB) Tryd.underlying64 rfl (by kernel_rfl)) rfl ?_; exact ⟨_, rE, uV (Kd.V_mono (Kd.V_far (p := ⟨af, 3, none⟩) (Kd.V_far (p := ⟨af, 2, none⟩) (Kd.V_far (p := ⟨af, 1, none⟩) (Kd.V_far (p := ⟨af, 0, none⟩) (Kd.V_far (p := ⟨ab, 3, none⟩) (Kd.V_far (p := ⟨ab, 2, none⟩) (Kd.V_far (p := ⟨ab, 1, none⟩) (Kd.V_far (p := ⟨ab, 0, none⟩) (Kd.V_mono (Kd.V_mono ax.out (fun k_ hk => (⟨hk, hk.2⟩ : _ ∧ k_ ≠ ab))) (fun k_ hk => (⟨hk, hk.1.1.2.2⟩ : _ ∧ k_ ≠ af))) (fun _ hk => hk.1.2) (.string ((rd_T64 l0_0 aa).f0))) (fun _ hk => hk.1.2) (.slice ap ((rd_T64 l0_0 aa).f1).length aq)) (fun _ hk => hk.1.2) (.int .i64 ((rd_T64 l0_0 aa).f2))) (fun _ hk => hk.1.2) (.int .i64 ((rd_T64 l0_0 aa).f3))) (fun _ hk => hk.2) (.string ((rd_T64 l0_0 aa).f0))) (fun _ hk => hk.2) (.slice ap ((rd_T64 l0_0 aa).f1).length aq)) (fun _ hk => hk.2) (.int .i64 ((rd_T64 l0_0 aa).f2))) (fun _ hk => hk.2) (.int .i64 ((rd_T64 l0_0 aa).f3))) (fun _ hk => hk.1.1.1.1)), bH⟩
      ·rw [if_neg ak] at H
       have a_ : (((rd_T64 l0_0 aa).f0).toList == a1.toList) = false := beq_eq_false_iff_ne.mpr ak; have ba : (((rd_T64 l0_0 aa).f0).toList != a1.toList) = true := bne_iff_ne.mpr ak; have H' := mk0 H; clear H; have ah : 0 ≤ (aa : Int) := dY; have ai : aa < (l0_0.length : Int) := dY; obtain ⟨bb, ap, aq, aG, bc, aH, bd, bf, ar, au⟩ := at_T64 (Kd.V_reads' ag.out).2.2 aa ah ai
       cases aG
       obtain ⟨bg, aI, aJ, av⟩ := Kd.V_get ag.out z64 aa ah (by first | exact ai | exact dY | (have e_ := (Kd.V_reads' ag.out).1; omega)); obtain ⟨bh, bi, rfl, al, am⟩ := k64_openF aJ; have aj := av 1 _ rfl; rw [add_field _ _ 1 (by omega)] at aj; replace aj := Option.some.inj (aj.symm.trans aH); injection aj with hva_ hvn_ hvc_; rw [hva_] at am; rw [hvc_] at al; have ax := mk0 (show Kd.V (Kd.int .i64) 2 _ w.heap.size _ _ ((rd_T64 l0_0 aa).f1) from Kd.V_mk al am); clear hva_ hvn_ hvc_ am al; clear av aI; have bj := mk0 au; have bk := mk0 ar; clear au ar; replace ah := eq_true ah; replace ai := eq_true ai
       go_wp2_with (first | ((with_reducible refine gate_dst (N := 7) rfl ?_); refine bxE 7 #[.string (⟨#[]⟩ : ByteArray), .slice none 0 0, .int .i64 0, .int .i64 0] 64 ?_; intro ab hg b3 hbox hb; replace ag := vD ag ab hg hb; replace aE := vD aE ab hg hb; have aK := mk0 (hbox); have bl := gE bH hg; have bm := gE bH hg; replace HB := hbB bH hb; have aM := nL ac hg; have aN := nG ac hg; replace ac := bB ac hb; have aQ := nL ae hg; have aT := nG ae hg; replace ae := bB ae hb; clear hb hbox hg; have b4 := aN.out; have b5 := aM.out; have b6 := aT.out; have b7 := aQ.out; obtain ⟨b8, b9, ca, cb, cd, ce, cf, cg⟩ := cL4 aK))
       go_roundg k1
       case measure => have := aU.out; omega
       case rel => exact ⟨(wrap64 (aa + 1)), (aA), (aC), (aD), eK, H', ⟨by have := aU.out; omega⟩, ⟨uV (Kd.V_mono (Kd.V_far (p := ⟨ab, 3, none⟩) (Kd.V_far (p := ⟨ab, 2, none⟩) (Kd.V_far (p := ⟨ab, 1, none⟩) (Kd.V_far (p := ⟨ab, 0, none⟩) (Kd.V_mono ag.out (fun k_ hk => (⟨hk, hk.2⟩ : _ ∧ k_ ≠ ab))) (fun _ hk => hk.2) (.string ((rd_T64 l0_0 aa).f0))) (fun _ hk => hk.2) (.slice ap ((rd_T64 l0_0 aa).f1).length aq)) (fun _ hk => hk.2) (.int .i64 ((rd_T64 l0_0 aa).f2))) (fun _ hk => hk.2) (.int .i64 ((rd_T64 l0_0 aa).f3))) (fun _ hk => ⟨hk.1.1.1, ⟨hk.1.1.2.1, hk.1.1.2.2⟩⟩))⟩, ⟨uV (Kd.V_mono (Kd.V_far (p := ⟨ab, 3, none⟩) (Kd.V_far (p := ⟨ab, 2, none⟩) (Kd.V_far (p := ⟨ab, 1, none⟩) (Kd.V_far (p := ⟨ab, 0, none⟩) (Kd.V_mono aE.out (fun k_ hk => (⟨hk, hk.2⟩ : _ ∧ k_ ≠ ab))) (fun _ hk => hk.2) (.string ((rd_T64 l0_0 aa).f0))) (fun _ hk => hk.2) (.slice ap ((rd_T64 l0_0 aa).f1).length aq)) (fun _ hk => hk.2) (.int .i64 ((rd_T64 l0_0 aa).f2))) (fun _ hk => hk.2) (.int .i64 ((rd_T64 l0_0 aa).f3))) (fun _ hk => ⟨hk.1.1.1, ⟨hk.1.1.2.1, hk.1.1.2.2⟩⟩))⟩, ⟨kB⟩, ⟨kB⟩, ⟨bH⟩⟩
     ·exact nO H c9
    ·exact nO H c8
   ·rw [if_neg c7] at H
    have aZ := decide_eq_false c7; clear c7; simp only [Option.some.injEq, Prod.mk.injEq] at H; obtain ⟨rfl, rfl, rfl, rfl, rfl⟩ := H; have ch := az.out; have ci := ay.out; obtain ⟨cj, ck, cl, cm, cn, cp, cq, cr⟩ := cL4 ae; go_wp2; refine bodyPost_ret (results_ct rfl _ _ af 64 #[.string (⟨#[]⟩ : ByteArray), .slice none 0 0, .int .i64 0, .int .i64 0] (0, 0) _ rfl (kB) Tryd.underlying64 rfl (by kernel_rfl)) rfl ?_; exact ⟨_, rE, (Kd.V_nil _ _ _ _ _), bH⟩

end Go.Proofs.YtmhkijidnpihmaaDoor.X
