-- PRINTED by print.py (a twelfth state) out of the translation. Not trusted: Lean checks it.
import Derived.Test.YtkkpgjkjkcmcbaaDoorXx0
import Derived.Test.YtkkpgjkjkcmcbaaDoorXx4
import Derived.Test.YtkkpgjkjkcmcbaaDoorXx1
namespace Go.Proofs.YtkkpgjkjkcmcbaaDoor.X
open Go.Proofs.YtkkpgjkjkcmcbaaDoor.Flt Go.Proofs.YtkkpgjkjkcmcbaaDoor.H Go.RowKit Go.Proofs.YtkkpgjkjkcmcbaaDoorW.PrintWords Go.Proofs.YtkkpgjkjkcmcbaaDoorW.PrintLast Go.Proofs.YtkkpgjkjkcmcbaaDoorW.PrintMore
attribute [local go_sem] max2_int min2_int max_two min_two max_three min_three max_four min_four   -- for this text's walks alone
set_option linter.unusedVariables false
set_option linter.unusedSimpArgs false

/-! ### sys_rows: function 31 -/
def sys_rows.l0 : Nat → Int → List (S59) → List (S59) → Int → Int → Option ((List (S59)) × Bool)
 | 0, _, _, _, _, _ => none
 | k + 1, x1, x6, x12, x13, x14 => if x14 < x13 then (if 0 ≤ x14 then (if x14 < (x12.length : Int) then ((sys_tight.f k ((rd_T59 x12 x14).f0) ((rd_T59 x12 x14).f1) x1).bind fun bt156 => (if bt156.2.2.2 = true then (if bt156.2.2.1 = true then (if x6.length < 4398046511104 then (sys_rows.l0 k x1 (x6 ++ [(⟨bt156.1, bt156.2.1⟩ : S59)]) x12 x13 (wrap64 (x14 + 1))) else (none)) else (sys_rows.l0 k x1 x6 x12 x13 (wrap64 (x14 + 1)))) else (some (([] : List (S59)), false)))) else (none)) else (none)) else (some (x6, true))
def sys_rows.f (k : Nat) (l0 : List (S59)) (a1 : Int) : Option ((List (S59)) × Bool) := sys_rows.l0 k a1 ([] : List (S59)) l0 (l0.length : Int) 0
theorem sys_rows.mono_l : ∀ k, (∀ y0 y1 y2 y3 y4, LeO (sys_rows.l0 k y0 y1 y2 y3 y4) (sys_rows.l0 (k + 1) y0 y1 y2 y3 y4))
 | 0 => fun _ _ _ _ _ r h => by simp [sys_rows.l0] at h
 | k + 1 => by
  have ih0 := sys_rows.mono_l k
  ·intro y0 y1 y2 y3 y4
   unfold sys_rows.l0
   repeat' first
   | (with_reducible exact ih0 _ _ _ _ _)
   | (with_reducible exact sys_tight.mono _ _ _ _)
   | (with_reducible exact LeO.refl _)
   | (with_reducible exact LeO.none _)
   | (with_reducible refine LeO.ite ?_ ?_)
   | (with_reducible refine LeO.bind ?_ (fun _ => ?_))
   | exact ih0 _ _ _ _ _
   | exact sys_tight.mono _ _ _ _
   | exact LeO.none _
   | refine LeO.ite ?_ ?_
   | refine LeO.bind ?_ (fun _ => ?_)
theorem sys_rows.mono : ∀ a0 a1 k, LeO (sys_rows.f k a0 a1) (sys_rows.f (k + 1) a0 a1) := by
 intro a0 a1 k
 have ih0 := sys_rows.mono_l k
 unfold sys_rows.f
 repeat' first
   | (with_reducible exact ih0 _ _ _ _ _)
   | (with_reducible exact sys_tight.mono _ _ _ _)
   | (with_reducible exact LeO.refl _)
   | (with_reducible exact LeO.none _)
   | (with_reducible refine LeO.ite ?_ ?_)
   | (with_reducible refine LeO.bind ?_ (fun _ => ?_))
   | exact ih0 _ _ _ _ _
   | exact sys_tight.mono _ _ _ _
   | exact LeO.none _
   | refine LeO.ite ?_ ?_
   | refine LeO.bind ?_ (fun _ => ?_)
set_option maxHeartbeats 8000000 in
set_option maxRecDepth 100000 in
theorem sys_rows.calls (k : Nat) (P0_ : Nat → Prop) (A0 : Option Addr) (c0 : Nat) (l0 : List (S59)) (a1 : Int) (r1 : List (S59)) (r2 : Bool) (w : World) (hs0 : Kd.V k59 59 w w.heap.size (fun k_ => P0_ k_) (.slice A0 l0.length c0) l0) (h : sys_rows.f k l0 a1 = some (r1, r2)) :
  Calls Tryd.prog 31 #[.slice A0 l0.length c0, .int .i64 a1] w fun e w' => ∃ v0_ : Value, e = .returned (.tuple #[v0_, .bool r2]) ∧ Kd.N k59 59 w' w.heap.size (fun k_ => (P0_ k_ ∨ w.heap.size ≤ k_)) v0_ r1 ∧ Below w.heap.size w w' := by
 have hu59 := Tryd.underlying59
 have bi := mk0 (show Kd.V k59 59 w w.heap.size (fun k_ => (P0_ k_ ∨ w.heap.size ≤ k_)) (.slice A0 l0.length c0) l0 from Kd.V_mono hs0 (fun k_ hk => .inl hk))
 have HB := mk0 (Below.refl w.heap.size w)
 have H : (sys_rows.l0 k a1 ([] : List (S59)) l0 (l0.length : Int) 0) = some (r1, r2) := h
 clear h
 have H' := mk0 H
 clear H
 go_enter Tryd.func31, Tryd.ntmps31
 go_wp2
 go_loopg [6, 14] k (fun kq v6 bj w' => ∃ (x6_1 : List (S59)) (aa : Int), bj = .int .i64 aa ∧ Aside0 (sys_rows.l0 kq a1 x6_1 l0 (l0.length : Int) aa = some (r1, r2)) ∧ Aside0 (kq ≤ k) ∧ Aside0 (Kd.N k59 59 w' w.heap.size (fun k_ => (P0_ k_ ∨ w.heap.size ≤ k_)) v6 x6_1) ∧ Aside0 (Kd.V k59 59 w' w.heap.size (fun k_ => (P0_ k_ ∨ w.heap.size ≤ k_) ∧ some k_ ≠ (v6 : Value).ownBlock) (.slice A0 l0.length c0) l0) ∧ Aside0 (Below w.heap.size w w'))
 case atStart => exact ⟨(([] : List (S59))), (0), eK, H', ⟨Nat.le_refl _⟩, ⟨nK⟩, ⟨uV (Kd.V_mono bi.out (fun _ hk => ⟨hk, (by simp [Value.ownBlock])⟩))⟩, ⟨uL HB.out⟩⟩
 case round =>
  clear H'; obtain ⟨x6_1, aa, rfl, HA, aU, ah, ae, HB⟩ := hrel
  cases gk with
  | zero => exact absurd HA.out (by simp [sys_rows.l0])
  | succ k1 =>
   have H := HA.out; clear HA; simp only [sys_rows.l0] at H
   by_cases c3 : aa < (l0.length : Int)
   ·rw [if_pos c3] at H
    have bk := decide_eq_true c3; clear c3
    by_cases c4 : 0 ≤ aa
    ·rw [if_pos c4] at H
     have bx := decide_eq_true c4; clear c4
     by_cases c5 : aa < (l0.length : Int)
     ·rw [if_pos c5] at H
      have bz := decide_eq_true c5; clear c5; replace H := Option.bind_eq_some_iff.mp H; obtain ⟨⟨am, ao, aW, bl⟩, aX, H⟩ := H; dsimp only at H; have A6 := mk0 aX; clear aX
      by_cases c7 : bl = true
      ·subst c7
       replace H := iT H
       by_cases c8 : aW = true
       ·subst c8
        replace H := iT H
        by_cases c9 : x6_1.length < 4398046511104
        ·rw [if_pos c9] at H
         have bm := mk0 c9; clear c9; obtain ⟨aY, aV⟩ : ∃ y_ : List (S59), y_ = (x6_1 ++ [(⟨am, ao⟩ : S59)]) := ⟨_, rfl⟩; (replace H : (sys_rows.l0 k1 a1 aY l0 (l0.length : Int) (wrap64 (aa + 1))) = some (r1, r2) := by (try rw [aV]); first | with_reducible exact H | with_reducible exact oN H | exact H); have bn := mk0 aV; clear aV; have H' := mk0 H; clear H; have ap : 0 ≤ (aa : Int) := dY; have aq : aa < (l0.length : Int) := dY; obtain ⟨aE, aj, ak, aG, aH, aZ, ax, ay⟩ := at_T59 (Kd.V_reads' ae.out).2.2 aa ap aq
         cases aG
         obtain ⟨a6, aI, aJ, az⟩ := Kd.V_get ae.out z59 aa ap (by first | exact aq | exact dY | (have e_ := (Kd.V_reads' ae.out).1; omega)); obtain ⟨a7, a8, rfl, av, aw⟩ := k59_openF aJ; have ar := az 0 _ rfl; rw [Nat.add_zero] at ar; replace ar := Option.some.inj (ar.symm.trans aH); injection ar with hva_ hvn_ hvc_; rw [hva_] at aw; rw [hvc_] at av; have ai := mk0 (show Kd.V (Kd.int .i64) 2 _ w.heap.size _ _ ((rd_T59 l0 aa).f0) from Kd.V_mk av aw); clear hva_ hvn_ hvc_ aw av; clear az aI; have a9 := mk0 ay; have a_ := mk0 ax; clear ay ax; replace ap := eq_true ap; replace aq := eq_true aq
         go_wp2_with (first | ((with_reducible refine gate_dst (N := 8) rfl ?_); refine bxE 8 #[.slice none 0 0, .int .i64 0] 59 ?_; intro ac hg bo hbox hb; replace ah := nD ah ac hg hb; replace ae := vD ae ac hg hb; replace ai := vD ai ac hg hb; have ag := mk0 (hbox); have ba := gE (uL HB.out) hg; have bb := gE (uL HB.out) hg; replace HB := hbB (uL HB.out) hb; clear hb hbox hg; obtain ⟨bC, bE, bF, bG⟩ := cL2 ag) | ((with_reducible refine gate_store (t := 59) (p := 8) rfl ?_); refine store_event (t := 59) (p := 8) (v := ?vo_w12) (w1 := ((bo.setCell ⟨ac, 0, none⟩ (.slice aj ((rd_T59 l0 aa).f0).length ak)).setCell ⟨ac, 1, none⟩ (.int .i64 ((rd_T59 l0 aa).f1)))) ?hg ?ho ?hn ?hr ?_; (case ho => rfl); (case hg => rfl); (case hn => rfl); (case hr => first | (go_simp; done) | (go_simp; rfl)); intro aK hw; have n0_ : Aside0 (Kd.N k59 59 aK w.heap.size (fun k_ => (P0_ k_ ∨ w.heap.size ≤ k_) ∧ k_ ≠ ac) u6 x6_1) := ⟨(by rw [hw]; exact (uN (Kd.N_mono (Kd.N_far (p := ⟨ac, 1, none⟩) (Kd.N_far (p := ⟨ac, 0, none⟩) (Kd.N_mono ah.out (fun k_ hk => (⟨hk, hk.2⟩ : _ ∧ k_ ≠ ac))) (fun _ hk => hk.2) (.slice aj ((rd_T59 l0 aa).f0).length ak)) (fun _ hk => hk.2) (.int .i64 ((rd_T59 l0 aa).f1))) (fun _ hk => ⟨hk.1.1, hk.1.2⟩))))⟩; have n1_ : Aside0 (Kd.V k59 59 aK w.heap.size (fun k_ => (P0_ k_ ∨ w.heap.size ≤ k_) ∧ some k_ ≠ (u6 : Value).ownBlock ∧ k_ ≠ ac) (.slice (some aE) l0.length c0) l0) := ⟨(by rw [hw]; exact (uV (Kd.V_mono (Kd.V_far (p := ⟨ac, 1, none⟩) (Kd.V_far (p := ⟨ac, 0, none⟩) (Kd.V_mono ae.out (fun k_ hk => (⟨hk, hk.2⟩ : _ ∧ k_ ≠ ac))) (fun _ hk => hk.2) (.slice aj ((rd_T59 l0 aa).f0).length ak)) (fun _ hk => hk.2) (.int .i64 ((rd_T59 l0 aa).f1))) (fun _ hk => ⟨hk.1.1.1, ⟨hk.1.1.2, hk.1.2⟩⟩))))⟩; have n2_ : Aside0 (Kd.V (Kd.int .i64) 2 aK w.heap.size (fun k_ => (P0_ k_ ∨ w.heap.size ≤ k_) ∧ some k_ ≠ (u6 : Value).ownBlock ∧ k_ ≠ ac) (.slice aj ((rd_T59 l0 aa).f0).length ak) ((rd_T59 l0 aa).f0)) := ⟨(by rw [hw]; exact (uV (Kd.V_mono (Kd.V_far (p := ⟨ac, 1, none⟩) (Kd.V_far (p := ⟨ac, 0, none⟩) (Kd.V_mono ai.out (fun k_ hk => (⟨hk, hk.2⟩ : _ ∧ k_ ≠ ac))) (fun _ hk => hk.2) (.slice aj ((rd_T59 l0 aa).f0).length ak)) (fun _ hk => hk.2) (.int .i64 ((rd_T59 l0 aa).f1))) (fun _ hk => ⟨hk.1.1.1, ⟨hk.1.1.2, hk.1.2⟩⟩))))⟩; have n3_ : Aside0 (aK.heap[ac]? = some (.cells #[.slice aj ((rd_T59 l0 aa).f0).length ak, .int .i64 ((rd_T59 l0 aa).f1)] 59 (0, 0))) := ⟨(by rw [hw]; exact (kB))⟩; have n4_ : Aside0 (Below w.heap.size w aK) := ⟨(by rw [hw]; exact bH)⟩; clear hw ah ae ai ag HB; have ah := n0_; have ae := n1_; have ai := n2_; have ag := n3_; have HB := n4_; clear n0_ n1_ n2_ n3_ n4_; obtain ⟨bI, bJ, bK, bL⟩ := cL2 ag) | ((with_reducible refine gate_dst (N := 21) rfl ?_); refine gsM (some 21) Tryd.func55 #[.agg #[.slice aj ((rd_T59 l0 aa).f0).length ak, .int .i64 ((rd_T59 l0 aa).f1)], .int .i64 a1] ?_; (with_reducible refine (sys_tight.calls k1 (fun k_ => ((P0_ k_ ∨ w.heap.size ≤ k_) ∧ (some k_ ≠ (u6 : Value).ownBlock ∧ k_ ≠ ac))) _ _ ((rd_T59 l0 aa).f0) ((rd_T59 l0 aa).f1) a1 am ao true true _ ?side1 A6.out).mono ?_); (case side1 => exact ai.out); rintro e bM ⟨bc, rfl, ho0, hb⟩; refine ⟨_, rfl, ?_⟩; replace ae := vB ae hb; replace ai := vB ai hb; have al := mk0 (Kd.V_lower (Kd.V_mono (ok' := fun k_ => (P0_ k_ ∨ w.heap.size ≤ k_) ∧ some k_ ≠ (u6 : Value).ownBlock ∧ k_ ≠ ac) ho0 (fun k_ hk_ => ⟨Or.elim hk_ (fun hs_ => hs_.1) (fun hn_ => (.inr (Nat.le_trans (below_size bH) hn_))), Or.elim hk_ (fun hs_ => hs_.2.1) (fun hn_ => (Kd.fresh' (Kd.N_lt (uN ah.out)) k_ hn_)), Or.elim hk_ (fun hs_ => hs_.2.2) (fun hn_ => (Kd.freshB (g := ac) (o := .cells #[.slice aj ((rd_T59 l0 aa).f0).length ak, .int .i64 ((rd_T59 l0 aa).f1)] 59 (0, 0)) (uB ag.out) k_ hn_))⟩)) (below_size bH)); replace ah := nB ah hb; replace ag := bB ag hb; replace HB := hbB bH hb; (try clear hb hk ho0)) | ((with_reducible refine gate_dst (N := 9) rfl ?_); refine bxE 9 #[.slice none 0 0, .int .i64 0] 59 ?_; intro af hg bp hbox hb; replace ah := nD ah af hg hb; replace ae := vD ae af hg hb; replace ai := vD ai af hg hb; replace al := vD al af hg hb; have au := mk0 (hbox); have bd := gE bH hg; have bf := gE bH hg; replace HB := hbB bH hb; have aM := nL ag hg; have aN := nG ag hg; replace ag := bB ag hb; clear hb hbox hg; obtain ⟨aA, aC, bq⟩ := Kd.V_slice al.out; subst bq; have bO := aN.out; have bP := aM.out; obtain ⟨bQ, bR, bT, bU⟩ := cL2 au) | ((with_reducible refine gate_store (t := 59) (p := 9) rfl ?_); refine store_event (t := 59) (p := 9) (v := ?vo_w19) (w1 := ((bp.setCell ⟨af, 0, none⟩ (.slice aA am.length aC)).setCell ⟨af, 1, none⟩ (.int .i64 ao))) ?hg ?ho ?hn ?hr ?_; (case ho => rfl); (case hg => rfl); (case hn => rfl); (case hr => first | (go_simp; done) | (go_simp; rfl)); intro aD hw; have n0_ : Aside0 (Kd.N k59 59 aD w.heap.size (fun k_ => (P0_ k_ ∨ w.heap.size ≤ k_) ∧ k_ ≠ ac ∧ k_ ≠ af) u6 x6_1) := ⟨(by rw [hw]; exact (uN (Kd.N_mono (Kd.N_far (p := ⟨af, 1, none⟩) (Kd.N_far (p := ⟨af, 0, none⟩) (Kd.N_mono ah.out (fun k_ hk => (⟨hk, hk.2⟩ : _ ∧ k_ ≠ af))) (fun _ hk => hk.2) (.slice aA am.length aC)) (fun _ hk => hk.2) (.int .i64 ao)) (fun _ hk => ⟨hk.1.1.1, ⟨hk.1.1.2, hk.1.2⟩⟩))))⟩; have n1_ : Aside0 (Kd.V k59 59 aD w.heap.size (fun k_ => (P0_ k_ ∨ w.heap.size ≤ k_) ∧ some k_ ≠ (u6 : Value).ownBlock ∧ k_ ≠ ac ∧ k_ ≠ af) (.slice (some aE) l0.length c0) l0) := ⟨(by rw [hw]; exact (uV (Kd.V_mono (Kd.V_far (p := ⟨af, 1, none⟩) (Kd.V_far (p := ⟨af, 0, none⟩) (Kd.V_mono ae.out (fun k_ hk => (⟨hk, hk.2⟩ : _ ∧ k_ ≠ af))) (fun _ hk => hk.2) (.slice aA am.length aC)) (fun _ hk => hk.2) (.int .i64 ao)) (fun _ hk => ⟨hk.1.1.1, ⟨hk.1.1.2.1, ⟨hk.1.1.2.2, hk.1.2⟩⟩⟩))))⟩; have n2_ : Aside0 (Kd.V (Kd.int .i64) 2 aD w.heap.size (fun k_ => (P0_ k_ ∨ w.heap.size ≤ k_) ∧ some k_ ≠ (u6 : Value).ownBlock ∧ k_ ≠ ac ∧ k_ ≠ af) (.slice aj ((rd_T59 l0 aa).f0).length ak) ((rd_T59 l0 aa).f0)) := ⟨(by rw [hw]; exact (uV (Kd.V_mono (Kd.V_far (p := ⟨af, 1, none⟩) (Kd.V_far (p := ⟨af, 0, none⟩) (Kd.V_mono ai.out (fun k_ hk => (⟨hk, hk.2⟩ : _ ∧ k_ ≠ af))) (fun _ hk => hk.2) (.slice aA am.length aC)) (fun _ hk => hk.2) (.int .i64 ao)) (fun _ hk => ⟨hk.1.1.1, ⟨hk.1.1.2.1, ⟨hk.1.1.2.2, hk.1.2⟩⟩⟩))))⟩; have n3_ : Aside0 (Kd.V (Kd.int .i64) 2 aD w.heap.size (fun k_ => (P0_ k_ ∨ w.heap.size ≤ k_) ∧ some k_ ≠ (u6 : Value).ownBlock ∧ k_ ≠ ac ∧ k_ ≠ af) (.slice aA am.length aC) am) := ⟨(by rw [hw]; exact (uV (Kd.V_mono (Kd.V_far (p := ⟨af, 1, none⟩) (Kd.V_far (p := ⟨af, 0, none⟩) (Kd.V_mono al.out (fun k_ hk => (⟨hk, hk.2⟩ : _ ∧ k_ ≠ af))) (fun _ hk => hk.2) (.slice aA am.length aC)) (fun _ hk => hk.2) (.int .i64 ao)) (fun _ hk => ⟨hk.1.1.1, ⟨hk.1.1.2.1, ⟨hk.1.1.2.2, hk.1.2⟩⟩⟩))))⟩; have n4_ : Aside0 (aD.heap[ac]? = some (.cells #[.slice aj ((rd_T59 l0 aa).f0).length ak, .int .i64 ((rd_T59 l0 aa).f1)] 59 (0, 0))) := ⟨(by rw [hw]; exact (kB))⟩; have n5_ : Aside0 (aD.heap[af]? = some (.cells #[.slice aA am.length aC, .int .i64 ao] 59 (0, 0))) := ⟨(by rw [hw]; exact (kB))⟩; have n6_ : Aside0 (Below w.heap.size w aD) := ⟨(by rw [hw]; exact bH)⟩; clear hw ah ae ai al ag au HB; have ah := n0_; have ae := n1_; have ai := n2_; have al := n3_; have ag := n4_; have au := n5_; have HB := n6_; clear n0_ n1_ n2_ n3_ n4_ n5_ n6_; obtain ⟨bV, bW, bX, bY⟩ := cL2 au) | ((with_reducible refine gate_builtin (b := .append) (xs := #[.tmp 28, .tmp 30]) rfl ?_); at_builtin; refine Kd.N_append k59 (w0 := w) w.heap.size rfl (.tmp 28) (.tmp 30) 22 59 (.agg #[(.slice none 0 0), (.int .i64 0)]) 32 rfl Tryd.underlying22 info59 rfl (by decide) (by omega) u6 x6_1 (⟨am, ao⟩ : S59) [.slice aA am.length aC, .int .i64 ao] (fun k_ => (P0_ k_ ∨ w.heap.size ≤ k_) ∧ k_ ≠ ac ∧ k_ ≠ af) (fun k_ => ((fun k_ => (P0_ k_ ∨ w.heap.size ≤ k_) ∧ k_ ≠ ac ∧ k_ ≠ af)) k_ ∧ some k_ ≠ (u6 : Value).ownBlock) rfl rfl ?aP (fun _ hk => hk) ?aF ?aO ?aB ?aS ?aL ?_; (case aP => exact (k59_mkF _ _ (⟨am, ao⟩ : S59) (Kd.V_reads' (vP (ok' := (fun k_ => ((fun k_ => (P0_ k_ ∨ w.heap.size ≤ k_) ∧ k_ ≠ ac ∧ k_ ≠ af)) k_ ∧ some k_ ≠ (u6 : Value).ownBlock)) al)).2.1 (Kd.V_F (vP (ok' := (fun k_ => ((fun k_ => (P0_ k_ ∨ w.heap.size ≤ k_) ∧ k_ ≠ ac ∧ k_ ≠ af)) k_ ∧ some k_ ≠ (u6 : Value).ownBlock)) al)))); (case aB => exact bH); (case aF => exact (fun k_ hk => ⟨(.inr (Nat.le_trans (below_size bH) hk)), fB ag hk, fB au hk⟩)); (case aO => exact (uN ah.out)); (case aS => exact (below_size bH)); (case aL => have := bm.out; omega); intro bZ b3 ho hb hg hat; rw [← bn.out] at ho; have n0_ := vA ae hg hat; have n1_ := vA ai hg hat; have n2_ := (gB ag hg (Kd.N_away ah.out (fun _ hk => hk.2.1))); have n3_ := vA al hg hat; have n4_ := (gB au hg (Kd.N_away ah.out (fun _ hk => hk.2.2))); have n5_ := mk0 (hb); have n6_ := mk0 (ho); clear ae ai ag al au HB ah; have ae := n0_; have ai := n1_; have ag := n2_; have al := n3_; have au := n4_; have HB := n5_; have br := n6_; clear n0_ n1_ n2_ n3_ n4_ n5_ n6_; clear ho hb hg hat))
         go_roundg k1
         case measure => have := aU.out; omega
         case rel => exact ⟨(aY), (wrap64 (aa + 1)), eK, H', ⟨by have := aU.out; omega⟩, ⟨uN (Kd.N_mono br.out (fun _ hk => hk.1))⟩, ⟨uV (vP ae)⟩, ⟨bH⟩⟩
        ·exact nO H c9
       ·replace c8 := Bool.eq_false_iff.mpr c8
        subst c8; replace H := iF H; have H' := mk0 H; clear H; have ap : 0 ≤ (aa : Int) := dY; have aq : aa < (l0.length : Int) := dY; obtain ⟨aE, aj, ak, aG, aH, aZ, ax, ay⟩ := at_T59 (Kd.V_reads' ae.out).2.2 aa ap aq
        cases aG
        obtain ⟨a6, aI, aJ, az⟩ := Kd.V_get ae.out z59 aa ap (by first | exact aq | exact dY | (have e_ := (Kd.V_reads' ae.out).1; omega)); obtain ⟨a7, a8, rfl, av, aw⟩ := k59_openF aJ; have ar := az 0 _ rfl; rw [Nat.add_zero] at ar; replace ar := Option.some.inj (ar.symm.trans aH); injection ar with hva_ hvn_ hvc_; rw [hva_] at aw; rw [hvc_] at av; have ai := mk0 (show Kd.V (Kd.int .i64) 2 _ w.heap.size _ _ ((rd_T59 l0 aa).f0) from Kd.V_mk av aw); clear hva_ hvn_ hvc_ aw av; clear az aI; have a9 := mk0 ay; have a_ := mk0 ax; clear ay ax; replace ap := eq_true ap; replace aq := eq_true aq
        go_wp2_with (first | ((with_reducible refine gate_dst (N := 8) rfl ?_); refine bxE 8 #[.slice none 0 0, .int .i64 0] 59 ?_; intro ac hg bs hbox hb; replace ah := nD ah ac hg hb; replace ae := vD ae ac hg hb; replace ai := vD ai ac hg hb; have ag := mk0 (hbox); have ba := gE (uL HB.out) hg; have bb := gE (uL HB.out) hg; replace HB := hbB (uL HB.out) hb; clear hb hbox hg; obtain ⟨b4, b5, b6, b7⟩ := cL2 ag) | ((with_reducible refine gate_store (t := 59) (p := 8) rfl ?_); refine store_event (t := 59) (p := 8) (v := ?vo_w24) (w1 := ((bs.setCell ⟨ac, 0, none⟩ (.slice aj ((rd_T59 l0 aa).f0).length ak)).setCell ⟨ac, 1, none⟩ (.int .i64 ((rd_T59 l0 aa).f1)))) ?hg ?ho ?hn ?hr ?_; (case ho => rfl); (case hg => rfl); (case hn => rfl); (case hr => first | (go_simp; done) | (go_simp; rfl)); intro aQ hw; have n0_ : Aside0 (Kd.N k59 59 aQ w.heap.size (fun k_ => (P0_ k_ ∨ w.heap.size ≤ k_) ∧ k_ ≠ ac) u6 x6_1) := ⟨(by rw [hw]; exact (uN (Kd.N_mono (Kd.N_far (p := ⟨ac, 1, none⟩) (Kd.N_far (p := ⟨ac, 0, none⟩) (Kd.N_mono ah.out (fun k_ hk => (⟨hk, hk.2⟩ : _ ∧ k_ ≠ ac))) (fun _ hk => hk.2) (.slice aj ((rd_T59 l0 aa).f0).length ak)) (fun _ hk => hk.2) (.int .i64 ((rd_T59 l0 aa).f1))) (fun _ hk => ⟨hk.1.1, hk.1.2⟩))))⟩; have n1_ : Aside0 (Kd.V k59 59 aQ w.heap.size (fun k_ => (P0_ k_ ∨ w.heap.size ≤ k_) ∧ some k_ ≠ (u6 : Value).ownBlock ∧ k_ ≠ ac) (.slice (some aE) l0.length c0) l0) := ⟨(by rw [hw]; exact (uV (Kd.V_mono (Kd.V_far (p := ⟨ac, 1, none⟩) (Kd.V_far (p := ⟨ac, 0, none⟩) (Kd.V_mono ae.out (fun k_ hk => (⟨hk, hk.2⟩ : _ ∧ k_ ≠ ac))) (fun _ hk => hk.2) (.slice aj ((rd_T59 l0 aa).f0).length ak)) (fun _ hk => hk.2) (.int .i64 ((rd_T59 l0 aa).f1))) (fun _ hk => ⟨hk.1.1.1, ⟨hk.1.1.2, hk.1.2⟩⟩))))⟩; have n2_ : Aside0 (Kd.V (Kd.int .i64) 2 aQ w.heap.size (fun k_ => (P0_ k_ ∨ w.heap.size ≤ k_) ∧ some k_ ≠ (u6 : Value).ownBlock ∧ k_ ≠ ac) (.slice aj ((rd_T59 l0 aa).f0).length ak) ((rd_T59 l0 aa).f0)) := ⟨(by rw [hw]; exact (uV (Kd.V_mono (Kd.V_far (p := ⟨ac, 1, none⟩) (Kd.V_far (p := ⟨ac, 0, none⟩) (Kd.V_mono ai.out (fun k_ hk => (⟨hk, hk.2⟩ : _ ∧ k_ ≠ ac))) (fun _ hk => hk.2) (.slice aj ((rd_T59 l0 aa).f0).length ak)) (fun _ hk => hk.2) (.int .i64 ((rd_T59 l0 aa).f1))) (fun _ hk => ⟨hk.1.1.1, ⟨hk.1.1.2, hk.1.2⟩⟩))))⟩; have n3_ : Aside0 (aQ.heap[ac]? = some (.cells #[.slice aj ((rd_T59 l0 aa).f0).length ak, .int .i64 ((rd_T59 l0 aa).f1)] 59 (0, 0))) := ⟨(by rw [hw]; exact (kB))⟩; have n4_ : Aside0 (Below w.heap.size w aQ) := ⟨(by rw [hw]; exact bH)⟩; clear hw ah ae ai ag HB; have ah := n0_; have ae := n1_; have ai := n2_; have ag := n3_; have HB := n4_; clear n0_ n1_ n2_ n3_ n4_; obtain ⟨b8, b9, ca, cd⟩ := cL2 ag) | ((with_reducible refine gate_dst (N := 21) rfl ?_); refine gsM (some 21) Tryd.func55 #[.agg #[.slice aj ((rd_T59 l0 aa).f0).length ak, .int .i64 ((rd_T59 l0 aa).f1)], .int .i64 a1] ?_; (with_reducible refine (sys_tight.calls k1 (fun k_ => ((P0_ k_ ∨ w.heap.size ≤ k_) ∧ (some k_ ≠ (u6 : Value).ownBlock ∧ k_ ≠ ac))) _ _ ((rd_T59 l0 aa).f0) ((rd_T59 l0 aa).f1) a1 am ao false true _ ?side1 A6.out).mono ?_); (case side1 => exact ai.out); rintro e ce ⟨bc, rfl, ho0, hb⟩; refine ⟨_, rfl, ?_⟩; replace ae := vB ae hb; have al := mk0 (Kd.V_lower (Kd.V_mono (ok' := fun k_ => (P0_ k_ ∨ w.heap.size ≤ k_) ∧ some k_ ≠ (u6 : Value).ownBlock ∧ k_ ≠ ac) ho0 (fun k_ hk_ => ⟨Or.elim hk_ (fun hs_ => hs_.1) (fun hn_ => (.inr (Nat.le_trans (below_size bH) hn_))), Or.elim hk_ (fun hs_ => hs_.2.1) (fun hn_ => (Kd.fresh' (Kd.N_lt (uN ah.out)) k_ hn_)), Or.elim hk_ (fun hs_ => hs_.2.2) (fun hn_ => (Kd.freshB (g := ac) (o := .cells #[.slice aj ((rd_T59 l0 aa).f0).length ak, .int .i64 ((rd_T59 l0 aa).f1)] 59 (0, 0)) (uB ag.out) k_ hn_))⟩)) (below_size bH)); replace ah := nB ah hb; replace ag := bB ag hb; replace HB := hbB bH hb; (try clear hb hk ho0)) | ((with_reducible refine gate_dst (N := 9) rfl ?_); refine bxE 9 #[.slice none 0 0, .int .i64 0] 59 ?_; intro af hg cf hbox hb; replace ah := nD ah af hg hb; replace ae := vD ae af hg hb; replace al := vD al af hg hb; have au := mk0 (hbox); have bd := gE bH hg; have bf := gE bH hg; replace HB := hbB bH hb; have aM := nL ag hg; have aN := nG ag hg; clear hb hbox hg; obtain ⟨bg, bh, bu⟩ := Kd.V_slice al.out; subst bu; have cg := aN.out; have ch := aM.out; obtain ⟨cj, ck, cl, cm⟩ := cL2 au))
        go_roundg k1
        case measure => have := aU.out; omega
        case rel => exact ⟨(x6_1), (wrap64 (aa + 1)), eK, H', ⟨by have := aU.out; omega⟩, ⟨uN (Kd.N_mono (Kd.N_far (p := ⟨af, 1, none⟩) (Kd.N_far (p := ⟨af, 0, none⟩) (Kd.N_mono ah.out (fun k_ hk => (⟨hk, hk.2⟩ : _ ∧ k_ ≠ af))) (fun _ hk => hk.2) (.slice bg am.length bh)) (fun _ hk => hk.2) (.int .i64 ao)) (fun _ hk => hk.1.1.1))⟩, ⟨uV (Kd.V_mono (Kd.V_far (p := ⟨af, 1, none⟩) (Kd.V_far (p := ⟨af, 0, none⟩) (Kd.V_mono ae.out (fun k_ hk => (⟨hk, hk.2⟩ : _ ∧ k_ ≠ af))) (fun _ hk => hk.2) (.slice bg am.length bh)) (fun _ hk => hk.2) (.int .i64 ao)) (fun _ hk => ⟨hk.1.1.1, hk.1.1.2.1⟩))⟩, ⟨bH⟩⟩
      ·replace c7 := Bool.eq_false_iff.mpr c7
       subst c7; replace H := iF H; simp only [Option.some.injEq, Prod.mk.injEq] at H; obtain ⟨rfl, rfl⟩ := H; have ap : 0 ≤ (aa : Int) := dY; have aq : aa < (l0.length : Int) := dY; obtain ⟨aE, aj, ak, aG, aH, aZ, ax, ay⟩ := at_T59 (Kd.V_reads' ae.out).2.2 aa ap aq
       cases aG
       obtain ⟨a6, aI, aJ, az⟩ := Kd.V_get ae.out z59 aa ap (by first | exact aq | exact dY | (have e_ := (Kd.V_reads' ae.out).1; omega)); obtain ⟨a7, a8, rfl, av, aw⟩ := k59_openF aJ; have ar := az 0 _ rfl; rw [Nat.add_zero] at ar; replace ar := Option.some.inj (ar.symm.trans aH); injection ar with hva_ hvn_ hvc_; rw [hva_] at aw; rw [hvc_] at av; have ai := mk0 (show Kd.V (Kd.int .i64) 2 _ w.heap.size _ _ ((rd_T59 l0 aa).f0) from Kd.V_mk av aw); clear hva_ hvn_ hvc_ aw av; clear az aI; have a9 := mk0 ay; have a_ := mk0 ax; clear ay ax; replace ap := eq_true ap; replace aq := eq_true aq
       go_wp2_with (first | ((with_reducible refine gate_dst (N := 8) rfl ?_); refine bxE 8 #[.slice none 0 0, .int .i64 0] 59 ?_; intro ac hg bv hbox hb; replace ah := nD ah ac hg hb; replace ae := vD ae ac hg hb; replace ai := vD ai ac hg hb; have ag := mk0 (hbox); have ba := gE (uL HB.out) hg; have bb := gE (uL HB.out) hg; replace HB := hbB (uL HB.out) hb; clear hb hbox hg; obtain ⟨cn, cp, cq, cr⟩ := cL2 ag) | ((with_reducible refine gate_store (t := 59) (p := 8) rfl ?_); refine store_event (t := 59) (p := 8) (v := ?vo_w33) (w1 := ((bv.setCell ⟨ac, 0, none⟩ (.slice aj ((rd_T59 l0 aa).f0).length ak)).setCell ⟨ac, 1, none⟩ (.int .i64 ((rd_T59 l0 aa).f1)))) ?hg ?ho ?hn ?hr ?_; (case ho => rfl); (case hg => rfl); (case hn => rfl); (case hr => first | (go_simp; done) | (go_simp; rfl)); intro aT hw; have n0_ : Aside0 (Kd.N k59 59 aT w.heap.size (fun k_ => (P0_ k_ ∨ w.heap.size ≤ k_) ∧ k_ ≠ ac) u6 x6_1) := ⟨(by rw [hw]; exact (uN (Kd.N_mono (Kd.N_far (p := ⟨ac, 1, none⟩) (Kd.N_far (p := ⟨ac, 0, none⟩) (Kd.N_mono ah.out (fun k_ hk => (⟨hk, hk.2⟩ : _ ∧ k_ ≠ ac))) (fun _ hk => hk.2) (.slice aj ((rd_T59 l0 aa).f0).length ak)) (fun _ hk => hk.2) (.int .i64 ((rd_T59 l0 aa).f1))) (fun _ hk => ⟨hk.1.1, hk.1.2⟩))))⟩; have n1_ : Aside0 (Kd.V k59 59 aT w.heap.size (fun k_ => (P0_ k_ ∨ w.heap.size ≤ k_) ∧ some k_ ≠ (u6 : Value).ownBlock ∧ k_ ≠ ac) (.slice (some aE) l0.length c0) l0) := ⟨(by rw [hw]; exact (uV (Kd.V_mono (Kd.V_far (p := ⟨ac, 1, none⟩) (Kd.V_far (p := ⟨ac, 0, none⟩) (Kd.V_mono ae.out (fun k_ hk => (⟨hk, hk.2⟩ : _ ∧ k_ ≠ ac))) (fun _ hk => hk.2) (.slice aj ((rd_T59 l0 aa).f0).length ak)) (fun _ hk => hk.2) (.int .i64 ((rd_T59 l0 aa).f1))) (fun _ hk => ⟨hk.1.1.1, ⟨hk.1.1.2, hk.1.2⟩⟩))))⟩; have n2_ : Aside0 (Kd.V (Kd.int .i64) 2 aT w.heap.size (fun k_ => (P0_ k_ ∨ w.heap.size ≤ k_) ∧ some k_ ≠ (u6 : Value).ownBlock ∧ k_ ≠ ac) (.slice aj ((rd_T59 l0 aa).f0).length ak) ((rd_T59 l0 aa).f0)) := ⟨(by rw [hw]; exact (uV (Kd.V_mono (Kd.V_far (p := ⟨ac, 1, none⟩) (Kd.V_far (p := ⟨ac, 0, none⟩) (Kd.V_mono ai.out (fun k_ hk => (⟨hk, hk.2⟩ : _ ∧ k_ ≠ ac))) (fun _ hk => hk.2) (.slice aj ((rd_T59 l0 aa).f0).length ak)) (fun _ hk => hk.2) (.int .i64 ((rd_T59 l0 aa).f1))) (fun _ hk => ⟨hk.1.1.1, ⟨hk.1.1.2, hk.1.2⟩⟩))))⟩; have n3_ : Aside0 (aT.heap[ac]? = some (.cells #[.slice aj ((rd_T59 l0 aa).f0).length ak, .int .i64 ((rd_T59 l0 aa).f1)] 59 (0, 0))) := ⟨(by rw [hw]; exact (kB))⟩; have n4_ : Aside0 (Below w.heap.size w aT) := ⟨(by rw [hw]; exact bH)⟩; clear hw ah ae ai ag HB; have ah := n0_; have ae := n1_; have ai := n2_; have ag := n3_; have HB := n4_; clear n0_ n1_ n2_ n3_ n4_; obtain ⟨ct, cu, cv, cw⟩ := cL2 ag; clear ah; have n_ := mk0 (Kd.V_mono (ok' := (fun k_ => (P0_ k_ ∨ w.heap.size ≤ k_) ∧ k_ ≠ ac)) ai.out (fun k_ hk => ⟨hk.1, hk.2.2⟩)); clear ai; have ai := n_; clear n_) | ((with_reducible refine gate_dst (N := 21) rfl ?_); refine gsM (some 21) Tryd.func55 #[.agg #[.slice aj ((rd_T59 l0 aa).f0).length ak, .int .i64 ((rd_T59 l0 aa).f1)], .int .i64 a1] ?_; (with_reducible refine (sys_tight.calls k1 (fun k_ => ((P0_ k_ ∨ w.heap.size ≤ k_) ∧ k_ ≠ ac)) _ _ ((rd_T59 l0 aa).f0) ((rd_T59 l0 aa).f1) a1 am ao aW false _ ?side1 A6.out).mono ?_); (case side1 => exact ai.out); rintro e cy ⟨bc, rfl, ho0, hb⟩; refine ⟨_, rfl, ?_⟩; have al := mk0 (Kd.V_lower (Kd.V_mono (ok' := fun k_ => (P0_ k_ ∨ w.heap.size ≤ k_) ∧ k_ ≠ ac) ho0 (fun k_ hk_ => ⟨Or.elim hk_ (fun hs_ => hs_.1) (fun hn_ => (.inr (Nat.le_trans (below_size bH) hn_))), Or.elim hk_ (fun hs_ => hs_.2) (fun hn_ => (Kd.freshB (g := ac) (o := .cells #[.slice aj ((rd_T59 l0 aa).f0).length ak, .int .i64 ((rd_T59 l0 aa).f1)] 59 (0, 0)) (uB ag.out) k_ hn_))⟩)) (below_size bH)); replace ag := bB ag hb; replace HB := hbB bH hb; (try clear hb hk ho0)) | ((with_reducible refine gate_dst (N := 9) rfl ?_); refine bxE 9 #[.slice none 0 0, .int .i64 0] 59 ?_; intro af hg cz hbox hb; replace al := vD al af hg hb; have au := mk0 (hbox); have bd := gE bH hg; have bf := gE bH hg; replace HB := hbB bH hb; have aM := nL ag hg; have aN := nG ag hg; clear hb hbox hg; obtain ⟨cA, cD, bw⟩ := Kd.V_slice al.out; subst bw; have cE := aN.out; have cF := aM.out; obtain ⟨cG, cH, cI, cJ⟩ := cL2 au))
       go_ret2
       exact ⟨_, rE, nK, bH⟩
     ·exact nO H c5
    ·exact nO H c4
   ·rw [if_neg c3] at H
    have bk := decide_eq_false c3; clear c3; simp only [Option.some.injEq, Prod.mk.injEq] at H; obtain ⟨rfl, rfl⟩ := H; go_wp2
    go_ret2
    exact ⟨_, rE, uN ah.out, uL HB.out⟩

/-! ### sys_Tight: function 12 -/
def sys_Tight.f (k : Nat) (a0_0 : Int) (l0_1 : List (S59)) (l0_2 : List (S59)) : Option (Int × (List (S59)) × (List (S59)) × Bool) := (sys_rows.f k l0_1 0).bind fun bt168 => ((sys_rows.f k l0_2 1).bind fun bt172 => (if bt168.2 = true then (if bt172.2 = true then (some (a0_0, bt168.1, bt172.1, true)) else (some (0, ([] : List (S59)), ([] : List (S59)), false))) else (some (0, ([] : List (S59)), ([] : List (S59)), false))))
theorem sys_Tight.mono : ∀ a0 a1 a2 k, LeO (sys_Tight.f k a0 a1 a2) (sys_Tight.f (k + 1) a0 a1 a2) := by
 intro a0 a1 a2 k
 have m0_ := @sys_rows.mono; unfold sys_Tight.f; exact lO_
set_option maxHeartbeats 8000000 in
set_option maxRecDepth 100000 in
theorem sys_Tight.calls (k : Nat) (a0_0 : Int) (P0_1_ : Nat → Prop) (A0_1 : Option Addr) (c0_1 : Nat) (l0_1 : List (S59)) (P0_2_ : Nat → Prop) (A0_2 : Option Addr) (c0_2 : Nat) (l0_2 : List (S59)) (r1 : Int) (r2 : List (S59)) (r3 : List (S59)) (r4 : Bool) (w : World) (hs0_1 : Kd.V k59 59 w w.heap.size (fun k_ => P0_1_ k_) (.slice A0_1 l0_1.length c0_1) l0_1) (hs0_2 : Kd.V k59 59 w w.heap.size (fun k_ => P0_2_ k_) (.slice A0_2 l0_2.length c0_2) l0_2) (h : sys_Tight.f k a0_0 l0_1 l0_2 = some (r1, r2, r3, r4)) :
  Calls Tryd.prog 12 #[.agg #[.int .i64 a0_0, .slice A0_1 l0_1.length c0_1, .slice A0_2 l0_2.length c0_2]] w fun e w' => ∃ v1_ v2_ : Value, e = .returned (.tuple #[.agg #[.int .i64 r1, v1_, v2_], .bool r4]) ∧ Kd.N k59 59 w' w.heap.size (fun k_ => ((P0_1_ k_ ∨ P0_2_ k_) ∨ w.heap.size ≤ k_) ∧ some k_ ≠ (v2_ : Value).ownBlock) v1_ r2 ∧ Kd.N k59 59 w' w.heap.size (fun k_ => ((P0_1_ k_ ∨ P0_2_ k_) ∨ w.heap.size ≤ k_) ∧ some k_ ≠ (v1_ : Value).ownBlock) v2_ r3 ∧ Below w.heap.size w w' := by
 have hu24 := Tryd.underlying24
 have ah := mk0 (show Kd.V k59 59 w w.heap.size (fun k_ => ((P0_1_ k_ ∨ P0_2_ k_) ∨ w.heap.size ≤ k_)) (.slice A0_1 l0_1.length c0_1) l0_1 from Kd.V_mono hs0_1 (fun k_ hk => .inl (.inl hk)))
 have af := mk0 (show Kd.V k59 59 w w.heap.size (fun k_ => ((P0_1_ k_ ∨ P0_2_ k_) ∨ w.heap.size ≤ k_)) (.slice A0_2 l0_2.length c0_2) l0_2 from Kd.V_mono hs0_2 (fun k_ hk => .inl (.inr hk)))
 have HB := mk0 (Below.refl w.heap.size w)
 have H : ((sys_rows.f k l0_1 0).bind fun aw => ((sys_rows.f k l0_2 1).bind fun ax => (if aw.2 = true then (if ax.2 = true then (some (a0_0, aw.1, ax.1, true)) else (some (0, ([] : List (S59)), ([] : List (S59)), false))) else (some (0, ([] : List (S59)), ([] : List (S59)), false))))) = some (r1, r2, r3, r4) := h
 clear h
 replace H := Option.bind_eq_some_iff.mp H
 obtain ⟨⟨aj, aI⟩, ay, H⟩ := H
 dsimp only at H
 have A2 := mk0 ay
 clear ay
 replace H := Option.bind_eq_some_iff.mp H
 obtain ⟨⟨ak, az⟩, aA, H⟩ := H
 dsimp only at H
 have A3 := mk0 aA
 clear aA
 by_cases c4 : aI = true
 ·subst c4
  replace H := iT H
  by_cases c5 : az = true
  ·subst c5
   replace H := iT H; simp only [Option.some.injEq, Prod.mk.injEq] at H; obtain ⟨rfl, rfl, rfl, rfl⟩ := H; go_enter Tryd.func12, Tryd.ntmps12
   go_wp2_with (first | ((with_reducible refine gate_dst (N := 1) rfl ?_); refine bxE 1 #[.int .i64 a0_0, .slice A0_1 l0_1.length c0_1, .slice A0_2 l0_2.length c0_2] 24 ?_; intro ae hg w6 hbox hb; replace ah := vD ah ae hg hb; replace af := vD af ae hg hb; have ac := mk0 (hbox); have aC := gE (uL HB.out) hg; have aD := gE (uL HB.out) hg; replace HB := hbB (uL HB.out) hb; clear hb hbox hg) | ((with_reducible refine gate_dst (N := 2) rfl ?_); refine bxE 2 #[.int .i64 0, .slice none 0 0, .slice none 0 0] 24 ?_; intro aa hg w7 hbox hb; replace ah := vD ah aa hg hb; replace af := vD af aa hg hb; have ag := mk0 (hbox); have aE := gE bH hg; have aG := gE bH hg; replace HB := hbB bH hb; have al := nL ac hg; have am := nG ac hg; replace ac := bB ac hb; clear hb hbox hg; have aM := al.out; have aN := am.out; obtain ⟨aQ, aT, aU, aV, aW, aX⟩ := cL3 ac) | ((with_reducible refine gate_dst (N := 11) rfl ?_); refine gsM (some 11) Tryd.func31 #[.slice A0_1 l0_1.length c0_1, .int .i64 0] ?_; (with_reducible refine (sys_rows.calls k (fun k_ => ((((P0_1_ k_ ∨ P0_2_ k_) ∨ w.heap.size ≤ k_) ∧ k_ ≠ ae) ∧ k_ ≠ aa)) _ _ l0_1 0 aj true _ ?side1 A2.out).mono ?_); (case side1 => exact ah.out); rintro e aY ⟨ao, rfl, ho0, hb⟩; refine ⟨_, rfl, ?_⟩; replace af := mk0 (Kd.V_elder' (uV af.out) (Kd.N_base ho0) hb); have ai := mk0 (Kd.N_lower (Kd.N_mono (ok' := fun k_ => ((P0_1_ k_ ∨ P0_2_ k_) ∨ w.heap.size ≤ k_) ∧ k_ ≠ ae ∧ k_ ≠ aa) ho0 (fun k_ hk_ => ⟨Or.elim hk_ (fun hs_ => hs_.1.1) (fun hn_ => (.inr (Nat.le_trans (below_size bH) hn_))), Or.elim hk_ (fun hs_ => hs_.1.2) (fun hn_ => (Kd.freshB (g := ae) (o := .cells #[.int .i64 a0_0, .slice A0_1 l0_1.length c0_1, .slice A0_2 l0_2.length c0_2] 24 (0, 0)) (uB ac.out) k_ hn_)), Or.elim hk_ (fun hs_ => hs_.2) (fun hn_ => (Kd.freshB (g := aa) (o := .cells #[.int .i64 0, .slice none 0 0, .slice none 0 0] 24 (0, 0)) (uB ag.out) k_ hn_))⟩)) (below_size bH)); replace ac := bB ac hb; replace ag := bB ag hb; replace HB := hbB bH hb; (try clear hb hk ho0); obtain ⟨aZ, a6, a7, a8, a9, a_⟩ := cL3 ac) | ((with_reducible refine gate_dst (N := 17) rfl ?_); refine gsM (some 17) Tryd.func31 #[.slice A0_2 l0_2.length c0_2, .int .i64 1] ?_; (with_reducible refine (sys_rows.calls k (fun k_ => (((((P0_1_ k_ ∨ P0_2_ k_) ∨ w.heap.size ≤ k_) ∧ k_ ≠ ae) ∧ k_ ≠ aa) ∧ some k_ ≠ (ao : Value).ownBlock)) _ _ l0_2 1 ak true _ ?side1 A3.out).mono ?_); (case side1 => exact af.out); rintro e ba ⟨aH, rfl, ho0, hb⟩; refine ⟨_, rfl, ?_⟩; have ap := mk0 (Kd.N_lower (Kd.N_mono (ok' := fun k_ => ((P0_1_ k_ ∨ P0_2_ k_) ∨ w.heap.size ≤ k_) ∧ some k_ ≠ (ao : Value).ownBlock ∧ k_ ≠ ae ∧ k_ ≠ aa) ho0 (fun k_ hk_ => ⟨Or.elim hk_ (fun hs_ => hs_.1.1.1) (fun hn_ => (.inr (Nat.le_trans (below_size bH) hn_))), Or.elim hk_ (fun hs_ => hs_.2) (fun hn_ => (Kd.fresh' (Kd.N_lt (uN ai.out)) k_ hn_)), Or.elim hk_ (fun hs_ => hs_.1.1.2) (fun hn_ => (Kd.freshB (g := ae) (o := .cells #[.int .i64 a0_0, .slice A0_1 l0_1.length c0_1, .slice A0_2 l0_2.length c0_2] 24 (0, 0)) (uB ac.out) k_ hn_)), Or.elim hk_ (fun hs_ => hs_.1.2) (fun hn_ => (Kd.freshB (g := aa) (o := .cells #[.int .i64 0, .slice none 0 0, .slice none 0 0] 24 (0, 0)) (uB ag.out) k_ hn_))⟩)) (below_size bH)); replace ai := mk0 (Kd.N_elder' (uN ai.out) (Kd.N_base ho0) hb); replace ac := bB ac hb; replace ag := bB ag hb; replace HB := hbB bH hb; (try clear hb hk ho0); obtain ⟨bb, bc, bd, bf, bg, bh⟩ := cL3 ac; obtain ⟨aq, ar, aJ⟩ := Kd.N_slice ap.out; subst aJ; obtain ⟨au, av, aK⟩ := Kd.N_slice ai.out; subst aK; obtain ⟨bi, bj, bk, bl, bm, bn⟩ := cL3 ag))
   refine bodyPost_ret (results_ct rfl _ _ aa 24 #[.int .i64 a0_0, .slice au aj.length av, .slice aq ak.length ar] (0, 0) _ rfl (kB) Tryd.underlying24 rfl (by kernel_rfl)) rfl ?_; exact ⟨_, _, rE, uN (Kd.N_mono (Kd.N_far (p := ⟨aa, 2, none⟩) (Kd.N_far (p := ⟨aa, 1, none⟩) (Kd.N_far (p := ⟨aa, 0, none⟩) (Kd.N_mono ai.out (fun k_ hk => (⟨hk, hk.1.2.2⟩ : _ ∧ k_ ≠ aa))) (fun _ hk => hk.2) (.int .i64 a0_0)) (fun _ hk => hk.2) (.slice au aj.length av)) (fun _ hk => hk.2) (.slice aq ak.length ar)) (fun _ hk => ⟨hk.1.1.1, hk.1.2⟩)), uN (Kd.N_mono (Kd.N_far (p := ⟨aa, 2, none⟩) (Kd.N_far (p := ⟨aa, 1, none⟩) (Kd.N_far (p := ⟨aa, 0, none⟩) (Kd.N_mono ap.out (fun k_ hk => (⟨hk, hk.2.2.2⟩ : _ ∧ k_ ≠ aa))) (fun _ hk => hk.2) (.int .i64 a0_0)) (fun _ hk => hk.2) (.slice au aj.length av)) (fun _ hk => hk.2) (.slice aq ak.length ar)) (fun _ hk => ⟨hk.1.1, hk.1.2.1⟩)), bH⟩
  ·replace c5 := Bool.eq_false_iff.mpr c5
   subst c5; replace H := iF H; simp only [Option.some.injEq, Prod.mk.injEq] at H; obtain ⟨rfl, rfl, rfl, rfl⟩ := H; go_enter Tryd.func12, Tryd.ntmps12
   go_wp2_with (first | ((with_reducible refine gate_dst (N := 1) rfl ?_); refine bxE 1 #[.int .i64 a0_0, .slice A0_1 l0_1.length c0_1, .slice A0_2 l0_2.length c0_2] 24 ?_; intro ae hg bo hbox hb; replace ah := vD ah ae hg hb; replace af := vD af ae hg hb; have ac := mk0 (hbox); have aC := gE (uL HB.out) hg; have aD := gE (uL HB.out) hg; replace HB := hbB (uL HB.out) hb; clear hb hbox hg) | ((with_reducible refine gate_dst (N := 2) rfl ?_); refine bxE 2 #[.int .i64 0, .slice none 0 0, .slice none 0 0] 24 ?_; intro aa hg bp hbox hb; replace ah := vD ah aa hg hb; replace af := vD af aa hg hb; have ag := mk0 (hbox); have aE := gE bH hg; have aG := gE bH hg; replace HB := hbB bH hb; have al := nL ac hg; have am := nG ac hg; replace ac := bB ac hb; clear hb hbox hg; have bq := al.out; have br := am.out; obtain ⟨bs, bu, bv, bw, bx, bz⟩ := cL3 ac) | ((with_reducible refine gate_dst (N := 11) rfl ?_); refine gsM (some 11) Tryd.func31 #[.slice A0_1 l0_1.length c0_1, .int .i64 0] ?_; (with_reducible refine (sys_rows.calls k (fun k_ => ((((P0_1_ k_ ∨ P0_2_ k_) ∨ w.heap.size ≤ k_) ∧ k_ ≠ ae) ∧ k_ ≠ aa)) _ _ l0_1 0 aj true _ ?side1 A2.out).mono ?_); (case side1 => exact ah.out); rintro e bC ⟨ao, rfl, ho0, hb⟩; refine ⟨_, rfl, ?_⟩; replace af := mk0 (Kd.V_elder' (uV af.out) (Kd.N_base ho0) hb); have ai := mk0 (Kd.N_lower (Kd.N_mono (ok' := fun k_ => ((P0_1_ k_ ∨ P0_2_ k_) ∨ w.heap.size ≤ k_) ∧ k_ ≠ ae ∧ k_ ≠ aa) ho0 (fun k_ hk_ => ⟨Or.elim hk_ (fun hs_ => hs_.1.1) (fun hn_ => (.inr (Nat.le_trans (below_size bH) hn_))), Or.elim hk_ (fun hs_ => hs_.1.2) (fun hn_ => (Kd.freshB (g := ae) (o := .cells #[.int .i64 a0_0, .slice A0_1 l0_1.length c0_1, .slice A0_2 l0_2.length c0_2] 24 (0, 0)) (uB ac.out) k_ hn_)), Or.elim hk_ (fun hs_ => hs_.2) (fun hn_ => (Kd.freshB (g := aa) (o := .cells #[.int .i64 0, .slice none 0 0, .slice none 0 0] 24 (0, 0)) (uB ag.out) k_ hn_))⟩)) (below_size bH)); replace ac := bB ac hb; replace ag := bB ag hb; replace HB := hbB bH hb; (try clear hb hk ho0); obtain ⟨bE, bF, bG, bI, bJ, bK⟩ := cL3 ac; clear ai; have n_ := mk0 (Kd.V_mono (ok' := (fun k_ => ((P0_1_ k_ ∨ P0_2_ k_) ∨ w.heap.size ≤ k_) ∧ k_ ≠ ae ∧ k_ ≠ aa)) af.out (fun k_ hk => ⟨hk.1.1.1, ⟨hk.1.1.2, hk.1.2⟩⟩)); clear af; have af := n_; clear n_) | ((with_reducible refine gate_dst (N := 17) rfl ?_); refine gsM (some 17) Tryd.func31 #[.slice A0_2 l0_2.length c0_2, .int .i64 1] ?_; (with_reducible refine (sys_rows.calls k (fun k_ => (((P0_1_ k_ ∨ P0_2_ k_) ∨ w.heap.size ≤ k_) ∧ (k_ ≠ ae ∧ k_ ≠ aa))) _ _ l0_2 1 ak false _ ?side1 A3.out).mono ?_); (case side1 => exact af.out); rintro e bL ⟨aH, rfl, ho0, hb⟩; refine ⟨_, rfl, ?_⟩; have ap := mk0 (Kd.N_lower (Kd.N_mono (ok' := fun k_ => ((P0_1_ k_ ∨ P0_2_ k_) ∨ w.heap.size ≤ k_) ∧ k_ ≠ ae ∧ k_ ≠ aa) ho0 (fun k_ hk_ => ⟨Or.elim hk_ (fun hs_ => hs_.1) (fun hn_ => (.inr (Nat.le_trans (below_size bH) hn_))), Or.elim hk_ (fun hs_ => hs_.2.1) (fun hn_ => (Kd.freshB (g := ae) (o := .cells #[.int .i64 a0_0, .slice A0_1 l0_1.length c0_1, .slice A0_2 l0_2.length c0_2] 24 (0, 0)) (uB ac.out) k_ hn_)), Or.elim hk_ (fun hs_ => hs_.2.2) (fun hn_ => (Kd.freshB (g := aa) (o := .cells #[.int .i64 0, .slice none 0 0, .slice none 0 0] 24 (0, 0)) (uB ag.out) k_ hn_))⟩)) (below_size bH)); replace ag := bB ag hb; replace HB := hbB bH hb; (try clear hb hk ho0); obtain ⟨bM, bO, bP, bQ, bR, bT⟩ := cL3 ag))
   refine bodyPost_ret (results_ct rfl _ _ aa 24 #[.int .i64 0, .slice none 0 0, .slice none 0 0] (0, 0) _ rfl (kB) Tryd.underlying24 rfl (by kernel_rfl)) rfl ?_; exact ⟨_, _, rE, nK, nK, bH⟩
 ·replace c4 := Bool.eq_false_iff.mpr c4
  subst c4; replace H := iF H; simp only [Option.some.injEq, Prod.mk.injEq] at H; obtain ⟨rfl, rfl, rfl, rfl⟩ := H; go_enter Tryd.func12, Tryd.ntmps12
  go_wp2_with (first | ((with_reducible refine gate_dst (N := 1) rfl ?_); refine bxE 1 #[.int .i64 a0_0, .slice A0_1 l0_1.length c0_1, .slice A0_2 l0_2.length c0_2] 24 ?_; intro ae hg bU hbox hb; replace ah := vD ah ae hg hb; replace af := vD af ae hg hb; have ac := mk0 (hbox); have aC := gE (uL HB.out) hg; have aD := gE (uL HB.out) hg; replace HB := hbB (uL HB.out) hb; clear hb hbox hg) | ((with_reducible refine gate_dst (N := 2) rfl ?_); refine bxE 2 #[.int .i64 0, .slice none 0 0, .slice none 0 0] 24 ?_; intro aa hg bV hbox hb; replace ah := vD ah aa hg hb; replace af := vD af aa hg hb; have ag := mk0 (hbox); have aE := gE bH hg; have aG := gE bH hg; replace HB := hbB bH hb; have al := nL ac hg; have am := nG ac hg; replace ac := bB ac hb; clear hb hbox hg; have bW := al.out; have bX := am.out; obtain ⟨bY, bZ, b3, b4, b5, b6⟩ := cL3 ac) | ((with_reducible refine gate_dst (N := 11) rfl ?_); refine gsM (some 11) Tryd.func31 #[.slice A0_1 l0_1.length c0_1, .int .i64 0] ?_; (with_reducible refine (sys_rows.calls k (fun k_ => ((((P0_1_ k_ ∨ P0_2_ k_) ∨ w.heap.size ≤ k_) ∧ k_ ≠ ae) ∧ k_ ≠ aa)) _ _ l0_1 0 aj false _ ?side1 A2.out).mono ?_); (case side1 => exact ah.out); rintro e b7 ⟨ao, rfl, ho0, hb⟩; refine ⟨_, rfl, ?_⟩; replace af := mk0 (Kd.V_elder' (uV af.out) (Kd.N_base ho0) hb); have ai := mk0 (Kd.N_lower (Kd.N_mono (ok' := fun k_ => ((P0_1_ k_ ∨ P0_2_ k_) ∨ w.heap.size ≤ k_) ∧ k_ ≠ ae ∧ k_ ≠ aa) ho0 (fun k_ hk_ => ⟨Or.elim hk_ (fun hs_ => hs_.1.1) (fun hn_ => (.inr (Nat.le_trans (below_size bH) hn_))), Or.elim hk_ (fun hs_ => hs_.1.2) (fun hn_ => (Kd.freshB (g := ae) (o := .cells #[.int .i64 a0_0, .slice A0_1 l0_1.length c0_1, .slice A0_2 l0_2.length c0_2] 24 (0, 0)) (uB ac.out) k_ hn_)), Or.elim hk_ (fun hs_ => hs_.2) (fun hn_ => (Kd.freshB (g := aa) (o := .cells #[.int .i64 0, .slice none 0 0, .slice none 0 0] 24 (0, 0)) (uB ag.out) k_ hn_))⟩)) (below_size bH)); replace ac := bB ac hb; replace ag := bB ag hb; replace HB := hbB bH hb; (try clear hb hk ho0); obtain ⟨b8, b9, ca, cd, ce, cf⟩ := cL3 ac; clear ai; have n_ := mk0 (Kd.V_mono (ok' := (fun k_ => ((P0_1_ k_ ∨ P0_2_ k_) ∨ w.heap.size ≤ k_) ∧ k_ ≠ ae ∧ k_ ≠ aa)) af.out (fun k_ hk => ⟨hk.1.1.1, ⟨hk.1.1.2, hk.1.2⟩⟩)); clear af; have af := n_; clear n_) | ((with_reducible refine gate_dst (N := 17) rfl ?_); refine gsM (some 17) Tryd.func31 #[.slice A0_2 l0_2.length c0_2, .int .i64 1] ?_; (with_reducible refine (sys_rows.calls k (fun k_ => (((P0_1_ k_ ∨ P0_2_ k_) ∨ w.heap.size ≤ k_) ∧ (k_ ≠ ae ∧ k_ ≠ aa))) _ _ l0_2 1 ak az _ ?side1 A3.out).mono ?_); (case side1 => exact af.out); rintro e cg ⟨aH, rfl, ho0, hb⟩; refine ⟨_, rfl, ?_⟩; have ap := mk0 (Kd.N_lower (Kd.N_mono (ok' := fun k_ => ((P0_1_ k_ ∨ P0_2_ k_) ∨ w.heap.size ≤ k_) ∧ k_ ≠ ae ∧ k_ ≠ aa) ho0 (fun k_ hk_ => ⟨Or.elim hk_ (fun hs_ => hs_.1) (fun hn_ => (.inr (Nat.le_trans (below_size bH) hn_))), Or.elim hk_ (fun hs_ => hs_.2.1) (fun hn_ => (Kd.freshB (g := ae) (o := .cells #[.int .i64 a0_0, .slice A0_1 l0_1.length c0_1, .slice A0_2 l0_2.length c0_2] 24 (0, 0)) (uB ac.out) k_ hn_)), Or.elim hk_ (fun hs_ => hs_.2.2) (fun hn_ => (Kd.freshB (g := aa) (o := .cells #[.int .i64 0, .slice none 0 0, .slice none 0 0] 24 (0, 0)) (uB ag.out) k_ hn_))⟩)) (below_size bH)); replace ag := bB ag hb; replace HB := hbB bH hb; (try clear hb hk ho0); obtain ⟨ch, cj, ck, cl, cm, cn⟩ := cL3 ag))
  refine bodyPost_ret (results_ct rfl _ _ aa 24 #[.int .i64 0, .slice none 0 0, .slice none 0 0] (0, 0) _ rfl (kB) Tryd.underlying24 rfl (by kernel_rfl)) rfl ?_; exact ⟨_, _, rE, nK, nK, bH⟩

/-- A state of type 92 at block g of W; what its slices lead to came in by w0. -/
def IsS92 (w0 W : World) (g : Nat) (f0 : Int) (f1 : Int) (f2 : Bool) (f3 : Bool) : Prop := W.heap[g]? = some (.cells #[.int .i64 f0, .int .i64 f1, .bool f2, .bool f3] 92 (0, 0)) ∧ w0.heap.size ≤ g
theorem IsS92.grown {w0 W : World} {g : Nat} {f0 : Int} {f1 : Int} {f2 : Bool} {f3 : Bool} {W1 : World} {row : Option Nat} (h : IsS92 w0 W g f0 f1 f2 f3) (hw : W.grownBy W1 row) (hne : some g ≠ row) : IsS92 w0 W1 g f0 f1 f2 f3 := by
 obtain ⟨hb, hg⟩ := h
 exact ⟨blk_grown hb hw hne, hg⟩
theorem IsS92.own_neN {w0 W : World} {g : Nat} {f0 : Int} {f1 : Int} {f2 : Bool} {f3 : Bool} {α : Type} {d : Kd α} {e : Nat} {base : Nat} {ok : Nat → Prop} {v : Value} {xs : List α} (h : IsS92 w0 W g f0 f1 f2 f3) (ho : Kd.N d e W base ok v xs) (ht : e ≠ 92) : some g ≠ v.ownBlock := by
 obtain ⟨hb, hg⟩ := h
 exact Kd.N_ne ho hb ht
theorem IsS92.fresh {w0 W : World} {g : Nat} {f0 : Int} {f1 : Int} {f2 : Bool} {f3 : Bool} (h : IsS92 w0 W g f0 f1 f2 f3) : ∀ k, W.heap.size ≤ k → k ≠ g := by
 obtain ⟨hb, hg⟩ := h
 exact Kd.freshB hb
theorem IsS92.kept {w0 W : World} {g : Nat} {f0 : Int} {f1 : Int} {f2 : Bool} {f3 : Bool} {W1 : World} {S : Nat → Prop} (h : IsS92 w0 W g f0 f1 f2 f3) (hk : Kept W W1 S) (hne : ¬ S g) : IsS92 w0 W1 g f0 f1 f2 f3 := by
 obtain ⟨hb, hg⟩ := h
 exact ⟨blk_kept hb hk hne, hg⟩
theorem IsS92.below {w0 W : World} {g : Nat} {f0 : Int} {f1 : Int} {f2 : Bool} {f3 : Bool} {W1 : World} (h : IsS92 w0 W g f0 f1 f2 f3) (hw : Below W.heap.size W W1) : IsS92 w0 W1 g f0 f1 f2 f3 := h.grown (grown_of_below hw none) (by simp)
theorem IsS92.alloc {w0 W : World} {g : Nat} {f0 : Int} {f1 : Int} {f2 : Bool} {f3 : Bool} (h : IsS92 w0 W g f0 f1 f2 f3) (o : Obj) : IsS92 w0 (W.alloc o) g f0 f1 f2 f3 := h.below (below_alloc (Below.refl _ _) o)
theorem IsS92.drewN {w0 W : World} {g : Nat} {f0 : Int} {f1 : Int} {f2 : Bool} {f3 : Bool} (h : IsS92 w0 W g f0 f1 f2 f3) (m : Nat) : IsS92 w0 (W.drewN m) g f0 f1 f2 f3 := h
theorem IsS92.drew {w0 W : World} {g : Nat} {f0 : Int} {f1 : Int} {f2 : Bool} {f3 : Bool} (h : IsS92 w0 W g f0 f1 f2 f3) : IsS92 w0 W.drew g f0 f1 f2 f3 := h
theorem IsS92.at_ {w0 W : World} {g : Nat} {f0 : Int} {f1 : Int} {f2 : Bool} {f3 : Bool} {w' : World} {m : Nat} (hq : W.drewN m = w') (h : IsS92 w0 W g f0 f1 f2 f3) : IsS92 w0 w' g f0 f1 f2 f3 := by subst hq; exact IsS92.drewN h m
theorem IsS92.apart {w0 W : World} {g : Nat} {f0 : Int} {f1 : Int} {f2 : Bool} {f3 : Bool} {α : Type} {d : Kd α} {e : Nat} {base : Nat} {ok : Nat → Prop} {v : Value} {xs : List α} (h : IsS92 w0 W g f0 f1 f2 f3) (ho : d.R e W base ok v xs) (ht : ∀ q, q ∈ e :: d.E → q ≠ 92) : d.R e W base (fun k => ok k ∧ k ≠ g) v xs := by
 obtain ⟨hb, hg⟩ := h
 exact Kd.R_types ho hb ht
theorem IsS92.own_ne {w0 W : World} {g : Nat} {f0 : Int} {f1 : Int} {f2 : Bool} {f3 : Bool} {α : Type} {d : Kd α} {e : Nat} {base : Nat} {ok : Nat → Prop} {v : Value} {xs : List α} (h : IsS92 w0 W g f0 f1 f2 f3) (ho : d.R e W base ok v xs) (ht : e ≠ 92) : some g ≠ v.ownBlock := by
 obtain ⟨hb, hg⟩ := h
 exact Kd.R_ne ho hb ht
theorem IsS92.apartQ {w0 W : World} {g : Nat} {f0 : Int} {f1 : Int} {f2 : Bool} {f3 : Bool} {α : Type} {d : Kd α} {e : Nat} {base : Nat} {ok : Nat → Prop} {v : Value} {xs : List α} (h : IsS92 w0 W g f0 f1 f2 f3) (ho : d.Q e W base ok v xs) (ht : ∀ q, q ∈ e :: d.E → q ≠ 92) : d.Q e W base (fun k => ok k ∧ k ≠ g) v xs := by
 obtain ⟨hb, hg⟩ := h
 exact Kd.Q_types ho hb ht
theorem IsS92.own_neQ {w0 W : World} {g : Nat} {f0 : Int} {f1 : Int} {f2 : Bool} {f3 : Bool} {α : Type} {d : Kd α} {e : Nat} {base : Nat} {ok : Nat → Prop} {v : Value} {xs : List α} (h : IsS92 w0 W g f0 f1 f2 f3) (ho : d.Q e W base ok v xs) (ht : e ≠ 92) : some g ≠ v.ownBlock := by
 obtain ⟨hb, hg⟩ := h
 exact Kd.Q_ne ho hb ht
theorem IsS92.apartS {w0 W : World} {g : Nat} {f0 : Int} {f1 : Int} {f2 : Bool} {f3 : Bool} {α : Type} {d : Kd α} {e : Nat} {base : Nat} {ok : Nat → Prop} {v : Value} {xs : List α} (h : IsS92 w0 W g f0 f1 f2 f3) (ho : d.S e W base ok v xs) (ht : ∀ q, q ∈ e :: d.E → q ≠ 92) : d.S e W base (fun k => ok k ∧ k ≠ g) v xs := by
 obtain ⟨hb, hg⟩ := h
 exact Kd.S_types ho hb ht
theorem IsS92.own_neS {w0 W : World} {g : Nat} {f0 : Int} {f1 : Int} {f2 : Bool} {f3 : Bool} {α : Type} {d : Kd α} {e : Nat} {base : Nat} {ok : Nat → Prop} {v : Value} {xs : List α} (h : IsS92 w0 W g f0 f1 f2 f3) (ho : d.S e W base ok v xs) (ht : e ≠ 92) : some g ≠ v.ownBlock := by
 obtain ⟨hb, hg⟩ := h
 exact Kd.S_ne ho hb ht
theorem IsS92.lt {w0 W : World} {g : Nat} {f0 : Int} {f1 : Int} {f2 : Bool} {f3 : Bool} (h : IsS92 w0 W g f0 f1 f2 f3) : g < W.heap.size := by
 obtain ⟨hb, hg⟩ := h
 exact blk_lt hb
theorem IsS92.ge {w0 W : World} {g : Nat} {f0 : Int} {f1 : Int} {f2 : Bool} {f3 : Bool} (h : IsS92 w0 W g f0 f1 f2 f3) : w0.heap.size ≤ g := by
 obtain ⟨hb, hg⟩ := h
 exact hg
theorem IsS92.ne_blk {w0 W : World} {g : Nat} {f0 : Int} {f1 : Int} {f2 : Bool} {f3 : Bool} {a : Nat} {cs : Array Value} {t : TypeId} {fr : Nat × Nat} (h : IsS92 w0 W g f0 f1 f2 f3) (hb2 : W.heap[a]? = some (.cells cs t fr)) (ht : t ≠ 92) : g ≠ a := by
 obtain ⟨hb, hg⟩ := h
 rintro rfl
 rw [hb] at hb2
 injection hb2 with hb2
 injection hb2 with _ ht2
 exact ht ht2.symm
theorem IsS92.far {w0 W : World} {g : Nat} {f0 : Int} {f1 : Int} {f2 : Bool} {f3 : Bool} {p : Addr} (h : IsS92 w0 W g f0 f1 f2 f3) (hne : g ≠ p.block) (u : Value) : IsS92 w0 (W.setCell p u) g f0 f1 f2 f3 := by
 obtain ⟨hb, hg⟩ := h
 exact ⟨blk_far hb hne u, hg⟩
theorem cellS92_0 {W : World} {g : Nat} {f0 : Int} {f1 : Int} {f2 : Bool} {f3 : Bool} (h : W.heap[g]? = some (.cells #[.int .i64 f0, .int .i64 f1, .bool f2, .bool f3] 92 (0, 0))) : W.cell? ⟨g, 0, none⟩ = some (.int .i64 f0) := (blk_cell h 0).trans rfl
theorem IsS92.set_0 {w0 W : World} {g : Nat} {f0 : Int} {f1 : Int} {f2 : Bool} {f3 : Bool} (h : IsS92 w0 W g f0 f1 f2 f3) (x : Int) : IsS92 w0 (W.setCell ⟨g, 0, none⟩ (.int .i64 x)) g x f1 f2 f3 := by
 obtain ⟨hb, hg⟩ := h
 exact ⟨by simpa using blk_set hb 0 (.int .i64 x), hg⟩
theorem cellS92_1 {W : World} {g : Nat} {f0 : Int} {f1 : Int} {f2 : Bool} {f3 : Bool} (h : W.heap[g]? = some (.cells #[.int .i64 f0, .int .i64 f1, .bool f2, .bool f3] 92 (0, 0))) : W.cell? ⟨g, 1, none⟩ = some (.int .i64 f1) := (blk_cell h 1).trans rfl
theorem IsS92.set_1 {w0 W : World} {g : Nat} {f0 : Int} {f1 : Int} {f2 : Bool} {f3 : Bool} (h : IsS92 w0 W g f0 f1 f2 f3) (x : Int) : IsS92 w0 (W.setCell ⟨g, 1, none⟩ (.int .i64 x)) g f0 x f2 f3 := by
 obtain ⟨hb, hg⟩ := h
 exact ⟨by simpa using blk_set hb 1 (.int .i64 x), hg⟩
theorem cellS92_2 {W : World} {g : Nat} {f0 : Int} {f1 : Int} {f2 : Bool} {f3 : Bool} (h : W.heap[g]? = some (.cells #[.int .i64 f0, .int .i64 f1, .bool f2, .bool f3] 92 (0, 0))) : W.cell? ⟨g, 2, none⟩ = some (.bool f2) := (blk_cell h 2).trans rfl
theorem IsS92.set_2 {w0 W : World} {g : Nat} {f0 : Int} {f1 : Int} {f2 : Bool} {f3 : Bool} (h : IsS92 w0 W g f0 f1 f2 f3) (x : Bool) : IsS92 w0 (W.setCell ⟨g, 2, none⟩ (.bool x)) g f0 f1 x f3 := by
 obtain ⟨hb, hg⟩ := h
 exact ⟨by simpa using blk_set hb 2 (.bool x), hg⟩
theorem cellS92_3 {W : World} {g : Nat} {f0 : Int} {f1 : Int} {f2 : Bool} {f3 : Bool} (h : W.heap[g]? = some (.cells #[.int .i64 f0, .int .i64 f1, .bool f2, .bool f3] 92 (0, 0))) : W.cell? ⟨g, 3, none⟩ = some (.bool f3) := (blk_cell h 3).trans rfl
theorem IsS92.set_3 {w0 W : World} {g : Nat} {f0 : Int} {f1 : Int} {f2 : Bool} {f3 : Bool} (h : IsS92 w0 W g f0 f1 f2 f3) (x : Bool) : IsS92 w0 (W.setCell ⟨g, 3, none⟩ (.bool x)) g f0 f1 f2 x := by
 obtain ⟨hb, hg⟩ := h
 exact ⟨by simpa using blk_set hb 3 (.bool x), hg⟩
theorem IsS92.new (w0 W : World) (f0 : Int) (f1 : Int) (f2 : Bool) (f3 : Bool) (hB : Below w0.heap.size w0 W) : IsS92 w0 (W.alloc (.cells #[.int .i64 f0, .int .i64 f1, .bool f2, .bool f3] 92)) W.heap.size f0 f1 f2 f3 := ⟨by simpa using heap_alloc_new W _, hB.size⟩

/-! ### sys_span_atLeast: function 59 -/
def sys_span_atLeast.f (s0_0 : Int) (s0_1 : Int) (s0_2 : Bool) (s0_3 : Bool) (a1 : Int) : Option (Int × Int × Bool × Bool) := if s0_2 = true then (if a1 > s0_0 then (some (a1, s0_1, true, s0_3)) else (some (s0_0, s0_1, s0_2, s0_3))) else (some (a1, s0_1, true, s0_3))
set_option maxHeartbeats 8000000 in
set_option maxRecDepth 100000 in
theorem sys_span_atLeast.calls (g : Nat) (s0_0 : Int) (s0_1 : Int) (s0_2 : Bool) (s0_3 : Bool) (a1 : Int) (r1 : Int) (r2 : Int) (r3 : Bool) (r4 : Bool) (w0 w : World) (hI : IsS92 w0 w g s0_0 s0_1 s0_2 s0_3) (hB : Below w0.heap.size w0 w) (h : sys_span_atLeast.f s0_0 s0_1 s0_2 s0_3 a1 = some (r1, r2, r3, r4)) :
  Calls Tryd.prog 59 #[.pointer (some ⟨g, 0, none⟩), .int .i64 a1] w fun e w' => e = .returned (.tuple #[]) ∧ IsS92 w0 w' g r1 r2 r3 r4 ∧ Below w0.heap.size w0 w' ∧ KeepBut w w' g none := by
 have aa := mk0 hI
 have HK := mk0 (KeepBut.refl w g none)
 have HL := mk0 hB.size
 clear hI
 have ae := mk0 hB.size
 have HB := mk0 hB
 clear hB
 have H : (if s0_2 = true then (if a1 > s0_0 then (some (a1, s0_1, true, s0_3)) else (some (s0_0, s0_1, s0_2, s0_3))) else (some (a1, s0_1, true, s0_3))) = some (r1, r2, r3, r4) := h
 clear h
 by_cases c3 : s0_2 = true
 ·subst c3
  replace H := iT H
  by_cases c4 : a1 > s0_0
  ·rw [if_pos c4] at H
   have ac := decide_eq_true c4; clear c4; simp only [Option.some.injEq, Prod.mk.injEq] at H; obtain ⟨rfl, rfl, rfl, rfl⟩ := H; obtain ⟨HGz5, hgz5⟩ := aa.out; have af := cellS92_0 HGz5; have ag := cellS92_1 HGz5; have ah := cellS92_2 HGz5; have ai := cellS92_3 HGz5; have aj := blk_frozen HGz5 0; have ak := blk_frozen HGz5 1; have al := blk_frozen HGz5 2; have am := blk_frozen HGz5 3; clear HGz5 hgz5; go_enter Tryd.func59, Tryd.ntmps59; go_wp2; (first | go_end0 | ((try simp only [Exit.inBlock, Exit.then]); refine bodyPost_ret (results_none rfl _ _ _) rfl ?_)); exact ⟨rE, by repeat (first | (with_reducible first | exact aa.out | apply IsS92.alloc | apply IsS92.drewN | apply IsS92.drew | apply IsS92.set_0 | apply IsS92.set_1 | apply IsS92.set_2 | apply IsS92.set_3) | exact aa.out), by repeat (first | (with_reducible first | exact HB.out | apply below_alloc | apply pw_below_drewN | apply below_drew1 | refine below_set ?_ (IsS92.ge aa.out)) | exact HB.out), by repeat (first | (with_reducible first | exact HK.out | apply KeepBut.set_ | apply keep_drewN | apply keep_drew | apply keep_alloc) | exact HK.out)⟩
  ·rw [if_neg c4] at H
   have ac := decide_eq_false c4; clear c4; simp only [Option.some.injEq, Prod.mk.injEq] at H; obtain ⟨rfl, rfl, rfl, rfl⟩ := H; obtain ⟨HGz6, hgz6⟩ := aa.out; have ao := cellS92_0 HGz6; have ap := cellS92_1 HGz6; have aq := cellS92_2 HGz6; have ar := cellS92_3 HGz6; have au := blk_frozen HGz6 0; have av := blk_frozen HGz6 1; have aw := blk_frozen HGz6 2; have ax := blk_frozen HGz6 3; clear HGz6 hgz6; go_enter Tryd.func59, Tryd.ntmps59; go_wp2; (first | go_end0 | ((try simp only [Exit.inBlock, Exit.then]); refine bodyPost_ret (results_none rfl _ _ _) rfl ?_)); exact ⟨rE, by repeat (first | (with_reducible first | exact aa.out | apply IsS92.alloc | apply IsS92.drewN | apply IsS92.drew | apply IsS92.set_0 | apply IsS92.set_1 | apply IsS92.set_2 | apply IsS92.set_3) | exact aa.out), by repeat (first | (with_reducible first | exact HB.out | apply below_alloc | apply pw_below_drewN | apply below_drew1 | refine below_set ?_ (IsS92.ge aa.out)) | exact HB.out), by repeat (first | (with_reducible first | exact HK.out | apply KeepBut.set_ | apply keep_drewN | apply keep_drew | apply keep_alloc) | exact HK.out)⟩
 ·replace c3 := Bool.eq_false_iff.mpr c3
  subst c3; replace H := iF H; simp only [Option.some.injEq, Prod.mk.injEq] at H; obtain ⟨rfl, rfl, rfl, rfl⟩ := H; obtain ⟨HGz7, hgz7⟩ := aa.out; have ay := cellS92_0 HGz7; have az := cellS92_1 HGz7; have aA := cellS92_2 HGz7; have aC := cellS92_3 HGz7; have aD := blk_frozen HGz7 0; have aE := blk_frozen HGz7 1; have aG := blk_frozen HGz7 2; have aH := blk_frozen HGz7 3; clear HGz7 hgz7; go_enter Tryd.func59, Tryd.ntmps59; go_wp2; (first | go_end0 | ((try simp only [Exit.inBlock, Exit.then]); refine bodyPost_ret (results_none rfl _ _ _) rfl ?_)); exact ⟨rE, by repeat (first | (with_reducible first | exact aa.out | apply IsS92.alloc | apply IsS92.drewN | apply IsS92.drew | apply IsS92.set_0 | apply IsS92.set_1 | apply IsS92.set_2 | apply IsS92.set_3) | exact aa.out), by repeat (first | (with_reducible first | exact HB.out | apply below_alloc | apply pw_below_drewN | apply below_drew1 | refine below_set ?_ (IsS92.ge aa.out)) | exact HB.out), by repeat (first | (with_reducible first | exact HK.out | apply KeepBut.set_ | apply keep_drewN | apply keep_drew | apply keep_alloc) | exact HK.out)⟩


/-! ### sys_span_atMost: function 61 -/
def sys_span_atMost.f (s0_0 : Int) (s0_1 : Int) (s0_2 : Bool) (s0_3 : Bool) (a1 : Int) : Option (Int × Int × Bool × Bool) := if s0_3 = true then (if a1 < s0_1 then (some (s0_0, a1, s0_2, true)) else (some (s0_0, s0_1, s0_2, s0_3))) else (some (s0_0, a1, s0_2, true))
set_option maxHeartbeats 8000000 in
set_option maxRecDepth 100000 in
theorem sys_span_atMost.calls (g : Nat) (s0_0 : Int) (s0_1 : Int) (s0_2 : Bool) (s0_3 : Bool) (a1 : Int) (r1 : Int) (r2 : Int) (r3 : Bool) (r4 : Bool) (w0 w : World) (hI : IsS92 w0 w g s0_0 s0_1 s0_2 s0_3) (hB : Below w0.heap.size w0 w) (h : sys_span_atMost.f s0_0 s0_1 s0_2 s0_3 a1 = some (r1, r2, r3, r4)) :
  Calls Tryd.prog 61 #[.pointer (some ⟨g, 0, none⟩), .int .i64 a1] w fun e w' => e = .returned (.tuple #[]) ∧ IsS92 w0 w' g r1 r2 r3 r4 ∧ Below w0.heap.size w0 w' ∧ KeepBut w w' g none := by
 have aa := mk0 hI
 have HK := mk0 (KeepBut.refl w g none)
 have HL := mk0 hB.size
 clear hI
 have ae := mk0 hB.size
 have HB := mk0 hB
 clear hB
 have H : (if s0_3 = true then (if a1 < s0_1 then (some (s0_0, a1, s0_2, true)) else (some (s0_0, s0_1, s0_2, s0_3))) else (some (s0_0, a1, s0_2, true))) = some (r1, r2, r3, r4) := h
 clear h
 by_cases c3 : s0_3 = true
 ·subst c3
  replace H := iT H
  by_cases c4 : a1 < s0_1
  ·rw [if_pos c4] at H
   have ac := decide_eq_true c4; clear c4; simp only [Option.some.injEq, Prod.mk.injEq] at H; obtain ⟨rfl, rfl, rfl, rfl⟩ := H; obtain ⟨HGz5, hgz5⟩ := aa.out; have af := cellS92_0 HGz5; have ag := cellS92_1 HGz5; have ah := cellS92_2 HGz5; have ai := cellS92_3 HGz5; have aj := blk_frozen HGz5 0; have ak := blk_frozen HGz5 1; have al := blk_frozen HGz5 2; have am := blk_frozen HGz5 3; clear HGz5 hgz5; go_enter Tryd.func61, Tryd.ntmps61; go_wp2; (first | go_end0 | ((try simp only [Exit.inBlock, Exit.then]); refine bodyPost_ret (results_none rfl _ _ _) rfl ?_)); exact ⟨rE, by repeat (first | (with_reducible first | exact aa.out | apply IsS92.alloc | apply IsS92.drewN | apply IsS92.drew | apply IsS92.set_0 | apply IsS92.set_1 | apply IsS92.set_2 | apply IsS92.set_3) | exact aa.out), by repeat (first | (with_reducible first | exact HB.out | apply below_alloc | apply pw_below_drewN | apply below_drew1 | refine below_set ?_ (IsS92.ge aa.out)) | exact HB.out), by repeat (first | (with_reducible first | exact HK.out | apply KeepBut.set_ | apply keep_drewN | apply keep_drew | apply keep_alloc) | exact HK.out)⟩
  ·rw [if_neg c4] at H
   have ac := decide_eq_false c4; clear c4; simp only [Option.some.injEq, Prod.mk.injEq] at H; obtain ⟨rfl, rfl, rfl, rfl⟩ := H; obtain ⟨HGz6, hgz6⟩ := aa.out; have ao := cellS92_0 HGz6; have ap := cellS92_1 HGz6; have aq := cellS92_2 HGz6; have ar := cellS92_3 HGz6; have au := blk_frozen HGz6 0; have av := blk_frozen HGz6 1; have aw := blk_frozen HGz6 2; have ax := blk_frozen HGz6 3; clear HGz6 hgz6; go_enter Tryd.func61, Tryd.ntmps61; go_wp2; (first | go_end0 | ((try simp only [Exit.inBlock, Exit.then]); refine bodyPost_ret (results_none rfl _ _ _) rfl ?_)); exact ⟨rE, by repeat (first | (with_reducible first | exact aa.out | apply IsS92.alloc | apply IsS92.drewN | apply IsS92.drew | apply IsS92.set_0 | apply IsS92.set_1 | apply IsS92.set_2 | apply IsS92.set_3) | exact aa.out), by repeat (first | (with_reducible first | exact HB.out | apply below_alloc | apply pw_below_drewN | apply below_drew1 | refine below_set ?_ (IsS92.ge aa.out)) | exact HB.out), by repeat (first | (with_reducible first | exact HK.out | apply KeepBut.set_ | apply keep_drewN | apply keep_drew | apply keep_alloc) | exact HK.out)⟩
 ·replace c3 := Bool.eq_false_iff.mpr c3
  subst c3; replace H := iF H; simp only [Option.some.injEq, Prod.mk.injEq] at H; obtain ⟨rfl, rfl, rfl, rfl⟩ := H; obtain ⟨HGz7, hgz7⟩ := aa.out; have ay := cellS92_0 HGz7; have az := cellS92_1 HGz7; have aA := cellS92_2 HGz7; have aC := cellS92_3 HGz7; have aD := blk_frozen HGz7 0; have aE := blk_frozen HGz7 1; have aG := blk_frozen HGz7 2; have aH := blk_frozen HGz7 3; clear HGz7 hgz7; go_enter Tryd.func61, Tryd.ntmps61; go_wp2; (first | go_end0 | ((try simp only [Exit.inBlock, Exit.then]); refine bodyPost_ret (results_none rfl _ _ _) rfl ?_)); exact ⟨rE, by repeat (first | (with_reducible first | exact aa.out | apply IsS92.alloc | apply IsS92.drewN | apply IsS92.drew | apply IsS92.set_0 | apply IsS92.set_1 | apply IsS92.set_2 | apply IsS92.set_3) | exact aa.out), by repeat (first | (with_reducible first | exact HB.out | apply below_alloc | apply pw_below_drewN | apply below_drew1 | refine below_set ?_ (IsS92.ge aa.out)) | exact HB.out), by repeat (first | (with_reducible first | exact HK.out | apply KeepBut.set_ | apply keep_drewN | apply keep_drew | apply keep_alloc) | exact HK.out)⟩

/-! ### sys_span_take: function 36 -/
def sys_span_take.f (k : Nat) (s0_0 : Int) (s0_1 : Int) (s0_2 : Bool) (s0_3 : Bool) (a1 : Int) (a2 : Int) : Option (Int × Int × Bool × Bool) := if a1 > 0 then ((num_Ceil.f k (wrap64 (-a2)) a1).bind fun bt176 => (if bt176.2 = true then ((sys_span_atLeast.f s0_0 s0_1 s0_2 s0_3 bt176.1).bind fun bt178 => (some (bt178.1, bt178.2.1, bt178.2.2.1, bt178.2.2.2))) else (some (s0_0, s0_1, s0_2, s0_3)))) else ((num_Floor.f k a2 (wrap64 (-a1))).bind fun bt182 => (if bt182.2 = true then ((sys_span_atMost.f s0_0 s0_1 s0_2 s0_3 bt182.1).bind fun bt184 => (some (bt184.1, bt184.2.1, bt184.2.2.1, bt184.2.2.2))) else (some (s0_0, s0_1, s0_2, s0_3))))
theorem sys_span_take.mono : ∀ a0 a1 a2 a3 a4 a5 k, LeO (sys_span_take.f k a0 a1 a2 a3 a4 a5) (sys_span_take.f (k + 1) a0 a1 a2 a3 a4 a5) := by
 intro a0 a1 a2 a3 a4 a5 k
 have m0_ := @num_Ceil.mono; have m1_ := @num_Floor.mono; unfold sys_span_take.f; exact lO_
set_option maxHeartbeats 8000000 in
set_option maxRecDepth 100000 in
theorem sys_span_take.calls (k : Nat) (g : Nat) (s0_0 : Int) (s0_1 : Int) (s0_2 : Bool) (s0_3 : Bool) (a1 : Int) (a2 : Int) (r1 : Int) (r2 : Int) (r3 : Bool) (r4 : Bool) (w0 w : World) (hI : IsS92 w0 w g s0_0 s0_1 s0_2 s0_3) (hB : Below w0.heap.size w0 w) (h : sys_span_take.f k s0_0 s0_1 s0_2 s0_3 a1 a2 = some (r1, r2, r3, r4)) :
  Calls Tryd.prog 36 #[.pointer (some ⟨g, 0, none⟩), .int .i64 a1, .int .i64 a2] w fun e w' => e = .returned (.tuple #[]) ∧ IsS92 w0 w' g r1 r2 r3 r4 ∧ Below w0.heap.size w0 w' ∧ KeepBut w w' g none := by
 have aa := mk0 hI
 have HK := mk0 (KeepBut.refl w g none)
 have HL := mk0 hB.size
 clear hI
 have aE := mk0 hB.size
 have HB := mk0 hB
 clear hB
 have H : (if a1 > 0 then ((num_Ceil.f k (wrap64 (-a2)) a1).bind fun ai => (if ai.2 = true then ((sys_span_atLeast.f s0_0 s0_1 s0_2 s0_3 ai.1).bind fun ac => (some (ac.1, ac.2.1, ac.2.2.1, ac.2.2.2))) else (some (s0_0, s0_1, s0_2, s0_3)))) else ((num_Floor.f k a2 (wrap64 (-a1))).bind fun aj => (if aj.2 = true then ((sys_span_atMost.f s0_0 s0_1 s0_2 s0_3 aj.1).bind fun ae => (some (ae.1, ae.2.1, ae.2.2.1, ae.2.2.2))) else (some (s0_0, s0_1, s0_2, s0_3))))) = some (r1, r2, r3, r4) := h
 clear h
 by_cases c4 : a1 > 0
 ·rw [if_pos c4] at H
  have ap := decide_eq_true c4; clear c4; replace H := Option.bind_eq_some_iff.mp H; obtain ⟨⟨af, aq⟩, ak, H⟩ := H; dsimp only at H; have A5 := mk0 ak; clear ak
  by_cases c6 : aq = true
  ·subst c6
   replace H := iT H; replace H := Option.bind_eq_some_iff.mp H; obtain ⟨⟨ar, au, av, aw⟩, al, H⟩ := H; dsimp only at H; have A7 := mk0 al; clear al; simp only [Option.some.injEq, Prod.mk.injEq] at H; obtain ⟨rfl, rfl, rfl, rfl⟩ := H; go_enter Tryd.func36, Tryd.ntmps36
   go_wp2_with (first | ((with_reducible refine gate_dst (N := 16) rfl ?_); refine gsM (some 16) Tryd.func58 #[.int .i64 (wrap64 (-a2)), .int .i64 a1] ?_; (with_reducible refine (num_Ceil.calls k (wrap64 (-a2)) a1 af true _ A5.out).mono ?_); rintro e w' ⟨rfl, ⟨nd, rfl⟩⟩; refine ⟨_, rfl, ?_⟩) | ((with_reducible refine gate_dst (N := 22) rfl ?_); refine gsM (some 22) Tryd.func59 #[.pointer (some ⟨g, 0, none⟩), .int .i64 af] ?_; (with_reducible refine (sys_span_atLeast.calls g s0_0 s0_1 s0_2 s0_3 af ar au av aw w0 _ ?side1 ?side2 A7.out).mono ?_); (case side1 => repeat (first | (with_reducible first | exact aa.out | apply IsS92.alloc | apply IsS92.drewN | apply IsS92.drew | apply IsS92.set_0 | apply IsS92.set_1 | apply IsS92.set_2 | apply IsS92.set_3) | exact aa.out)); (case side2 => repeat (first | (with_reducible first | exact HB.out | apply below_alloc | apply pw_below_drewN | apply below_drew1 | refine below_set ?_ (IsS92.ge aa.out)) | exact HB.out)); rintro e w8 ⟨rfl, hi, hb, hk⟩; refine ⟨_, rfl, ?_⟩; replace HK := mk0 (KeepBut.trans (by repeat (first | (with_reducible first | exact HK.out | apply KeepBut.set_ | apply keep_drewN | apply keep_drew | apply keep_alloc) | exact HK.out)) hk (.inl rfl)); replace HB := mk0 (hb); replace aa := mk0 (hi); (try clear hb hk hi)))
   (first | go_end0 | ((try simp only [Exit.inBlock, Exit.then]); refine bodyPost_ret (results_none rfl _ _ _) rfl ?_)); exact ⟨rE, by repeat (first | (with_reducible first | exact aa.out | apply IsS92.alloc | apply IsS92.drewN | apply IsS92.drew | apply IsS92.set_0 | apply IsS92.set_1 | apply IsS92.set_2 | apply IsS92.set_3) | exact aa.out), by repeat (first | (with_reducible first | exact HB.out | apply below_alloc | apply pw_below_drewN | apply below_drew1 | refine below_set ?_ (IsS92.ge aa.out)) | exact HB.out), by repeat (first | (with_reducible first | exact HK.out | apply KeepBut.set_ | apply keep_drewN | apply keep_drew | apply keep_alloc) | exact HK.out)⟩
  ·replace c6 := Bool.eq_false_iff.mpr c6
   subst c6; replace H := iF H; simp only [Option.some.injEq, Prod.mk.injEq] at H; obtain ⟨rfl, rfl, rfl, rfl⟩ := H; go_enter Tryd.func36, Tryd.ntmps36
   go_wp2_with (first | ((with_reducible refine gate_dst (N := 16) rfl ?_); refine gsM (some 16) Tryd.func58 #[.int .i64 (wrap64 (-a2)), .int .i64 a1] ?_; (with_reducible refine (num_Ceil.calls k (wrap64 (-a2)) a1 af false _ A5.out).mono ?_); rintro e w' ⟨rfl, ⟨nd, rfl⟩⟩; refine ⟨_, rfl, ?_⟩))
   (first | go_end0 | ((try simp only [Exit.inBlock, Exit.then]); refine bodyPost_ret (results_none rfl _ _ _) rfl ?_)); exact ⟨rE, by repeat (first | (with_reducible first | exact aa.out | apply IsS92.alloc | apply IsS92.drewN | apply IsS92.drew | apply IsS92.set_0 | apply IsS92.set_1 | apply IsS92.set_2 | apply IsS92.set_3) | exact aa.out), by repeat (first | (with_reducible first | exact HB.out | apply below_alloc | apply pw_below_drewN | apply below_drew1 | refine below_set ?_ (IsS92.ge aa.out)) | exact HB.out), by repeat (first | (with_reducible first | exact HK.out | apply KeepBut.set_ | apply keep_drewN | apply keep_drew | apply keep_alloc) | exact HK.out)⟩
 ·rw [if_neg c4] at H
  have ap := decide_eq_false c4; clear c4; replace H := Option.bind_eq_some_iff.mp H; obtain ⟨⟨ag, ax⟩, am, H⟩ := H; dsimp only at H; have A9 := mk0 am; clear am
  by_cases ah : ax = true
  ·subst ah
   replace H := iT H; replace H := Option.bind_eq_some_iff.mp H; obtain ⟨⟨ay, az, aA, aC⟩, ao, H⟩ := H; dsimp only at H; have aD := mk0 ao; clear ao; simp only [Option.some.injEq, Prod.mk.injEq] at H; obtain ⟨rfl, rfl, rfl, rfl⟩ := H; go_enter Tryd.func36, Tryd.ntmps36
   go_wp2_with (first | ((with_reducible refine gate_dst (N := 27) rfl ?_); refine gsM (some 27) Tryd.func60 #[.int .i64 a2, .int .i64 (wrap64 (-a1))] ?_; (with_reducible refine (num_Floor.calls k a2 (wrap64 (-a1)) ag true _ A9.out).mono ?_); rintro e w' ⟨rfl, ⟨nd, rfl⟩⟩; refine ⟨_, rfl, ?_⟩) | ((with_reducible refine gate_dst (N := 33) rfl ?_); refine gsM (some 33) Tryd.func61 #[.pointer (some ⟨g, 0, none⟩), .int .i64 ag] ?_; (with_reducible refine (sys_span_atMost.calls g s0_0 s0_1 s0_2 s0_3 ag ay az aA aC w0 _ ?side1 ?side2 aD.out).mono ?_); (case side1 => repeat (first | (with_reducible first | exact aa.out | apply IsS92.alloc | apply IsS92.drewN | apply IsS92.drew | apply IsS92.set_0 | apply IsS92.set_1 | apply IsS92.set_2 | apply IsS92.set_3) | exact aa.out)); (case side2 => repeat (first | (with_reducible first | exact HB.out | apply below_alloc | apply pw_below_drewN | apply below_drew1 | refine below_set ?_ (IsS92.ge aa.out)) | exact HB.out)); rintro e aG ⟨rfl, hi, hb, hk⟩; refine ⟨_, rfl, ?_⟩; replace HK := mk0 (KeepBut.trans (by repeat (first | (with_reducible first | exact HK.out | apply KeepBut.set_ | apply keep_drewN | apply keep_drew | apply keep_alloc) | exact HK.out)) hk (.inl rfl)); replace HB := mk0 (hb); replace aa := mk0 (hi); (try clear hb hk hi)))
   (first | go_end0 | ((try simp only [Exit.inBlock, Exit.then]); refine bodyPost_ret (results_none rfl _ _ _) rfl ?_)); exact ⟨rE, by repeat (first | (with_reducible first | exact aa.out | apply IsS92.alloc | apply IsS92.drewN | apply IsS92.drew | apply IsS92.set_0 | apply IsS92.set_1 | apply IsS92.set_2 | apply IsS92.set_3) | exact aa.out), by repeat (first | (with_reducible first | exact HB.out | apply below_alloc | apply pw_below_drewN | apply below_drew1 | refine below_set ?_ (IsS92.ge aa.out)) | exact HB.out), by repeat (first | (with_reducible first | exact HK.out | apply KeepBut.set_ | apply keep_drewN | apply keep_drew | apply keep_alloc) | exact HK.out)⟩
  ·replace ah := Bool.eq_false_iff.mpr ah
   subst ah; replace H := iF H; simp only [Option.some.injEq, Prod.mk.injEq] at H; obtain ⟨rfl, rfl, rfl, rfl⟩ := H; go_enter Tryd.func36, Tryd.ntmps36
   go_wp2_with (first | ((with_reducible refine gate_dst (N := 27) rfl ?_); refine gsM (some 27) Tryd.func60 #[.int .i64 a2, .int .i64 (wrap64 (-a1))] ?_; (with_reducible refine (num_Floor.calls k a2 (wrap64 (-a1)) ag false _ A9.out).mono ?_); rintro e w' ⟨rfl, ⟨nd, rfl⟩⟩; refine ⟨_, rfl, ?_⟩))
   (first | go_end0 | ((try simp only [Exit.inBlock, Exit.then]); refine bodyPost_ret (results_none rfl _ _ _) rfl ?_)); exact ⟨rE, by repeat (first | (with_reducible first | exact aa.out | apply IsS92.alloc | apply IsS92.drewN | apply IsS92.drew | apply IsS92.set_0 | apply IsS92.set_1 | apply IsS92.set_2 | apply IsS92.set_3) | exact aa.out), by repeat (first | (with_reducible first | exact HB.out | apply below_alloc | apply pw_below_drewN | apply below_drew1 | refine below_set ?_ (IsS92.ge aa.out)) | exact HB.out), by repeat (first | (with_reducible first | exact HK.out | apply KeepBut.set_ | apply keep_drewN | apply keep_drew | apply keep_alloc) | exact HK.out)⟩

/-! ### sys_far: function 37 -/
def sys_far.f (a0 : Int) : Option (Bool) := if a0 > 268435456 then (some true) else (some (decide (a0 < (-268435456))))
set_option maxHeartbeats 8000000 in
set_option maxRecDepth 100000 in
theorem sys_far.calls (a0 : Int) (r : Bool) (w : World) (h : sys_far.f a0 = some r) :
  Calls Tryd.prog 37 #[.int .i64 a0] w fun e w' => e = .returned (.bool r) ∧ Drawn0 w w' := by
 have H : (if a0 > 268435456 then (some true) else (some (decide (a0 < (-268435456))))) = some r := h
 clear h
 by_cases c2 : a0 > 268435456
 ·rw [if_pos c2] at H
  have c2b0 := decide_eq_true c2; clear c2; obtain rfl := Option.some.inj H; go_enter Tryd.func37, Tryd.ntmps37; go_wp2; go_ret; exact ⟨eK, by repeat (first | exact Drawn0.refl _ | apply Drawn0.step)⟩
 ·rw [if_neg c2] at H
  have c2b0 := decide_eq_false c2; clear c2; obtain rfl := Option.some.inj H; go_enter Tryd.func37, Tryd.ntmps37; go_wp2; go_ret; exact ⟨eK, by repeat (first | exact Drawn0.refl _ | apply Drawn0.step)⟩

-- NOT PRINTED: function 63 (lin_Form_63)

-- NOT PRINTED: function 43 (lin_Form_43)

/-! ### furrowlaw15_F: function 20 -/
def furrowlaw15_F.f (a0 : Int) (l1 : List Int) : Option (List Int × Int) := some (l1, a0)
set_option maxHeartbeats 8000000 in
set_option maxRecDepth 100000 in
theorem furrowlaw15_F.calls (a0 : Int) (P1_ : Nat → Prop) (A1 : Option Addr) (c1 : Nat) (l1 : List Int) (r1 : List Int) (r2 : Int) (w : World) (hs1 : Kd.V (Kd.int .i64) 2 w w.heap.size (fun k_ => P1_ k_) (.slice A1 l1.length c1) l1) (h : furrowlaw15_F.f a0 l1 = some (r1, r2)) :
  Calls Tryd.prog 20 #[.int .i64 a0, .slice A1 l1.length c1] w fun e w' => ∃ v0_ : Value, e = .returned (.agg #[v0_, .int .i64 r2]) ∧ Kd.V (Kd.int .i64) 2 w' w.heap.size (fun k_ => (P1_ k_ ∨ w.heap.size ≤ k_)) v0_ r1 ∧ Below w.heap.size w w' := by
 have hu59 := Tryd.underlying59
 have HO1 := mk0 (show Kd.V (Kd.int .i64) 2 w w.heap.size (fun k_ => (P1_ k_ ∨ w.heap.size ≤ k_)) (.slice A1 l1.length c1) l1 from Kd.V_mono hs1 (fun k_ hk => .inl hk))
 have HB := mk0 (Below.refl w.heap.size w)
 have H : (some (l1, a0)) = some (r1, r2) := h
 clear h
 simp only [Option.some.injEq, Prod.mk.injEq] at H
 obtain ⟨rfl, rfl⟩ := H
 go_enter Tryd.func20, Tryd.ntmps20
 go_wp2_with (first | ((with_reducible refine gate_dst (N := 4) rfl ?_); refine bxE 4 #[.slice none 0 0, .int .i64 0] 59 ?_; intro gb188 hg w3 hbox hb; replace HO1 := vD HO1 gb188 hg hb; have BK188 := mk0 (hbox); have GW188 := gE (uL HB.out) hg; have GE188 := gE (uL HB.out) hg; replace HB := hbB (uL HB.out) hb; clear hb hbox hg; obtain ⟨hcz4_0, hcz4_1, hfz4_0, hfz4_1⟩ := cL2 BK188))
 refine bodyPost_ret (results_cell_row rfl _ _ gb188 59 #[.slice A1 l1.length c1, .int .i64 a0] (0, 0) _ rfl (kB) Tryd.underlying59 rfl (by kernel_rfl)) rfl ?_
 exact ⟨_, rE, uV (Kd.V_mono (Kd.V_far (p := ⟨gb188, 1, none⟩) (Kd.V_far (p := ⟨gb188, 0, none⟩) (Kd.V_mono HO1.out (fun k_ hk => (⟨hk, hk.2⟩ : _ ∧ k_ ≠ gb188))) (fun _ hk => hk.2) (.slice A1 l1.length c1)) (fun _ hk => hk.2) (.int .i64 a0)) (fun _ hk => hk.1.1)), bH⟩

/-! ### furrowref4_At: function 21 -/
def furrowref4_At.f (a0 : ByteArray) (a1 : Int) (a2 : Int) : Option ((List (S76)) × Int) := some ((([(⟨a0, a1⟩ : S76)] : List (S76))), a2)
set_option maxHeartbeats 8000000 in
set_option maxRecDepth 100000 in
theorem furrowref4_At.calls (a0 : ByteArray) (a1 : Int) (a2 : Int) (r1 : List (S76)) (r2 : Int) (w : World) (h : furrowref4_At.f a0 a1 a2 = some (r1, r2)) :
  Calls Tryd.prog 21 #[.string a0, .int .i64 a1, .int .i64 a2] w fun e w' => ∃ v0_ : Value, e = .returned (.agg #[v0_, .int .i64 r2]) ∧ Kd.R k76 76 w' w.heap.size (fun _ => True) v0_ r1 ∧ Below w.heap.size w w' := by
 have hu30 := Tryd.underlying30
 have hu76 := Tryd.underlying76
 have HB := mk0 (Below.refl w.heap.size w)
 have H : (some ((([(⟨a0, a1⟩ : S76)] : List (S76))), a2)) = some (r1, r2) := h
 clear h
 obtain ⟨ae, aa⟩ : ∃ y_ : List (S76), y_ = (([(⟨a0, a1⟩ : S76)] : List (S76))) := ⟨_, rfl⟩
 replace H : (some (ae, a2)) = some (r1, r2) := by first | (rw [aa]; with_reducible exact H) | (have H2_ := (Option.bind_some _ _).symm.trans H; rw [aa]; with_reducible exact H2_) | (have H2_ := (Option.bind_some _ _).symm.trans H; with_reducible exact H2_) | with_reducible exact H | (rw [aa]; exact H) | exact H
 have ag := mk0 aa
 clear aa
 simp only [Option.some.injEq, Prod.mk.injEq] at H
 obtain ⟨rfl, rfl⟩ := H
 go_enter Tryd.func21, Tryd.ntmps21
 go_wp2_with (first | ((with_reducible refine gate_dst (N := 6) rfl ?_); refine bxE 6 #[.slice none 0 0, .int .i64 0] 30 ?_; intro af hg w4 hbox hb; have ac := mk0 (hbox); have al := gE (uL HB.out) hg; have am := gE (uL HB.out) hg; replace HB := hbB (uL HB.out) hb; clear hb hbox hg) | ((with_reducible refine gate_dst (N := 10) rfl ?_); refine Kd.R_lit k76 _ 76 ?hg (N := 10) ?hd (xs := ([(⟨a0, a1⟩ : S76)] : List (S76))) (inner := [.string a0, .int .i64 a1]) (ok := fun _ => True) (okp := fun _ => True) ?hr ?hp (fun _ hk => hk) trivial (Below.refl _ _) (Nat.le_refl _) (by simp) ?_; (case hd => rfl); (case hg => rfl); (case hr => first | (go_simp; done) | (go_simp; rfl)); (case hp => exact (Reps.c2 (show Kd.M k76 _ _ _ (⟨a0, a1⟩ : S76) [.string a0, .int .i64 a1] from (k76_mkM _ _ _ (⟨a0, a1⟩ : S76) )) (Reps.none _ _))); intro ao w5 ho6 hb hg_ hnew_; clear hg_ hnew_; (first | rw [← ag.out] at ho6 | (simp only [Int.reduceToNat] at ho6; rw [← ag.out] at ho6)); have ah := mk0 (Kd.R_lower ho6 (below_size bH)); replace ac := bB ac hb; replace HB := hbB bH hb; clear hb ho6; obtain ⟨ai, aj, ak⟩ := Kd.R_slice ah.out; subst ak; obtain ⟨ap, aq, ar, au⟩ := cL2 ac))
 refine bodyPost_ret (results_cell_row rfl _ _ af 30 #[.slice ai ae.length aj, .int .i64 a2] (0, 0) _ rfl (kB) Tryd.underlying30 rfl (by kernel_rfl)) rfl ?_
 exact ⟨_, rE, uR (Kd.R_mono (Kd.R_far (p := ⟨af, 1, none⟩) (Kd.R_far (p := ⟨af, 0, none⟩) (Kd.R_types ah.out ac.out (by decide)) (fun _ hk => hk.2) (.slice ai ae.length aj)) (fun _ hk => hk.2) (.int .i64 a2)) (fun _ hk => trivial)), bH⟩

end Go.Proofs.YtkkpgjkjkcmcbaaDoor.X
