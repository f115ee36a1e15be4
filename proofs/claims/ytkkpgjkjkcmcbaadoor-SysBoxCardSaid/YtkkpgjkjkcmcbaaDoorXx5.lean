-- PRINTED by print.py (a twelfth state) out of the translation. Not trusted: Lean checks it.
import Derived.Test.YtkkpgjkjkcmcbaaDoorXx0
import Derived.Test.YtkkpgjkjkcmcbaaDoorXx4
namespace Go.Proofs.YtkkpgjkjkcmcbaaDoor.X
open Go.Proofs.YtkkpgjkjkcmcbaaDoor.Flt Go.Proofs.YtkkpgjkjkcmcbaaDoor.H Go.RowKit Go.Proofs.YtkkpgjkjkcmcbaaDoorW.PrintWords Go.Proofs.YtkkpgjkjkcmcbaaDoorW.PrintLast Go.Proofs.YtkkpgjkjkcmcbaaDoorW.PrintMore
attribute [local go_sem] max2_int min2_int max_two min_two max_three min_three max_four min_four   -- for this text's walks alone
set_option linter.unusedVariables false
set_option linter.unusedSimpArgs false

/-! ### sys_rows: function 31 -/
def sys_rows.l0 : Nat → Int → List (S59) → List (S59) → Int → Int → Option ((List (S59)) × Bool)
 | 0, _, _, _, _, _ => none
 | k + 1, x1, x6, x12, x13, x14 => if x14 < x13 then (if 0 ≤ x14 then (if x14 < (x12.length : Int) then ((sys_tight.f k ((rd_T59 x12 x14).f0) ((rd_T59 x12 x14).f1) x1).bind fun bt156 => (if bt156.2.2.2 = true then (if bt156.2.2.1 = true then (if x6.length < 4398046511104 then (sys_rows.l0 k x1 (x6 ++ [(⟨bt156.1, bt156.2.1⟩ : S59)]) x12 x13 (wrap64 (x14 + 1))) else (none)) else (sys_rows.l0 k x1 x6 x12 x13 (wrap64 (x14 + 1)))) else (some (([] : List (S59)), false)))) else (none)) else (none)) else (some (x6, true))
def sys_rows.f (k : Nat) (l0 : List (S59)) (a1 : Int) : Option ((List (S59)) × Bool) := sys_rows.l0 k a1 ([] : List (S59)) l0 (l0.length : Int) 0
theorem sys_rows.mono_l : ∀ k, (∀ y0 y1 y2 y3 y4, LeO (sys_rows.l0 k y0 y1 y2 y3 y4) (sys_rows.l0 (k + 1) y0 y1 y2 y3 y4))
 | 0 => fun _ _ _ _ _ r h => by simp [sys_rows.l0] at h
 | k + 1 => by
  have ih0 := sys_rows.mono_l k
  ·intro y0 y1 y2 y3 y4
   unfold sys_rows.l0
   repeat' first
   | (with_reducible exact ih0 _ _ _ _ _)
   | (with_reducible exact sys_tight.mono _ _ _ _)
   | (with_reducible exact LeO.refl _)
   | (with_reducible exact LeO.none _)
   | (with_reducible refine LeO.ite ?_ ?_)
   | (with_reducible refine LeO.bind ?_ (fun _ => ?_))
   | exact ih0 _ _ _ _ _
   | exact sys_tight.mono _ _ _ _
   | exact LeO.none _
   | refine LeO.ite ?_ ?_
   | refine LeO.bind ?_ (fun _ => ?_)
theorem sys_rows.mono : ∀ a0 a1 k, LeO (sys_rows.f k a0 a1) (sys_rows.f (k + 1) a0 a1) := by
 intro a0 a1 k
 have ih0 := sys_rows.mono_l k
 unfold sys_rows.f
 repeat' first
   | (with_reducible exact ih0 _ _ _ _ _)
   | (with_reducible exact sys_tight.mono _ _ _ _)
   | (with_reducible exact LeO.refl _)
   | (with_reducible exact LeO.none _)
   | (with_reducible refine LeO.ite ?_ ?_)
   | (with_reducible refine LeO.bind ?_ (fun _ => ?_))
   | exact ih0 _ _ _ _ _
   | exact sys_tight.mono _ _ _ _
   | exact LeO.none _
   | refine LeO.ite ?_ ?_
   | refine LeO.bind ?_ (fun _ => ?_)
set_option maxHeartbeats 8000000 in
set_option maxRecDepth 100000 in
theorem sys_rows.calls (k : Nat) (P0_ : Nat → Prop) (A0 : Option Addr) (c0 : Nat) (l0 : List (S59)) (a1 : Int) (r1 : List (S59)) (r2 : Bool) (w : World) (hs0 : Kd.V k59 59 w w.heap.size (fun k_ => P0_ k_) (.slice A0 l0.length c0) l0) (h : sys_rows.f k l0 a1 = some (r1, r2)) :
  Calls Tryd.prog 31 #[.slice A0 l0.length c0, .int .i64 a1] w fun e w' => ∃ v0_ : Value, e = .returned (.tuple #[v0_, .bool r2]) ∧ Kd.N k59 59 w' w.heap.size (fun k_ => (P0_ k_ ∨ w.heap.size ≤ k_)) v0_ r1 ∧ Below w.heap.size w w' := by
 have hu59 := Tryd.underlying59
 have HO0 := mk0 (show Kd.V k59 59 w w.heap.size (fun k_ => (P0_ k_ ∨ w.heap.size ≤ k_)) (.slice A0 l0.length c0) l0 from Kd.V_mono hs0 (fun k_ hk => .inl hk))
 have HB := mk0 (Below.refl w.heap.size w)
 have H : (sys_rows.l0 k a1 ([] : List (S59)) l0 (l0.length : Int) 0) = some (r1, r2) := h
 clear h
 have H' := mk0 H
 clear H
 go_enter Tryd.func31, Tryd.ntmps31
 go_wp2
 go_loopg [6, 14] k (fun kq v6 v14 w' => ∃ (x6_1 : List (S59)) (x14_1 : Int), v14 = .int .i64 x14_1 ∧ Aside0 (sys_rows.l0 kq a1 x6_1 l0 (l0.length : Int) x14_1 = some (r1, r2)) ∧ Aside0 (kq ≤ k) ∧ Aside0 (Kd.N k59 59 w' w.heap.size (fun k_ => (P0_ k_ ∨ w.heap.size ≤ k_)) v6 x6_1) ∧ Aside0 (Kd.V k59 59 w' w.heap.size (fun k_ => (P0_ k_ ∨ w.heap.size ≤ k_) ∧ some k_ ≠ (v6 : Value).ownBlock) (.slice A0 l0.length c0) l0) ∧ Aside0 (Below w.heap.size w w'))
 case atStart => exact ⟨(([] : List (S59))), (0), (by first | rfl | (simp; done) | (simp [*]; done) | (simp [bne_nil_, beq_nil_]; done)), H', ⟨Nat.le_refl _⟩, ⟨by first | exact Kd.S_nil _ _ _ _ _ | exact Kd.N_nil _ _ _ _ _ | exact Kd.V_nil _ _ _ _ _ | exact Kd.Q_nil _ _ _ _ _ | exact Kd.R_nil _ _ _ _ _⟩, ⟨uV (Kd.V_mono HO0.out (fun _ hk => ⟨hk, (by simp [Value.ownBlock])⟩))⟩, ⟨uL HB.out⟩⟩
 case round =>
  clear H'
  try clear p2
  obtain ⟨x6_1, x14_1, rfl, HA, HK1, HO_6, HO_12, HB⟩ := hrel
  cases gk with
  | zero => exact absurd HA.out (by simp [sys_rows.l0])
  | succ k1 =>
   have H := HA.out
   clear HA
   simp only [sys_rows.l0] at H
   by_cases c3 : x14_1 < (l0.length : Int)
   ·rw [if_pos c3] at H
    have c3b0 : decide (x14_1 < (l0.length : Int)) = true := decide_eq_true c3
    clear c3
    by_cases c4 : 0 ≤ x14_1
    ·rw [if_pos c4] at H
     have c4b0 : decide (0 ≤ x14_1) = true := decide_eq_true c4
     clear c4
     by_cases c5 : x14_1 < (l0.length : Int)
     ·rw [if_pos c5] at H
      have c5b0 : decide (x14_1 < (l0.length : Int)) = true := decide_eq_true c5
      clear c5
      replace H := Option.bind_eq_some_iff.mp H
      obtain ⟨⟨t156, t159, t160, t161⟩, A60, H⟩ := H
      dsimp only at H
      have A6 := mk0 A60
      clear A60
      by_cases c7 : t161 = true
      ·subst c7
       have H1 : (if t160 = true then (if x6_1.length < 4398046511104 then (sys_rows.l0 k1 a1 (x6_1 ++ [(⟨t156, t159⟩ : S59)]) l0 (l0.length : Int) (wrap64 (x14_1 + 1))) else (none)) else (sys_rows.l0 k1 a1 x6_1 l0 (l0.length : Int) (wrap64 (x14_1 + 1)))) = some (r1, r2) := by rw [if_pos rfl] at H; exact H
       clear H
       have H := H1
       clear H1
       by_cases c8 : t160 = true
       ·subst c8
        have H1 : (if x6_1.length < 4398046511104 then (sys_rows.l0 k1 a1 (x6_1 ++ [(⟨t156, t159⟩ : S59)]) l0 (l0.length : Int) (wrap64 (x14_1 + 1))) else (none)) = some (r1, r2) := by rw [if_pos rfl] at H; exact H
        clear H
        have H := H1
        clear H1
        by_cases c9 : x6_1.length < 4398046511104
        ·rw [if_pos c9] at H
         have LMc9 := mk0 c9
         clear c9
         obtain ⟨y163, hy163⟩ : ∃ y_ : List (S59), y_ = (x6_1 ++ [(⟨t156, t159⟩ : S59)]) := ⟨_, rfl⟩
         replace H : (sys_rows.l0 k1 a1 y163 l0 (l0.length : Int) (wrap64 (x14_1 + 1))) = some (r1, r2) := by first | (rw [hy163]; with_reducible exact H) | (have H2_ := (Option.bind_some _ _).symm.trans H; rw [hy163]; with_reducible exact H2_) | (have H2_ := (Option.bind_some _ _).symm.trans H; with_reducible exact H2_) | with_reducible exact H | (rw [hy163]; exact H) | exact H
         have Ny163 := mk0 hy163
         clear hy163
         have H' := mk0 H
         clear H
         have p154 : 0 ≤ (x14_1 : Int) := of_decide_eq_true (by first | (with_reducible assumption) | assumption)
         have q154 : x14_1 < (l0.length : Int) := of_decide_eq_true (by first | (with_reducible assumption) | assumption)
         obtain ⟨ad154, A154_0, c154_0, e154, hx154_0, hx154_1, hl154_0, hi154_0⟩ := at_T59 (Kd.V_reads' HO_12.out).2.2 x14_1 p154 q154
         cases e154
         obtain ⟨ce154, hce154, hMe154, hcc154⟩ := Kd.V_get HO_12.out z59 x14_1 p154 (by first | exact q154 | exact of_decide_eq_true (by first | (with_reducible assumption) | assumption) | (have e_ := (Kd.V_reads' HO_12.out).1; omega))
         obtain ⟨ua154_0, uc154_0, rfl, ul154_0, ge154_0⟩ := k59_openF hMe154
         have hv154_0 := hcc154 0 _ rfl
         rw [Nat.add_zero] at hv154_0
         replace hv154_0 := Option.some.inj (hv154_0.symm.trans hx154_0)
         injection hv154_0 with hva_ hvn_ hvc_
         rw [hva_] at ge154_0
         rw [hvc_] at ul154_0
         have HL154_0 := mk0 (show Kd.V (Kd.int .i64) 2 _ w.heap.size _ _ ((rd_T59 l0 x14_1).f0) from Kd.V_mk ul154_0 ge154_0)
         clear hva_ hvn_ hvc_ ge154_0 ul154_0
         clear hcc154 hce154
         have HR154_0 := mk0 hi154_0
         have HC154_0 := mk0 hl154_0
         clear hi154_0 hl154_0
         replace p154 := eq_true p154
         replace q154 := eq_true q154
         go_wp2_with (first | ((with_reducible refine gate_dst (N := 8) rfl ?_); refine bxE 8 #[.slice none 0 0, .int .i64 0] 59 ?_; intro gb155 hg w10 hbox hb; replace HO_6 := mk0 (Kd.N_below (Kd.N_elderB (uN HO_6.out) gb155 (Nat.le_of_eq hg.symm)) hb); replace HO_12 := mk0 (Kd.V_below (Kd.V_elderB (uV HO_12.out) gb155 (Nat.le_of_eq hg.symm)) hb); replace HL154_0 := mk0 (Kd.V_below (Kd.V_elderB (uV HL154_0.out) gb155 (Nat.le_of_eq hg.symm)) hb); have BK155 := mk0 (hbox); have GW155 := mk0 ((by rw [hg]; exact (below_size (uL HB.out)) : w.heap.size ≤ gb155)); have GE155 := mk0 ((by rw [hg]; exact (below_size (uL HB.out)) : w.heap.size ≤ gb155)); replace HB := hbB (uL HB.out) hb; clear hb hbox hg; obtain ⟨hcz11_0, hcz11_1, hfz11_0, hfz11_1⟩ := cL2 BK155) | ((with_reducible refine gate_store (t := 59) (p := 8) rfl ?_); refine store_event (t := 59) (p := 8) (v := ?vo_w12) (w1 := ((w10.setCell ⟨gb155, 0, none⟩ (.slice A154_0 ((rd_T59 l0 x14_1).f0).length c154_0)).setCell ⟨gb155, 1, none⟩ (.int .i64 ((rd_T59 l0 x14_1).f1)))) ?hg ?ho ?hn ?hr ?_; (case ho => rfl); (case hg => rfl); (case hn => rfl); (case hr => first | (go_simp; done) | (go_simp; rfl)); intro w12 hw; have n0_ : Aside0 (Kd.N k59 59 w12 w.heap.size (fun k_ => (P0_ k_ ∨ w.heap.size ≤ k_) ∧ k_ ≠ gb155) u6 x6_1) := ⟨(by rw [hw]; exact (uN (Kd.N_mono (Kd.N_far (p := ⟨gb155, 1, none⟩) (Kd.N_far (p := ⟨gb155, 0, none⟩) (Kd.N_mono HO_6.out (fun k_ hk => (⟨hk, hk.2⟩ : _ ∧ k_ ≠ gb155))) (fun _ hk => hk.2) (.slice A154_0 ((rd_T59 l0 x14_1).f0).length c154_0)) (fun _ hk => hk.2) (.int .i64 ((rd_T59 l0 x14_1).f1))) (fun _ hk => ⟨hk.1.1, hk.1.2⟩))))⟩; have n1_ : Aside0 (Kd.V k59 59 w12 w.heap.size (fun k_ => (P0_ k_ ∨ w.heap.size ≤ k_) ∧ some k_ ≠ (u6 : Value).ownBlock ∧ k_ ≠ gb155) (.slice (some ad154) l0.length c0) l0) := ⟨(by rw [hw]; exact (uV (Kd.V_mono (Kd.V_far (p := ⟨gb155, 1, none⟩) (Kd.V_far (p := ⟨gb155, 0, none⟩) (Kd.V_mono HO_12.out (fun k_ hk => (⟨hk, hk.2⟩ : _ ∧ k_ ≠ gb155))) (fun _ hk => hk.2) (.slice A154_0 ((rd_T59 l0 x14_1).f0).length c154_0)) (fun _ hk => hk.2) (.int .i64 ((rd_T59 l0 x14_1).f1))) (fun _ hk => ⟨hk.1.1.1, ⟨hk.1.1.2, hk.1.2⟩⟩))))⟩; have n2_ : Aside0 (Kd.V (Kd.int .i64) 2 w12 w.heap.size (fun k_ => (P0_ k_ ∨ w.heap.size ≤ k_) ∧ some k_ ≠ (u6 : Value).ownBlock ∧ k_ ≠ gb155) (.slice A154_0 ((rd_T59 l0 x14_1).f0).length c154_0) ((rd_T59 l0 x14_1).f0)) := ⟨(by rw [hw]; exact (uV (Kd.V_mono (Kd.V_far (p := ⟨gb155, 1, none⟩) (Kd.V_far (p := ⟨gb155, 0, none⟩) (Kd.V_mono HL154_0.out (fun k_ hk => (⟨hk, hk.2⟩ : _ ∧ k_ ≠ gb155))) (fun _ hk => hk.2) (.slice A154_0 ((rd_T59 l0 x14_1).f0).length c154_0)) (fun _ hk => hk.2) (.int .i64 ((rd_T59 l0 x14_1).f1))) (fun _ hk => ⟨hk.1.1.1, ⟨hk.1.1.2, hk.1.2⟩⟩))))⟩; have n3_ : Aside0 (w12.heap[gb155]? = some (.cells #[.slice A154_0 ((rd_T59 l0 x14_1).f0).length c154_0, .int .i64 ((rd_T59 l0 x14_1).f1)] 59 (0, 0))) := ⟨(by rw [hw]; exact (by (with_reducible repeat (first | refine blk_drewN ?_ _ | refine blk_drew ?_ | refine blk_alloc ?_ _)); refine blk_put (cs := #[.slice A154_0 ((rd_T59 l0 x14_1).f0).length c154_0, .int .i64 0]) ?_ 1 _ rfl; (with_reducible repeat (first | refine blk_drewN ?_ _ | refine blk_drew ?_ | refine blk_alloc ?_ _)); refine blk_put (cs := #[.slice none 0 0, .int .i64 0]) ?_ 0 _ rfl; (with_reducible repeat (first | refine blk_drewN ?_ _ | refine blk_drew ?_ | refine blk_alloc ?_ _)); exact BK155.out))⟩; have n4_ : Aside0 (Below w.heap.size w w12) := ⟨(by rw [hw]; exact bH)⟩; clear hw; clear HO_6; clear HO_12; clear HL154_0; clear BK155; clear HB; have HO_6 := n0_; have HO_12 := n1_; have HL154_0 := n2_; have BK155 := n3_; have HB := n4_; clear n0_ n1_ n2_ n3_ n4_; obtain ⟨hcz13_0, hcz13_1, hfz13_0, hfz13_1⟩ := cL2 BK155) | ((with_reducible refine gate_dst (N := 21) rfl ?_); refine gsM (some 21) Tryd.func55 #[.agg #[.slice A154_0 ((rd_T59 l0 x14_1).f0).length c154_0, .int .i64 ((rd_T59 l0 x14_1).f1)], .int .i64 a1] ?_; (with_reducible refine (sys_tight.calls k1 (fun k_ => ((P0_ k_ ∨ w.heap.size ≤ k_) ∧ (some k_ ≠ (u6 : Value).ownBlock ∧ k_ ≠ gb155))) _ _ ((rd_T59 l0 x14_1).f0) ((rd_T59 l0 x14_1).f1) a1 t156 t159 true true _ ?side1 A6.out).mono ?_); (case side1 => exact HL154_0.out); rintro e w14 ⟨v157, rfl, ho0, hb⟩; refine ⟨_, rfl, ?_⟩; replace HO_12 := vB HO_12 hb; replace HL154_0 := vB HL154_0 hb; have HO158 := mk0 (Kd.V_lower (Kd.V_mono (ok' := fun k_ => (P0_ k_ ∨ w.heap.size ≤ k_) ∧ some k_ ≠ (u6 : Value).ownBlock ∧ k_ ≠ gb155) ho0 (fun k_ hk_ => ⟨Or.elim hk_ (fun hs_ => hs_.1) (fun hn_ => (.inr (Nat.le_trans (below_size bH) hn_))), Or.elim hk_ (fun hs_ => hs_.2.1) (fun hn_ => (Kd.fresh' (Kd.N_lt (uN HO_6.out)) k_ hn_)), Or.elim hk_ (fun hs_ => hs_.2.2) (fun hn_ => (Kd.freshB (g := gb155) (o := .cells #[.slice A154_0 ((rd_T59 l0 x14_1).f0).length c154_0, .int .i64 ((rd_T59 l0 x14_1).f1)] 59 (0, 0)) (uB BK155.out) k_ hn_))⟩)) (below_size bH)); replace HO_6 := nB HO_6 hb; replace BK155 := bB BK155 hb; replace HB := hbB bH hb; (try clear hb); (try clear hb2); (try clear hk); (try clear hi); (try clear ho0)) | ((with_reducible refine gate_dst (N := 9) rfl ?_); refine bxE 9 #[.slice none 0 0, .int .i64 0] 59 ?_; intro gb162 hg w15 hbox hb; replace HO_6 := mk0 (Kd.N_below (Kd.N_elderB (uN HO_6.out) gb162 (Nat.le_of_eq hg.symm)) hb); replace HO_12 := mk0 (Kd.V_below (Kd.V_elderB (uV HO_12.out) gb162 (Nat.le_of_eq hg.symm)) hb); replace HL154_0 := mk0 (Kd.V_below (Kd.V_elderB (uV HL154_0.out) gb162 (Nat.le_of_eq hg.symm)) hb); replace HO158 := mk0 (Kd.V_below (Kd.V_elderB (uV HO158.out) gb162 (Nat.le_of_eq hg.symm)) hb); have BK162 := mk0 (hbox); have GW162 := mk0 ((by rw [hg]; exact (below_size bH) : w.heap.size ≤ gb162)); have GE162 := mk0 ((by rw [hg]; exact (below_size bH) : w.heap.size ≤ gb162)); replace HB := hbB bH hb; have NB155_162 := mk0 ((by rw [hg]; exact Nat.ne_of_lt (blk_lt (g := gb155) (o := .cells #[.slice A154_0 ((rd_T59 l0 x14_1).f0).length c154_0, .int .i64 ((rd_T59 l0 x14_1).f1)] 59 (0, 0)) (uB BK155.out)) : gb155 ≠ gb162)); have NB162_155 := mk0 ((by rw [hg]; exact Nat.ne_of_gt (blk_lt (g := gb155) (o := .cells #[.slice A154_0 ((rd_T59 l0 x14_1).f0).length c154_0, .int .i64 ((rd_T59 l0 x14_1).f1)] 59 (0, 0)) (uB BK155.out)) : gb162 ≠ gb155)); replace BK155 := bB BK155 hb; clear hb hbox hg; obtain ⟨Ao16, co16, eo16⟩ := Kd.V_slice HO158.out; subst eo16; have hnb17 := NB162_155.out; have hnc17 := NB155_162.out; obtain ⟨hcz18_0, hcz18_1, hfz18_0, hfz18_1⟩ := cL2 BK162) | ((with_reducible refine gate_store (t := 59) (p := 9) rfl ?_); refine store_event (t := 59) (p := 9) (v := ?vo_w19) (w1 := ((w15.setCell ⟨gb162, 0, none⟩ (.slice Ao16 t156.length co16)).setCell ⟨gb162, 1, none⟩ (.int .i64 t159))) ?hg ?ho ?hn ?hr ?_; (case ho => rfl); (case hg => rfl); (case hn => rfl); (case hr => first | (go_simp; done) | (go_simp; rfl)); intro w19 hw; have n0_ : Aside0 (Kd.N k59 59 w19 w.heap.size (fun k_ => (P0_ k_ ∨ w.heap.size ≤ k_) ∧ k_ ≠ gb155 ∧ k_ ≠ gb162) u6 x6_1) := ⟨(by rw [hw]; exact (uN (Kd.N_mono (Kd.N_far (p := ⟨gb162, 1, none⟩) (Kd.N_far (p := ⟨gb162, 0, none⟩) (Kd.N_mono HO_6.out (fun k_ hk => (⟨hk, hk.2⟩ : _ ∧ k_ ≠ gb162))) (fun _ hk => hk.2) (.slice Ao16 t156.length co16)) (fun _ hk => hk.2) (.int .i64 t159)) (fun _ hk => ⟨hk.1.1.1, ⟨hk.1.1.2, hk.1.2⟩⟩))))⟩; have n1_ : Aside0 (Kd.V k59 59 w19 w.heap.size (fun k_ => (P0_ k_ ∨ w.heap.size ≤ k_) ∧ some k_ ≠ (u6 : Value).ownBlock ∧ k_ ≠ gb155 ∧ k_ ≠ gb162) (.slice (some ad154) l0.length c0) l0) := ⟨(by rw [hw]; exact (uV (Kd.V_mono (Kd.V_far (p := ⟨gb162, 1, none⟩) (Kd.V_far (p := ⟨gb162, 0, none⟩) (Kd.V_mono HO_12.out (fun k_ hk => (⟨hk, hk.2⟩ : _ ∧ k_ ≠ gb162))) (fun _ hk => hk.2) (.slice Ao16 t156.length co16)) (fun _ hk => hk.2) (.int .i64 t159)) (fun _ hk => ⟨hk.1.1.1, ⟨hk.1.1.2.1, ⟨hk.1.1.2.2, hk.1.2⟩⟩⟩))))⟩; have n2_ : Aside0 (Kd.V (Kd.int .i64) 2 w19 w.heap.size (fun k_ => (P0_ k_ ∨ w.heap.size ≤ k_) ∧ some k_ ≠ (u6 : Value).ownBlock ∧ k_ ≠ gb155 ∧ k_ ≠ gb162) (.slice A154_0 ((rd_T59 l0 x14_1).f0).length c154_0) ((rd_T59 l0 x14_1).f0)) := ⟨(by rw [hw]; exact (uV (Kd.V_mono (Kd.V_far (p := ⟨gb162, 1, none⟩) (Kd.V_far (p := ⟨gb162, 0, none⟩) (Kd.V_mono HL154_0.out (fun k_ hk => (⟨hk, hk.2⟩ : _ ∧ k_ ≠ gb162))) (fun _ hk => hk.2) (.slice Ao16 t156.length co16)) (fun _ hk => hk.2) (.int .i64 t159)) (fun _ hk => ⟨hk.1.1.1, ⟨hk.1.1.2.1, ⟨hk.1.1.2.2, hk.1.2⟩⟩⟩))))⟩; have n3_ : Aside0 (Kd.V (Kd.int .i64) 2 w19 w.heap.size (fun k_ => (P0_ k_ ∨ w.heap.size ≤ k_) ∧ some k_ ≠ (u6 : Value).ownBlock ∧ k_ ≠ gb155 ∧ k_ ≠ gb162) (.slice Ao16 t156.length co16) t156) := ⟨(by rw [hw]; exact (uV (Kd.V_mono (Kd.V_far (p := ⟨gb162, 1, none⟩) (Kd.V_far (p := ⟨gb162, 0, none⟩) (Kd.V_mono HO158.out (fun k_ hk => (⟨hk, hk.2⟩ : _ ∧ k_ ≠ gb162))) (fun _ hk => hk.2) (.slice Ao16 t156.length co16)) (fun _ hk => hk.2) (.int .i64 t159)) (fun _ hk => ⟨hk.1.1.1, ⟨hk.1.1.2.1, ⟨hk.1.1.2.2, hk.1.2⟩⟩⟩))))⟩; have n4_ : Aside0 (w19.heap[gb155]? = some (.cells #[.slice A154_0 ((rd_T59 l0 x14_1).f0).length c154_0, .int .i64 ((rd_T59 l0 x14_1).f1)] 59 (0, 0))) := ⟨(by rw [hw]; exact (by (with_reducible repeat (first | refine blk_drewN ?_ _ | refine blk_drew ?_ | refine blk_alloc ?_ _)); refine blk_far ?_ NB155_162.out _; (with_reducible repeat (first | refine blk_drewN ?_ _ | refine blk_drew ?_ | refine blk_alloc ?_ _)); refine blk_far ?_ NB155_162.out _; (with_reducible repeat (first | refine blk_drewN ?_ _ | refine blk_drew ?_ | refine blk_alloc ?_ _)); exact BK155.out))⟩; have n5_ : Aside0 (w19.heap[gb162]? = some (.cells #[.slice Ao16 t156.length co16, .int .i64 t159] 59 (0, 0))) := ⟨(by rw [hw]; exact (by (with_reducible repeat (first | refine blk_drewN ?_ _ | refine blk_drew ?_ | refine blk_alloc ?_ _)); refine blk_put (cs := #[.slice Ao16 t156.length co16, .int .i64 0]) ?_ 1 _ rfl; (with_reducible repeat (first | refine blk_drewN ?_ _ | refine blk_drew ?_ | refine blk_alloc ?_ _)); refine blk_put (cs := #[.slice none 0 0, .int .i64 0]) ?_ 0 _ rfl; (with_reducible repeat (first | refine blk_drewN ?_ _ | refine blk_drew ?_ | refine blk_alloc ?_ _)); exact BK162.out))⟩; have n6_ : Aside0 (Below w.heap.size w w19) := ⟨(by rw [hw]; exact bH)⟩; clear hw; clear HO_6; clear HO_12; clear HL154_0; clear HO158; clear BK155; clear BK162; clear HB; have HO_6 := n0_; have HO_12 := n1_; have HL154_0 := n2_; have HO158 := n3_; have BK155 := n4_; have BK162 := n5_; have HB := n6_; clear n0_ n1_ n2_ n3_ n4_ n5_ n6_; obtain ⟨hcz20_0, hcz20_1, hfz20_0, hfz20_1⟩ := cL2 BK162) | ((with_reducible refine gate_builtin (b := .append) (xs := #[.tmp 28, .tmp 30]) rfl ?_); at_builtin; refine Kd.N_append k59 (w0 := w) w.heap.size rfl (.tmp 28) (.tmp 30) 22 59 (.agg #[(.slice none 0 0), (.int .i64 0)]) 32 rfl Tryd.underlying22 info59 rfl (by decide) (by omega) u6 x6_1 (⟨t156, t159⟩ : S59) [.slice Ao16 t156.length co16, .int .i64 t159] (fun k_ => (P0_ k_ ∨ w.heap.size ≤ k_) ∧ k_ ≠ gb155 ∧ k_ ≠ gb162) (fun k_ => ((fun k_ => (P0_ k_ ∨ w.heap.size ≤ k_) ∧ k_ ≠ gb155 ∧ k_ ≠ gb162)) k_ ∧ some k_ ≠ (u6 : Value).ownBlock) rfl rfl ?aP (fun _ hk => hk) ?aF ?aO ?aB ?aS ?aL ?_; (case aP => exact (k59_mkF _ _ (⟨t156, t159⟩ : S59) (Kd.V_reads' (Kd.V_mono (ok' := (fun k_ => ((fun k_ => (P0_ k_ ∨ w.heap.size ≤ k_) ∧ k_ ≠ gb155 ∧ k_ ≠ gb162)) k_ ∧ some k_ ≠ (u6 : Value).ownBlock)) (HO158.out) (fun k_ hk => ⟨⟨hk.1, ⟨hk.2.2.1, hk.2.2.2⟩⟩, hk.2.1⟩))).2.1 (Kd.V_F (Kd.V_mono (ok' := (fun k_ => ((fun k_ => (P0_ k_ ∨ w.heap.size ≤ k_) ∧ k_ ≠ gb155 ∧ k_ ≠ gb162)) k_ ∧ some k_ ≠ (u6 : Value).ownBlock)) (HO158.out) (fun k_ hk => ⟨⟨hk.1, ⟨hk.2.2.1, hk.2.2.2⟩⟩, hk.2.1⟩))))); (case aB => exact bH); (case aF => exact (fun k_ hk => ⟨(.inr (Nat.le_trans (below_size bH) hk)), Kd.freshB (g := gb155) (o := .cells #[.slice A154_0 ((rd_T59 l0 x14_1).f0).length c154_0, .int .i64 ((rd_T59 l0 x14_1).f1)] 59 (0, 0)) (uB BK155.out) k_ hk, Kd.freshB (g := gb162) (o := .cells #[.slice Ao16 t156.length co16, .int .i64 t159] 59 (0, 0)) (uB BK162.out) k_ hk⟩)); (case aO => exact (uN HO_6.out)); (case aS => exact (below_size bH)); (case aL => have := LMc9.out; omega); intro v164 w21 ho hb hg hat; rw [← Ny163.out] at ho; have n0_ := mk0 (Kd.V_afterv (ok := (fun k_ => (P0_ k_ ∨ w.heap.size ≤ k_) ∧ k_ ≠ gb155 ∧ k_ ≠ gb162)) (uV (Kd.V_mono HO_12.out (fun _ hk => ⟨⟨hk.1, ⟨hk.2.2.1, hk.2.2.2⟩⟩, hk.2.1⟩))) hg hat); have n1_ := mk0 (Kd.V_afterv (ok := (fun k_ => (P0_ k_ ∨ w.heap.size ≤ k_) ∧ k_ ≠ gb155 ∧ k_ ≠ gb162)) (uV (Kd.V_mono HL154_0.out (fun _ hk => ⟨⟨hk.1, ⟨hk.2.2.1, hk.2.2.2⟩⟩, hk.2.1⟩))) hg hat); have n2_ := mk0 (blk_grown (g := gb155) (o := .cells #[.slice A154_0 ((rd_T59 l0 x14_1).f0).length c154_0, .int .i64 ((rd_T59 l0 x14_1).f1)] 59 (0, 0)) (uB BK155.out) hg (Kd.N_away HO_6.out (fun _ hk => hk.2.1))); have n3_ := mk0 (Kd.V_afterv (ok := (fun k_ => (P0_ k_ ∨ w.heap.size ≤ k_) ∧ k_ ≠ gb155 ∧ k_ ≠ gb162)) (uV (Kd.V_mono HO158.out (fun _ hk => ⟨⟨hk.1, ⟨hk.2.2.1, hk.2.2.2⟩⟩, hk.2.1⟩))) hg hat); have n4_ := mk0 (blk_grown (g := gb162) (o := .cells #[.slice Ao16 t156.length co16, .int .i64 t159] 59 (0, 0)) (uB BK162.out) hg (Kd.N_away HO_6.out (fun _ hk => hk.2.2))); have n5_ := mk0 (hb); have n6_ := mk0 (ho); clear HO_12; clear HL154_0; clear BK155; clear HO158; clear BK162; clear HB; clear HO_6; have HO_12 := n0_; have HL154_0 := n1_; have BK155 := n2_; have HO158 := n3_; have BK162 := n4_; have HB := n5_; have HO165 := n6_; clear n0_ n1_ n2_ n3_ n4_ n5_ n6_; clear ho hb hg hat))
         go_roundg k1
         case measure => have := HK1.out; omega
         case rel => exact ⟨(y163), (wrap64 (x14_1 + 1)), (by first | rfl | (simp; done) | (simp [*]; done) | (simp [bne_nil_, beq_nil_]; done)), H', ⟨by have := HK1.out; omega⟩, ⟨uN (Kd.N_mono HO165.out (fun _ hk => hk.1))⟩, ⟨uV (Kd.V_mono HO_12.out (fun _ hk => ⟨hk.1.1, hk.2⟩))⟩, ⟨bH⟩⟩
        ·rw [if_neg c9] at H
         exact absurd H (by simp)
       ·replace c8 := Bool.eq_false_iff.mpr c8
        subst c8
        have H1 : (sys_rows.l0 k1 a1 x6_1 l0 (l0.length : Int) (wrap64 (x14_1 + 1))) = some (r1, r2) := by rw [if_neg (show ¬ (false = true) by decide)] at H; exact H
        clear H
        have H := H1
        clear H1
        have H' := mk0 H
        clear H
        have p154 : 0 ≤ (x14_1 : Int) := of_decide_eq_true (by first | (with_reducible assumption) | assumption)
        have q154 : x14_1 < (l0.length : Int) := of_decide_eq_true (by first | (with_reducible assumption) | assumption)
        obtain ⟨ad154, A154_0, c154_0, e154, hx154_0, hx154_1, hl154_0, hi154_0⟩ := at_T59 (Kd.V_reads' HO_12.out).2.2 x14_1 p154 q154
        cases e154
        obtain ⟨ce154, hce154, hMe154, hcc154⟩ := Kd.V_get HO_12.out z59 x14_1 p154 (by first | exact q154 | exact of_decide_eq_true (by first | (with_reducible assumption) | assumption) | (have e_ := (Kd.V_reads' HO_12.out).1; omega))
        obtain ⟨ua154_0, uc154_0, rfl, ul154_0, ge154_0⟩ := k59_openF hMe154
        have hv154_0 := hcc154 0 _ rfl
        rw [Nat.add_zero] at hv154_0
        replace hv154_0 := Option.some.inj (hv154_0.symm.trans hx154_0)
        injection hv154_0 with hva_ hvn_ hvc_
        rw [hva_] at ge154_0
        rw [hvc_] at ul154_0
        have HL154_0 := mk0 (show Kd.V (Kd.int .i64) 2 _ w.heap.size _ _ ((rd_T59 l0 x14_1).f0) from Kd.V_mk ul154_0 ge154_0)
        clear hva_ hvn_ hvc_ ge154_0 ul154_0
        clear hcc154 hce154
        have HR154_0 := mk0 hi154_0
        have HC154_0 := mk0 hl154_0
        clear hi154_0 hl154_0
        replace p154 := eq_true p154
        replace q154 := eq_true q154
        go_wp2_with (first | ((with_reducible refine gate_dst (N := 8) rfl ?_); refine bxE 8 #[.slice none 0 0, .int .i64 0] 59 ?_; intro gb155 hg w22 hbox hb; replace HO_6 := mk0 (Kd.N_below (Kd.N_elderB (uN HO_6.out) gb155 (Nat.le_of_eq hg.symm)) hb); replace HO_12 := mk0 (Kd.V_below (Kd.V_elderB (uV HO_12.out) gb155 (Nat.le_of_eq hg.symm)) hb); replace HL154_0 := mk0 (Kd.V_below (Kd.V_elderB (uV HL154_0.out) gb155 (Nat.le_of_eq hg.symm)) hb); have BK155 := mk0 (hbox); have GW155 := mk0 ((by rw [hg]; exact (below_size (uL HB.out)) : w.heap.size ≤ gb155)); have GE155 := mk0 ((by rw [hg]; exact (below_size (uL HB.out)) : w.heap.size ≤ gb155)); replace HB := hbB (uL HB.out) hb; clear hb hbox hg; obtain ⟨hcz23_0, hcz23_1, hfz23_0, hfz23_1⟩ := cL2 BK155) | ((with_reducible refine gate_store (t := 59) (p := 8) rfl ?_); refine store_event (t := 59) (p := 8) (v := ?vo_w24) (w1 := ((w22.setCell ⟨gb155, 0, none⟩ (.slice A154_0 ((rd_T59 l0 x14_1).f0).length c154_0)).setCell ⟨gb155, 1, none⟩ (.int .i64 ((rd_T59 l0 x14_1).f1)))) ?hg ?ho ?hn ?hr ?_; (case ho => rfl); (case hg => rfl); (case hn => rfl); (case hr => first | (go_simp; done) | (go_simp; rfl)); intro w24 hw; have n0_ : Aside0 (Kd.N k59 59 w24 w.heap.size (fun k_ => (P0_ k_ ∨ w.heap.size ≤ k_) ∧ k_ ≠ gb155) u6 x6_1) := ⟨(by rw [hw]; exact (uN (Kd.N_mono (Kd.N_far (p := ⟨gb155, 1, none⟩) (Kd.N_far (p := ⟨gb155, 0, none⟩) (Kd.N_mono HO_6.out (fun k_ hk => (⟨hk, hk.2⟩ : _ ∧ k_ ≠ gb155))) (fun _ hk => hk.2) (.slice A154_0 ((rd_T59 l0 x14_1).f0).length c154_0)) (fun _ hk => hk.2) (.int .i64 ((rd_T59 l0 x14_1).f1))) (fun _ hk => ⟨hk.1.1, hk.1.2⟩))))⟩; have n1_ : Aside0 (Kd.V k59 59 w24 w.heap.size (fun k_ => (P0_ k_ ∨ w.heap.size ≤ k_) ∧ some k_ ≠ (u6 : Value).ownBlock ∧ k_ ≠ gb155) (.slice (some ad154) l0.length c0) l0) := ⟨(by rw [hw]; exact (uV (Kd.V_mono (Kd.V_far (p := ⟨gb155, 1, none⟩) (Kd.V_far (p := ⟨gb155, 0, none⟩) (Kd.V_mono HO_12.out (fun k_ hk => (⟨hk, hk.2⟩ : _ ∧ k_ ≠ gb155))) (fun _ hk => hk.2) (.slice A154_0 ((rd_T59 l0 x14_1).f0).length c154_0)) (fun _ hk => hk.2) (.int .i64 ((rd_T59 l0 x14_1).f1))) (fun _ hk => ⟨hk.1.1.1, ⟨hk.1.1.2, hk.1.2⟩⟩))))⟩; have n2_ : Aside0 (Kd.V (Kd.int .i64) 2 w24 w.heap.size (fun k_ => (P0_ k_ ∨ w.heap.size ≤ k_) ∧ some k_ ≠ (u6 : Value).ownBlock ∧ k_ ≠ gb155) (.slice A154_0 ((rd_T59 l0 x14_1).f0).length c154_0) ((rd_T59 l0 x14_1).f0)) := ⟨(by rw [hw]; exact (uV (Kd.V_mono (Kd.V_far (p := ⟨gb155, 1, none⟩) (Kd.V_far (p := ⟨gb155, 0, none⟩) (Kd.V_mono HL154_0.out (fun k_ hk => (⟨hk, hk.2⟩ : _ ∧ k_ ≠ gb155))) (fun _ hk => hk.2) (.slice A154_0 ((rd_T59 l0 x14_1).f0).length c154_0)) (fun _ hk => hk.2) (.int .i64 ((rd_T59 l0 x14_1).f1))) (fun _ hk => ⟨hk.1.1.1, ⟨hk.1.1.2, hk.1.2⟩⟩))))⟩; have n3_ : Aside0 (w24.heap[gb155]? = some (.cells #[.slice A154_0 ((rd_T59 l0 x14_1).f0).length c154_0, .int .i64 ((rd_T59 l0 x14_1).f1)] 59 (0, 0))) := ⟨(by rw [hw]; exact (by (with_reducible repeat (first | refine blk_drewN ?_ _ | refine blk_drew ?_ | refine blk_alloc ?_ _)); refine blk_put (cs := #[.slice A154_0 ((rd_T59 l0 x14_1).f0).length c154_0, .int .i64 0]) ?_ 1 _ rfl; (with_reducible repeat (first | refine blk_drewN ?_ _ | refine blk_drew ?_ | refine blk_alloc ?_ _)); refine blk_put (cs := #[.slice none 0 0, .int .i64 0]) ?_ 0 _ rfl; (with_reducible repeat (first | refine blk_drewN ?_ _ | refine blk_drew ?_ | refine blk_alloc ?_ _)); exact BK155.out))⟩; have n4_ : Aside0 (Below w.heap.size w w24) := ⟨(by rw [hw]; exact bH)⟩; clear hw; clear HO_6; clear HO_12; clear HL154_0; clear BK155; clear HB; have HO_6 := n0_; have HO_12 := n1_; have HL154_0 := n2_; have BK155 := n3_; have HB := n4_; clear n0_ n1_ n2_ n3_ n4_; obtain ⟨hcz25_0, hcz25_1, hfz25_0, hfz25_1⟩ := cL2 BK155) | ((with_reducible refine gate_dst (N := 21) rfl ?_); refine gsM (some 21) Tryd.func55 #[.agg #[.slice A154_0 ((rd_T59 l0 x14_1).f0).length c154_0, .int .i64 ((rd_T59 l0 x14_1).f1)], .int .i64 a1] ?_; (with_reducible refine (sys_tight.calls k1 (fun k_ => ((P0_ k_ ∨ w.heap.size ≤ k_) ∧ (some k_ ≠ (u6 : Value).ownBlock ∧ k_ ≠ gb155))) _ _ ((rd_T59 l0 x14_1).f0) ((rd_T59 l0 x14_1).f1) a1 t156 t159 false true _ ?side1 A6.out).mono ?_); (case side1 => exact HL154_0.out); rintro e w26 ⟨v157, rfl, ho0, hb⟩; refine ⟨_, rfl, ?_⟩; replace HO_12 := vB HO_12 hb; replace HL154_0 := vB HL154_0 hb; have HO158 := mk0 (Kd.V_lower (Kd.V_mono (ok' := fun k_ => (P0_ k_ ∨ w.heap.size ≤ k_) ∧ some k_ ≠ (u6 : Value).ownBlock ∧ k_ ≠ gb155) ho0 (fun k_ hk_ => ⟨Or.elim hk_ (fun hs_ => hs_.1) (fun hn_ => (.inr (Nat.le_trans (below_size bH) hn_))), Or.elim hk_ (fun hs_ => hs_.2.1) (fun hn_ => (Kd.fresh' (Kd.N_lt (uN HO_6.out)) k_ hn_)), Or.elim hk_ (fun hs_ => hs_.2.2) (fun hn_ => (Kd.freshB (g := gb155) (o := .cells #[.slice A154_0 ((rd_T59 l0 x14_1).f0).length c154_0, .int .i64 ((rd_T59 l0 x14_1).f1)] 59 (0, 0)) (uB BK155.out) k_ hn_))⟩)) (below_size bH)); replace HO_6 := nB HO_6 hb; replace BK155 := bB BK155 hb; replace HB := hbB bH hb; (try clear hb); (try clear hb2); (try clear hk); (try clear hi); (try clear ho0)) | ((with_reducible refine gate_dst (N := 9) rfl ?_); refine bxE 9 #[.slice none 0 0, .int .i64 0] 59 ?_; intro gb162 hg w27 hbox hb; replace HO_6 := mk0 (Kd.N_below (Kd.N_elderB (uN HO_6.out) gb162 (Nat.le_of_eq hg.symm)) hb); replace HO_12 := mk0 (Kd.V_below (Kd.V_elderB (uV HO_12.out) gb162 (Nat.le_of_eq hg.symm)) hb); replace HL154_0 := mk0 (Kd.V_below (Kd.V_elderB (uV HL154_0.out) gb162 (Nat.le_of_eq hg.symm)) hb); replace HO158 := mk0 (Kd.V_below (Kd.V_elderB (uV HO158.out) gb162 (Nat.le_of_eq hg.symm)) hb); have BK162 := mk0 (hbox); have GW162 := mk0 ((by rw [hg]; exact (below_size bH) : w.heap.size ≤ gb162)); have GE162 := mk0 ((by rw [hg]; exact (below_size bH) : w.heap.size ≤ gb162)); replace HB := hbB bH hb; have NB155_162 := mk0 ((by rw [hg]; exact Nat.ne_of_lt (blk_lt (g := gb155) (o := .cells #[.slice A154_0 ((rd_T59 l0 x14_1).f0).length c154_0, .int .i64 ((rd_T59 l0 x14_1).f1)] 59 (0, 0)) (uB BK155.out)) : gb155 ≠ gb162)); have NB162_155 := mk0 ((by rw [hg]; exact Nat.ne_of_gt (blk_lt (g := gb155) (o := .cells #[.slice A154_0 ((rd_T59 l0 x14_1).f0).length c154_0, .int .i64 ((rd_T59 l0 x14_1).f1)] 59 (0, 0)) (uB BK155.out)) : gb162 ≠ gb155)); replace BK155 := bB BK155 hb; clear hb hbox hg; obtain ⟨Ao28, co28, eo28⟩ := Kd.V_slice HO158.out; subst eo28; have hnb29 := NB162_155.out; have hnc29 := NB155_162.out; obtain ⟨hcz30_0, hcz30_1, hfz30_0, hfz30_1⟩ := cL2 BK162))
        go_roundg k1
        case measure => have := HK1.out; omega
        case rel => exact ⟨(x6_1), (wrap64 (x14_1 + 1)), (by first | rfl | (simp; done) | (simp [*]; done) | (simp [bne_nil_, beq_nil_]; done)), H', ⟨by have := HK1.out; omega⟩, ⟨uN (Kd.N_mono (Kd.N_far (p := ⟨gb162, 1, none⟩) (Kd.N_far (p := ⟨gb162, 0, none⟩) (Kd.N_mono HO_6.out (fun k_ hk => (⟨hk, hk.2⟩ : _ ∧ k_ ≠ gb162))) (fun _ hk => hk.2) (.slice Ao28 t156.length co28)) (fun _ hk => hk.2) (.int .i64 t159)) (fun _ hk => hk.1.1.1))⟩, ⟨uV (Kd.V_mono (Kd.V_far (p := ⟨gb162, 1, none⟩) (Kd.V_far (p := ⟨gb162, 0, none⟩) (Kd.V_mono HO_12.out (fun k_ hk => (⟨hk, hk.2⟩ : _ ∧ k_ ≠ gb162))) (fun _ hk => hk.2) (.slice Ao28 t156.length co28)) (fun _ hk => hk.2) (.int .i64 t159)) (fun _ hk => ⟨hk.1.1.1, hk.1.1.2.1⟩))⟩, ⟨bH⟩⟩
      ·replace c7 := Bool.eq_false_iff.mpr c7
       subst c7
       have H1 : (some (([] : List (S59)), false)) = some (r1, r2) := by rw [if_neg (show ¬ (false = true) by decide)] at H; exact H
       clear H
       have H := H1
       clear H1
       simp only [Option.some.injEq, Prod.mk.injEq] at H
       obtain ⟨rfl, rfl⟩ := H
       have p154 : 0 ≤ (x14_1 : Int) := of_decide_eq_true (by first | (with_reducible assumption) | assumption)
       have q154 : x14_1 < (l0.length : Int) := of_decide_eq_true (by first | (with_reducible assumption) | assumption)
       obtain ⟨ad154, A154_0, c154_0, e154, hx154_0, hx154_1, hl154_0, hi154_0⟩ := at_T59 (Kd.V_reads' HO_12.out).2.2 x14_1 p154 q154
       cases e154
       obtain ⟨ce154, hce154, hMe154, hcc154⟩ := Kd.V_get HO_12.out z59 x14_1 p154 (by first | exact q154 | exact of_decide_eq_true (by first | (with_reducible assumption) | assumption) | (have e_ := (Kd.V_reads' HO_12.out).1; omega))
       obtain ⟨ua154_0, uc154_0, rfl, ul154_0, ge154_0⟩ := k59_openF hMe154
       have hv154_0 := hcc154 0 _ rfl
       rw [Nat.add_zero] at hv154_0
       replace hv154_0 := Option.some.inj (hv154_0.symm.trans hx154_0)
       injection hv154_0 with hva_ hvn_ hvc_
       rw [hva_] at ge154_0
       rw [hvc_] at ul154_0
       have HL154_0 := mk0 (show Kd.V (Kd.int .i64) 2 _ w.heap.size _ _ ((rd_T59 l0 x14_1).f0) from Kd.V_mk ul154_0 ge154_0)
       clear hva_ hvn_ hvc_ ge154_0 ul154_0
       clear hcc154 hce154
       have HR154_0 := mk0 hi154_0
       have HC154_0 := mk0 hl154_0
       clear hi154_0 hl154_0
       replace p154 := eq_true p154
       replace q154 := eq_true q154
       go_wp2_with (first | ((with_reducible refine gate_dst (N := 8) rfl ?_); refine bxE 8 #[.slice none 0 0, .int .i64 0] 59 ?_; intro gb155 hg w31 hbox hb; replace HO_6 := mk0 (Kd.N_below (Kd.N_elderB (uN HO_6.out) gb155 (Nat.le_of_eq hg.symm)) hb); replace HO_12 := mk0 (Kd.V_below (Kd.V_elderB (uV HO_12.out) gb155 (Nat.le_of_eq hg.symm)) hb); replace HL154_0 := mk0 (Kd.V_below (Kd.V_elderB (uV HL154_0.out) gb155 (Nat.le_of_eq hg.symm)) hb); have BK155 := mk0 (hbox); have GW155 := mk0 ((by rw [hg]; exact (below_size (uL HB.out)) : w.heap.size ≤ gb155)); have GE155 := mk0 ((by rw [hg]; exact (below_size (uL HB.out)) : w.heap.size ≤ gb155)); replace HB := hbB (uL HB.out) hb; clear hb hbox hg; obtain ⟨hcz32_0, hcz32_1, hfz32_0, hfz32_1⟩ := cL2 BK155) | ((with_reducible refine gate_store (t := 59) (p := 8) rfl ?_); refine store_event (t := 59) (p := 8) (v := ?vo_w33) (w1 := ((w31.setCell ⟨gb155, 0, none⟩ (.slice A154_0 ((rd_T59 l0 x14_1).f0).length c154_0)).setCell ⟨gb155, 1, none⟩ (.int .i64 ((rd_T59 l0 x14_1).f1)))) ?hg ?ho ?hn ?hr ?_; (case ho => rfl); (case hg => rfl); (case hn => rfl); (case hr => first | (go_simp; done) | (go_simp; rfl)); intro w33 hw; have n0_ : Aside0 (Kd.N k59 59 w33 w.heap.size (fun k_ => (P0_ k_ ∨ w.heap.size ≤ k_) ∧ k_ ≠ gb155) u6 x6_1) := ⟨(by rw [hw]; exact (uN (Kd.N_mono (Kd.N_far (p := ⟨gb155, 1, none⟩) (Kd.N_far (p := ⟨gb155, 0, none⟩) (Kd.N_mono HO_6.out (fun k_ hk => (⟨hk, hk.2⟩ : _ ∧ k_ ≠ gb155))) (fun _ hk => hk.2) (.slice A154_0 ((rd_T59 l0 x14_1).f0).length c154_0)) (fun _ hk => hk.2) (.int .i64 ((rd_T59 l0 x14_1).f1))) (fun _ hk => ⟨hk.1.1, hk.1.2⟩))))⟩; have n1_ : Aside0 (Kd.V k59 59 w33 w.heap.size (fun k_ => (P0_ k_ ∨ w.heap.size ≤ k_) ∧ some k_ ≠ (u6 : Value).ownBlock ∧ k_ ≠ gb155) (.slice (some ad154) l0.length c0) l0) := ⟨(by rw [hw]; exact (uV (Kd.V_mono (Kd.V_far (p := ⟨gb155, 1, none⟩) (Kd.V_far (p := ⟨gb155, 0, none⟩) (Kd.V_mono HO_12.out (fun k_ hk => (⟨hk, hk.2⟩ : _ ∧ k_ ≠ gb155))) (fun _ hk => hk.2) (.slice A154_0 ((rd_T59 l0 x14_1).f0).length c154_0)) (fun _ hk => hk.2) (.int .i64 ((rd_T59 l0 x14_1).f1))) (fun _ hk => ⟨hk.1.1.1, ⟨hk.1.1.2, hk.1.2⟩⟩))))⟩; have n2_ : Aside0 (Kd.V (Kd.int .i64) 2 w33 w.heap.size (fun k_ => (P0_ k_ ∨ w.heap.size ≤ k_) ∧ some k_ ≠ (u6 : Value).ownBlock ∧ k_ ≠ gb155) (.slice A154_0 ((rd_T59 l0 x14_1).f0).length c154_0) ((rd_T59 l0 x14_1).f0)) := ⟨(by rw [hw]; exact (uV (Kd.V_mono (Kd.V_far (p := ⟨gb155, 1, none⟩) (Kd.V_far (p := ⟨gb155, 0, none⟩) (Kd.V_mono HL154_0.out (fun k_ hk => (⟨hk, hk.2⟩ : _ ∧ k_ ≠ gb155))) (fun _ hk => hk.2) (.slice A154_0 ((rd_T59 l0 x14_1).f0).length c154_0)) (fun _ hk => hk.2) (.int .i64 ((rd_T59 l0 x14_1).f1))) (fun _ hk => ⟨hk.1.1.1, ⟨hk.1.1.2, hk.1.2⟩⟩))))⟩; have n3_ : Aside0 (w33.heap[gb155]? = some (.cells #[.slice A154_0 ((rd_T59 l0 x14_1).f0).length c154_0, .int .i64 ((rd_T59 l0 x14_1).f1)] 59 (0, 0))) := ⟨(by rw [hw]; exact (by (with_reducible repeat (first | refine blk_drewN ?_ _ | refine blk_drew ?_ | refine blk_alloc ?_ _)); refine blk_put (cs := #[.slice A154_0 ((rd_T59 l0 x14_1).f0).length c154_0, .int .i64 0]) ?_ 1 _ rfl; (with_reducible repeat (first | refine blk_drewN ?_ _ | refine blk_drew ?_ | refine blk_alloc ?_ _)); refine blk_put (cs := #[.slice none 0 0, .int .i64 0]) ?_ 0 _ rfl; (with_reducible repeat (first | refine blk_drewN ?_ _ | refine blk_drew ?_ | refine blk_alloc ?_ _)); exact BK155.out))⟩; have n4_ : Aside0 (Below w.heap.size w w33) := ⟨(by rw [hw]; exact bH)⟩; clear hw; clear HO_6; clear HO_12; clear HL154_0; clear BK155; clear HB; have HO_6 := n0_; have HO_12 := n1_; have HL154_0 := n2_; have BK155 := n3_; have HB := n4_; clear n0_ n1_ n2_ n3_ n4_; obtain ⟨hcz34_0, hcz34_1, hfz34_0, hfz34_1⟩ := cL2 BK155; clear HO_6; have n_ := mk0 (Kd.V_mono (ok' := (fun k_ => (P0_ k_ ∨ w.heap.size ≤ k_) ∧ k_ ≠ gb155)) HL154_0.out (fun k_ hk => ⟨hk.1, hk.2.2⟩)); clear HL154_0; have HL154_0 := n_; clear n_) | ((with_reducible refine gate_dst (N := 21) rfl ?_); refine gsM (some 21) Tryd.func55 #[.agg #[.slice A154_0 ((rd_T59 l0 x14_1).f0).length c154_0, .int .i64 ((rd_T59 l0 x14_1).f1)], .int .i64 a1] ?_; (with_reducible refine (sys_tight.calls k1 (fun k_ => ((P0_ k_ ∨ w.heap.size ≤ k_) ∧ k_ ≠ gb155)) _ _ ((rd_T59 l0 x14_1).f0) ((rd_T59 l0 x14_1).f1) a1 t156 t159 t160 false _ ?side1 A6.out).mono ?_); (case side1 => exact HL154_0.out); rintro e w35 ⟨v157, rfl, ho0, hb⟩; refine ⟨_, rfl, ?_⟩; replace HO_12 := vB HO_12 hb; replace HL154_0 := vB HL154_0 hb; have HO158 := mk0 (Kd.V_lower (Kd.V_mono (ok' := fun k_ => (P0_ k_ ∨ w.heap.size ≤ k_) ∧ k_ ≠ gb155) ho0 (fun k_ hk_ => ⟨Or.elim hk_ (fun hs_ => hs_.1) (fun hn_ => (.inr (Nat.le_trans (below_size bH) hn_))), Or.elim hk_ (fun hs_ => hs_.2) (fun hn_ => (Kd.freshB (g := gb155) (o := .cells #[.slice A154_0 ((rd_T59 l0 x14_1).f0).length c154_0, .int .i64 ((rd_T59 l0 x14_1).f1)] 59 (0, 0)) (uB BK155.out) k_ hn_))⟩)) (below_size bH)); replace BK155 := bB BK155 hb; replace HB := hbB bH hb; (try clear hb); (try clear hb2); (try clear hk); (try clear hi); (try clear ho0)) | ((with_reducible refine gate_dst (N := 9) rfl ?_); refine bxE 9 #[.slice none 0 0, .int .i64 0] 59 ?_; intro gb162 hg w36 hbox hb; replace HO_12 := mk0 (Kd.V_below (Kd.V_elderB (uV HO_12.out) gb162 (Nat.le_of_eq hg.symm)) hb); replace HL154_0 := mk0 (Kd.V_below (Kd.V_elderB (uV HL154_0.out) gb162 (Nat.le_of_eq hg.symm)) hb); replace HO158 := mk0 (Kd.V_below (Kd.V_elderB (uV HO158.out) gb162 (Nat.le_of_eq hg.symm)) hb); have BK162 := mk0 (hbox); have GW162 := mk0 ((by rw [hg]; exact (below_size bH) : w.heap.size ≤ gb162)); have GE162 := mk0 ((by rw [hg]; exact (below_size bH) : w.heap.size ≤ gb162)); replace HB := hbB bH hb; have NB155_162 := mk0 ((by rw [hg]; exact Nat.ne_of_lt (blk_lt (g := gb155) (o := .cells #[.slice A154_0 ((rd_T59 l0 x14_1).f0).length c154_0, .int .i64 ((rd_T59 l0 x14_1).f1)] 59 (0, 0)) (uB BK155.out)) : gb155 ≠ gb162)); have NB162_155 := mk0 ((by rw [hg]; exact Nat.ne_of_gt (blk_lt (g := gb155) (o := .cells #[.slice A154_0 ((rd_T59 l0 x14_1).f0).length c154_0, .int .i64 ((rd_T59 l0 x14_1).f1)] 59 (0, 0)) (uB BK155.out)) : gb162 ≠ gb155)); replace BK155 := bB BK155 hb; clear hb hbox hg; obtain ⟨Ao37, co37, eo37⟩ := Kd.V_slice HO158.out; subst eo37; have hnb38 := NB162_155.out; have hnc38 := NB155_162.out; obtain ⟨hcz39_0, hcz39_1, hfz39_0, hfz39_1⟩ := cL2 BK162))
       go_ret2
       exact ⟨_, rE, by first | exact Kd.S_nil _ _ _ _ _ | exact Kd.N_nil _ _ _ _ _ | exact Kd.V_nil _ _ _ _ _ | exact Kd.Q_nil _ _ _ _ _ | exact Kd.R_nil _ _ _ _ _, bH⟩
     ·rw [if_neg c5] at H
      exact absurd H (by simp)
    ·rw [if_neg c4] at H
     exact absurd H (by simp)
   ·rw [if_neg c3] at H
    have c3b0 : decide (x14_1 < (l0.length : Int)) = false := decide_eq_false c3
    clear c3
    simp only [Option.some.injEq, Prod.mk.injEq] at H
    obtain ⟨rfl, rfl⟩ := H
    go_wp2
    go_ret2
    exact ⟨_, rE, uN HO_6.out, uL HB.out⟩

/-! ### sys_Tight: function 12 -/
def sys_Tight.f (k : Nat) (a0_0 : Int) (l0_1 : List (S59)) (l0_2 : List (S59)) : Option (Int × (List (S59)) × (List (S59)) × Bool) := (sys_rows.f k l0_1 0).bind fun bt168 => ((sys_rows.f k l0_2 1).bind fun bt172 => (if bt168.2 = true then (if bt172.2 = true then (some (a0_0, bt168.1, bt172.1, true)) else (some (0, ([] : List (S59)), ([] : List (S59)), false))) else (some (0, ([] : List (S59)), ([] : List (S59)), false))))
theorem sys_Tight.mono : ∀ a0 a1 a2 k, LeO (sys_Tight.f k a0 a1 a2) (sys_Tight.f (k + 1) a0 a1 a2) := by
 intro a0 a1 a2 k
 unfold sys_Tight.f
 repeat' first
   | (with_reducible exact sys_rows.mono _ _ _)
   | (with_reducible exact LeO.refl _)
   | (with_reducible exact LeO.none _)
   | (with_reducible refine LeO.ite ?_ ?_)
   | (with_reducible refine LeO.bind ?_ (fun _ => ?_))
   | exact sys_rows.mono _ _ _
   | exact LeO.none _
   | refine LeO.ite ?_ ?_
   | refine LeO.bind ?_ (fun _ => ?_)
set_option maxHeartbeats 8000000 in
set_option maxRecDepth 100000 in
theorem sys_Tight.calls (k : Nat) (a0_0 : Int) (P0_1_ : Nat → Prop) (A0_1 : Option Addr) (c0_1 : Nat) (l0_1 : List (S59)) (P0_2_ : Nat → Prop) (A0_2 : Option Addr) (c0_2 : Nat) (l0_2 : List (S59)) (r1 : Int) (r2 : List (S59)) (r3 : List (S59)) (r4 : Bool) (w : World) (hs0_1 : Kd.V k59 59 w w.heap.size (fun k_ => P0_1_ k_) (.slice A0_1 l0_1.length c0_1) l0_1) (hs0_2 : Kd.V k59 59 w w.heap.size (fun k_ => P0_2_ k_) (.slice A0_2 l0_2.length c0_2) l0_2) (h : sys_Tight.f k a0_0 l0_1 l0_2 = some (r1, r2, r3, r4)) :
  Calls Tryd.prog 12 #[.agg #[.int .i64 a0_0, .slice A0_1 l0_1.length c0_1, .slice A0_2 l0_2.length c0_2]] w fun e w' => ∃ v1_ v2_ : Value, e = .returned (.tuple #[.agg #[.int .i64 r1, v1_, v2_], .bool r4]) ∧ Kd.N k59 59 w' w.heap.size (fun k_ => ((P0_1_ k_ ∨ P0_2_ k_) ∨ w.heap.size ≤ k_) ∧ some k_ ≠ (v2_ : Value).ownBlock) v1_ r2 ∧ Kd.N k59 59 w' w.heap.size (fun k_ => ((P0_1_ k_ ∨ P0_2_ k_) ∨ w.heap.size ≤ k_) ∧ some k_ ≠ (v1_ : Value).ownBlock) v2_ r3 ∧ Below w.heap.size w w' := by
 have hu24 := Tryd.underlying24
 have HO0_1 := mk0 (show Kd.V k59 59 w w.heap.size (fun k_ => ((P0_1_ k_ ∨ P0_2_ k_) ∨ w.heap.size ≤ k_)) (.slice A0_1 l0_1.length c0_1) l0_1 from Kd.V_mono hs0_1 (fun k_ hk => .inl (.inl hk)))
 have HO0_2 := mk0 (show Kd.V k59 59 w w.heap.size (fun k_ => ((P0_1_ k_ ∨ P0_2_ k_) ∨ w.heap.size ≤ k_)) (.slice A0_2 l0_2.length c0_2) l0_2 from Kd.V_mono hs0_2 (fun k_ hk => .inl (.inr hk)))
 have HB := mk0 (Below.refl w.heap.size w)
 have H : ((sys_rows.f k l0_1 0).bind fun bt168 => ((sys_rows.f k l0_2 1).bind fun bt172 => (if bt168.2 = true then (if bt172.2 = true then (some (a0_0, bt168.1, bt172.1, true)) else (some (0, ([] : List (S59)), ([] : List (S59)), false))) else (some (0, ([] : List (S59)), ([] : List (S59)), false))))) = some (r1, r2, r3, r4) := h
 clear h
 replace H := Option.bind_eq_some_iff.mp H
 obtain ⟨⟨t168, t171⟩, A20, H⟩ := H
 dsimp only at H
 have A2 := mk0 A20
 clear A20
 replace H := Option.bind_eq_some_iff.mp H
 obtain ⟨⟨t172, t175⟩, A30, H⟩ := H
 dsimp only at H
 have A3 := mk0 A30
 clear A30
 by_cases c4 : t171 = true
 ·subst c4
  have H1 : (if t175 = true then (some (a0_0, t168, t172, true)) else (some (0, ([] : List (S59)), ([] : List (S59)), false))) = some (r1, r2, r3, r4) := by rw [if_pos rfl] at H; exact H
  clear H
  have H := H1
  clear H1
  by_cases c5 : t175 = true
  ·subst c5
   have H1 : (some (a0_0, t168, t172, true)) = some (r1, r2, r3, r4) := by rw [if_pos rfl] at H; exact H
   clear H
   have H := H1
   clear H1
   simp only [Option.some.injEq, Prod.mk.injEq] at H
   obtain ⟨rfl, rfl, rfl, rfl⟩ := H
   go_enter Tryd.func12, Tryd.ntmps12
   go_wp2_with (first | ((with_reducible refine gate_dst (N := 1) rfl ?_); refine bxE 1 #[.int .i64 a0_0, .slice A0_1 l0_1.length c0_1, .slice A0_2 l0_2.length c0_2] 24 ?_; intro gb166 hg w6 hbox hb; replace HO0_1 := mk0 (Kd.V_below (Kd.V_elderB (uV HO0_1.out) gb166 (Nat.le_of_eq hg.symm)) hb); replace HO0_2 := mk0 (Kd.V_below (Kd.V_elderB (uV HO0_2.out) gb166 (Nat.le_of_eq hg.symm)) hb); have BK166 := mk0 (hbox); have GW166 := mk0 ((by rw [hg]; exact (below_size (uL HB.out)) : w.heap.size ≤ gb166)); have GE166 := mk0 ((by rw [hg]; exact (below_size (uL HB.out)) : w.heap.size ≤ gb166)); replace HB := hbB (uL HB.out) hb; clear hb hbox hg) | ((with_reducible refine gate_dst (N := 2) rfl ?_); refine bxE 2 #[.int .i64 0, .slice none 0 0, .slice none 0 0] 24 ?_; intro gb167 hg w7 hbox hb; replace HO0_1 := mk0 (Kd.V_below (Kd.V_elderB (uV HO0_1.out) gb167 (Nat.le_of_eq hg.symm)) hb); replace HO0_2 := mk0 (Kd.V_below (Kd.V_elderB (uV HO0_2.out) gb167 (Nat.le_of_eq hg.symm)) hb); have BK167 := mk0 (hbox); have GW167 := mk0 ((by rw [hg]; exact (below_size bH) : w.heap.size ≤ gb167)); have GE167 := mk0 ((by rw [hg]; exact (below_size bH) : w.heap.size ≤ gb167)); replace HB := hbB bH hb; have NB166_167 := mk0 ((by rw [hg]; exact Nat.ne_of_lt (blk_lt (g := gb166) (o := .cells #[.int .i64 a0_0, .slice A0_1 l0_1.length c0_1, .slice A0_2 l0_2.length c0_2] 24 (0, 0)) (uB BK166.out)) : gb166 ≠ gb167)); have NB167_166 := mk0 ((by rw [hg]; exact Nat.ne_of_gt (blk_lt (g := gb166) (o := .cells #[.int .i64 a0_0, .slice A0_1 l0_1.length c0_1, .slice A0_2 l0_2.length c0_2] 24 (0, 0)) (uB BK166.out)) : gb167 ≠ gb166)); replace BK166 := bB BK166 hb; clear hb hbox hg; have hnb8 := NB166_167.out; have hnc8 := NB167_166.out; obtain ⟨hcz9_0, hcz9_1, hcz9_2, hfz9_0, hfz9_1, hfz9_2⟩ := cL3 BK166) | ((with_reducible refine gate_dst (N := 11) rfl ?_); refine gsM (some 11) Tryd.func31 #[.slice A0_1 l0_1.length c0_1, .int .i64 0] ?_; (with_reducible refine (sys_rows.calls k (fun k_ => ((((P0_1_ k_ ∨ P0_2_ k_) ∨ w.heap.size ≤ k_) ∧ k_ ≠ gb166) ∧ k_ ≠ gb167)) _ _ l0_1 0 t168 true _ ?side1 A2.out).mono ?_); (case side1 => exact HO0_1.out); rintro e w10 ⟨v169, rfl, ho0, hb⟩; refine ⟨_, rfl, ?_⟩; replace HO0_1 := mk0 (Kd.V_elder' (uV HO0_1.out) (Kd.N_base ho0) hb); replace HO0_2 := mk0 (Kd.V_elder' (uV HO0_2.out) (Kd.N_base ho0) hb); have HO170 := mk0 (Kd.N_lower (Kd.N_mono (ok' := fun k_ => ((P0_1_ k_ ∨ P0_2_ k_) ∨ w.heap.size ≤ k_) ∧ k_ ≠ gb166 ∧ k_ ≠ gb167) ho0 (fun k_ hk_ => ⟨Or.elim hk_ (fun hs_ => hs_.1.1) (fun hn_ => (.inr (Nat.le_trans (below_size bH) hn_))), Or.elim hk_ (fun hs_ => hs_.1.2) (fun hn_ => (Kd.freshB (g := gb166) (o := .cells #[.int .i64 a0_0, .slice A0_1 l0_1.length c0_1, .slice A0_2 l0_2.length c0_2] 24 (0, 0)) (uB BK166.out) k_ hn_)), Or.elim hk_ (fun hs_ => hs_.2) (fun hn_ => (Kd.freshB (g := gb167) (o := .cells #[.int .i64 0, .slice none 0 0, .slice none 0 0] 24 (0, 0)) (uB BK167.out) k_ hn_))⟩)) (below_size bH)); replace BK166 := bB BK166 hb; replace BK167 := bB BK167 hb; replace HB := hbB bH hb; (try clear hb); (try clear hb2); (try clear hk); (try clear hi); (try clear ho0); obtain ⟨hcz11_0, hcz11_1, hcz11_2, hfz11_0, hfz11_1, hfz11_2⟩ := cL3 BK166) | ((with_reducible refine gate_dst (N := 17) rfl ?_); refine gsM (some 17) Tryd.func31 #[.slice A0_2 l0_2.length c0_2, .int .i64 1] ?_; (with_reducible refine (sys_rows.calls k (fun k_ => (((((P0_1_ k_ ∨ P0_2_ k_) ∨ w.heap.size ≤ k_) ∧ k_ ≠ gb166) ∧ k_ ≠ gb167) ∧ some k_ ≠ (v169 : Value).ownBlock)) _ _ l0_2 1 t172 true _ ?side1 A3.out).mono ?_); (case side1 => exact HO0_2.out); rintro e w12 ⟨v173, rfl, ho0, hb⟩; refine ⟨_, rfl, ?_⟩; replace HO0_1 := mk0 (Kd.V_elder' (uV HO0_1.out) (Kd.N_base ho0) hb); replace HO0_2 := mk0 (Kd.V_elder' (uV HO0_2.out) (Kd.N_base ho0) hb); have HO174 := mk0 (Kd.N_lower (Kd.N_mono (ok' := fun k_ => ((P0_1_ k_ ∨ P0_2_ k_) ∨ w.heap.size ≤ k_) ∧ some k_ ≠ (v169 : Value).ownBlock ∧ k_ ≠ gb166 ∧ k_ ≠ gb167) ho0 (fun k_ hk_ => ⟨Or.elim hk_ (fun hs_ => hs_.1.1.1) (fun hn_ => (.inr (Nat.le_trans (below_size bH) hn_))), Or.elim hk_ (fun hs_ => hs_.2) (fun hn_ => (Kd.fresh' (Kd.N_lt (uN HO170.out)) k_ hn_)), Or.elim hk_ (fun hs_ => hs_.1.1.2) (fun hn_ => (Kd.freshB (g := gb166) (o := .cells #[.int .i64 a0_0, .slice A0_1 l0_1.length c0_1, .slice A0_2 l0_2.length c0_2] 24 (0, 0)) (uB BK166.out) k_ hn_)), Or.elim hk_ (fun hs_ => hs_.1.2) (fun hn_ => (Kd.freshB (g := gb167) (o := .cells #[.int .i64 0, .slice none 0 0, .slice none 0 0] 24 (0, 0)) (uB BK167.out) k_ hn_))⟩)) (below_size bH)); replace HO170 := mk0 (Kd.N_elder' (uN HO170.out) (Kd.N_base ho0) hb); replace BK166 := bB BK166 hb; replace BK167 := bB BK167 hb; replace HB := hbB bH hb; (try clear hb); (try clear hb2); (try clear hk); (try clear hi); (try clear ho0); obtain ⟨hcz13_0, hcz13_1, hcz13_2, hfz13_0, hfz13_1, hfz13_2⟩ := cL3 BK166; obtain ⟨Ao14, co14, eo14⟩ := Kd.N_slice HO174.out; subst eo14; obtain ⟨Ao15, co15, eo15⟩ := Kd.N_slice HO170.out; subst eo15; obtain ⟨hcz16_0, hcz16_1, hcz16_2, hfz16_0, hfz16_1, hfz16_2⟩ := cL3 BK167))
   refine bodyPost_ret (results_ct rfl _ _ gb167 24 #[.int .i64 a0_0, .slice Ao15 t168.length co15, .slice Ao14 t172.length co14] (0, 0) _ rfl (by (with_reducible repeat (first | refine blk_drewN ?_ _ | refine blk_drew ?_ | refine blk_alloc ?_ _)); refine blk_put (cs := #[.int .i64 a0_0, .slice Ao15 t168.length co15, .slice none 0 0]) ?_ 2 _ rfl; (with_reducible repeat (first | refine blk_drewN ?_ _ | refine blk_drew ?_ | refine blk_alloc ?_ _)); refine blk_put (cs := #[.int .i64 a0_0, .slice none 0 0, .slice none 0 0]) ?_ 1 _ rfl; (with_reducible repeat (first | refine blk_drewN ?_ _ | refine blk_drew ?_ | refine blk_alloc ?_ _)); refine blk_put (cs := #[.int .i64 0, .slice none 0 0, .slice none 0 0]) ?_ 0 _ rfl; (with_reducible repeat (first | refine blk_drewN ?_ _ | refine blk_drew ?_ | refine blk_alloc ?_ _)); exact BK167.out) Tryd.underlying24 rfl (by kernel_rfl)) rfl ?_
   exact ⟨_, _, rE, uN (Kd.N_mono (Kd.N_far (p := ⟨gb167, 2, none⟩) (Kd.N_far (p := ⟨gb167, 1, none⟩) (Kd.N_far (p := ⟨gb167, 0, none⟩) (Kd.N_mono HO170.out (fun k_ hk => (⟨hk, hk.1.2.2⟩ : _ ∧ k_ ≠ gb167))) (fun _ hk => hk.2) (.int .i64 a0_0)) (fun _ hk => hk.2) (.slice Ao15 t168.length co15)) (fun _ hk => hk.2) (.slice Ao14 t172.length co14)) (fun _ hk => ⟨hk.1.1.1, hk.1.2⟩)), uN (Kd.N_mono (Kd.N_far (p := ⟨gb167, 2, none⟩) (Kd.N_far (p := ⟨gb167, 1, none⟩) (Kd.N_far (p := ⟨gb167, 0, none⟩) (Kd.N_mono HO174.out (fun k_ hk => (⟨hk, hk.2.2.2⟩ : _ ∧ k_ ≠ gb167))) (fun _ hk => hk.2) (.int .i64 a0_0)) (fun _ hk => hk.2) (.slice Ao15 t168.length co15)) (fun _ hk => hk.2) (.slice Ao14 t172.length co14)) (fun _ hk => ⟨hk.1.1, hk.1.2.1⟩)), bH⟩
  ·replace c5 := Bool.eq_false_iff.mpr c5
   subst c5
   have H1 : (some (0, ([] : List (S59)), ([] : List (S59)), false)) = some (r1, r2, r3, r4) := by rw [if_neg (show ¬ (false = true) by decide)] at H; exact H
   clear H
   have H := H1
   clear H1
   simp only [Option.some.injEq, Prod.mk.injEq] at H
   obtain ⟨rfl, rfl, rfl, rfl⟩ := H
   go_enter Tryd.func12, Tryd.ntmps12
   go_wp2_with (first | ((with_reducible refine gate_dst (N := 1) rfl ?_); refine bxE 1 #[.int .i64 a0_0, .slice A0_1 l0_1.length c0_1, .slice A0_2 l0_2.length c0_2] 24 ?_; intro gb166 hg w17 hbox hb; replace HO0_1 := mk0 (Kd.V_below (Kd.V_elderB (uV HO0_1.out) gb166 (Nat.le_of_eq hg.symm)) hb); replace HO0_2 := mk0 (Kd.V_below (Kd.V_elderB (uV HO0_2.out) gb166 (Nat.le_of_eq hg.symm)) hb); have BK166 := mk0 (hbox); have GW166 := mk0 ((by rw [hg]; exact (below_size (uL HB.out)) : w.heap.size ≤ gb166)); have GE166 := mk0 ((by rw [hg]; exact (below_size (uL HB.out)) : w.heap.size ≤ gb166)); replace HB := hbB (uL HB.out) hb; clear hb hbox hg) | ((with_reducible refine gate_dst (N := 2) rfl ?_); refine bxE 2 #[.int .i64 0, .slice none 0 0, .slice none 0 0] 24 ?_; intro gb167 hg w18 hbox hb; replace HO0_1 := mk0 (Kd.V_below (Kd.V_elderB (uV HO0_1.out) gb167 (Nat.le_of_eq hg.symm)) hb); replace HO0_2 := mk0 (Kd.V_below (Kd.V_elderB (uV HO0_2.out) gb167 (Nat.le_of_eq hg.symm)) hb); have BK167 := mk0 (hbox); have GW167 := mk0 ((by rw [hg]; exact (below_size bH) : w.heap.size ≤ gb167)); have GE167 := mk0 ((by rw [hg]; exact (below_size bH) : w.heap.size ≤ gb167)); replace HB := hbB bH hb; have NB166_167 := mk0 ((by rw [hg]; exact Nat.ne_of_lt (blk_lt (g := gb166) (o := .cells #[.int .i64 a0_0, .slice A0_1 l0_1.length c0_1, .slice A0_2 l0_2.length c0_2] 24 (0, 0)) (uB BK166.out)) : gb166 ≠ gb167)); have NB167_166 := mk0 ((by rw [hg]; exact Nat.ne_of_gt (blk_lt (g := gb166) (o := .cells #[.int .i64 a0_0, .slice A0_1 l0_1.length c0_1, .slice A0_2 l0_2.length c0_2] 24 (0, 0)) (uB BK166.out)) : gb167 ≠ gb166)); replace BK166 := bB BK166 hb; clear hb hbox hg; have hnb19 := NB166_167.out; have hnc19 := NB167_166.out; obtain ⟨hcz20_0, hcz20_1, hcz20_2, hfz20_0, hfz20_1, hfz20_2⟩ := cL3 BK166) | ((with_reducible refine gate_dst (N := 11) rfl ?_); refine gsM (some 11) Tryd.func31 #[.slice A0_1 l0_1.length c0_1, .int .i64 0] ?_; (with_reducible refine (sys_rows.calls k (fun k_ => ((((P0_1_ k_ ∨ P0_2_ k_) ∨ w.heap.size ≤ k_) ∧ k_ ≠ gb166) ∧ k_ ≠ gb167)) _ _ l0_1 0 t168 true _ ?side1 A2.out).mono ?_); (case side1 => exact HO0_1.out); rintro e w21 ⟨v169, rfl, ho0, hb⟩; refine ⟨_, rfl, ?_⟩; replace HO0_1 := mk0 (Kd.V_elder' (uV HO0_1.out) (Kd.N_base ho0) hb); replace HO0_2 := mk0 (Kd.V_elder' (uV HO0_2.out) (Kd.N_base ho0) hb); have HO170 := mk0 (Kd.N_lower (Kd.N_mono (ok' := fun k_ => ((P0_1_ k_ ∨ P0_2_ k_) ∨ w.heap.size ≤ k_) ∧ k_ ≠ gb166 ∧ k_ ≠ gb167) ho0 (fun k_ hk_ => ⟨Or.elim hk_ (fun hs_ => hs_.1.1) (fun hn_ => (.inr (Nat.le_trans (below_size bH) hn_))), Or.elim hk_ (fun hs_ => hs_.1.2) (fun hn_ => (Kd.freshB (g := gb166) (o := .cells #[.int .i64 a0_0, .slice A0_1 l0_1.length c0_1, .slice A0_2 l0_2.length c0_2] 24 (0, 0)) (uB BK166.out) k_ hn_)), Or.elim hk_ (fun hs_ => hs_.2) (fun hn_ => (Kd.freshB (g := gb167) (o := .cells #[.int .i64 0, .slice none 0 0, .slice none 0 0] 24 (0, 0)) (uB BK167.out) k_ hn_))⟩)) (below_size bH)); replace BK166 := bB BK166 hb; replace BK167 := bB BK167 hb; replace HB := hbB bH hb; (try clear hb); (try clear hb2); (try clear hk); (try clear hi); (try clear ho0); obtain ⟨hcz22_0, hcz22_1, hcz22_2, hfz22_0, hfz22_1, hfz22_2⟩ := cL3 BK166; clear HO170; have n_ := mk0 (Kd.V_mono (ok' := (fun k_ => ((P0_1_ k_ ∨ P0_2_ k_) ∨ w.heap.size ≤ k_) ∧ k_ ≠ gb166 ∧ k_ ≠ gb167)) HO0_2.out (fun k_ hk => ⟨hk.1.1.1, ⟨hk.1.1.2, hk.1.2⟩⟩)); clear HO0_2; have HO0_2 := n_; clear n_) | ((with_reducible refine gate_dst (N := 17) rfl ?_); refine gsM (some 17) Tryd.func31 #[.slice A0_2 l0_2.length c0_2, .int .i64 1] ?_; (with_reducible refine (sys_rows.calls k (fun k_ => (((P0_1_ k_ ∨ P0_2_ k_) ∨ w.heap.size ≤ k_) ∧ (k_ ≠ gb166 ∧ k_ ≠ gb167))) _ _ l0_2 1 t172 false _ ?side1 A3.out).mono ?_); (case side1 => exact HO0_2.out); rintro e w23 ⟨v173, rfl, ho0, hb⟩; refine ⟨_, rfl, ?_⟩; replace HO0_1 := mk0 (Kd.V_elder' (uV HO0_1.out) (Kd.N_base ho0) hb); replace HO0_2 := mk0 (Kd.V_elder' (uV HO0_2.out) (Kd.N_base ho0) hb); have HO174 := mk0 (Kd.N_lower (Kd.N_mono (ok' := fun k_ => ((P0_1_ k_ ∨ P0_2_ k_) ∨ w.heap.size ≤ k_) ∧ k_ ≠ gb166 ∧ k_ ≠ gb167) ho0 (fun k_ hk_ => ⟨Or.elim hk_ (fun hs_ => hs_.1) (fun hn_ => (.inr (Nat.le_trans (below_size bH) hn_))), Or.elim hk_ (fun hs_ => hs_.2.1) (fun hn_ => (Kd.freshB (g := gb166) (o := .cells #[.int .i64 a0_0, .slice A0_1 l0_1.length c0_1, .slice A0_2 l0_2.length c0_2] 24 (0, 0)) (uB BK166.out) k_ hn_)), Or.elim hk_ (fun hs_ => hs_.2.2) (fun hn_ => (Kd.freshB (g := gb167) (o := .cells #[.int .i64 0, .slice none 0 0, .slice none 0 0] 24 (0, 0)) (uB BK167.out) k_ hn_))⟩)) (below_size bH)); replace BK166 := bB BK166 hb; replace BK167 := bB BK167 hb; replace HB := hbB bH hb; (try clear hb); (try clear hb2); (try clear hk); (try clear hi); (try clear ho0); obtain ⟨hcz24_0, hcz24_1, hcz24_2, hfz24_0, hfz24_1, hfz24_2⟩ := cL3 BK167))
   refine bodyPost_ret (results_ct rfl _ _ gb167 24 #[.int .i64 0, .slice none 0 0, .slice none 0 0] (0, 0) _ rfl (by (with_reducible repeat (first | refine blk_drewN ?_ _ | refine blk_drew ?_ | refine blk_alloc ?_ _)); refine blk_put (cs := #[.int .i64 0, .slice none 0 0, .slice none 0 0]) ?_ 2 _ rfl; (with_reducible repeat (first | refine blk_drewN ?_ _ | refine blk_drew ?_ | refine blk_alloc ?_ _)); refine blk_put (cs := #[.int .i64 0, .slice none 0 0, .slice none 0 0]) ?_ 1 _ rfl; (with_reducible repeat (first | refine blk_drewN ?_ _ | refine blk_drew ?_ | refine blk_alloc ?_ _)); refine blk_put (cs := #[.int .i64 0, .slice none 0 0, .slice none 0 0]) ?_ 0 _ rfl; (with_reducible repeat (first | refine blk_drewN ?_ _ | refine blk_drew ?_ | refine blk_alloc ?_ _)); exact BK167.out) Tryd.underlying24 rfl (by kernel_rfl)) rfl ?_
   exact ⟨_, _, rE, by first | exact Kd.S_nil _ _ _ _ _ | exact Kd.N_nil _ _ _ _ _ | exact Kd.V_nil _ _ _ _ _ | exact Kd.Q_nil _ _ _ _ _ | exact Kd.R_nil _ _ _ _ _, by first | exact Kd.S_nil _ _ _ _ _ | exact Kd.N_nil _ _ _ _ _ | exact Kd.V_nil _ _ _ _ _ | exact Kd.Q_nil _ _ _ _ _ | exact Kd.R_nil _ _ _ _ _, bH⟩
 ·replace c4 := Bool.eq_false_iff.mpr c4
  subst c4
  have H1 : (some (0, ([] : List (S59)), ([] : List (S59)), false)) = some (r1, r2, r3, r4) := by rw [if_neg (show ¬ (false = true) by decide)] at H; exact H
  clear H
  have H := H1
  clear H1
  simp only [Option.some.injEq, Prod.mk.injEq] at H
  obtain ⟨rfl, rfl, rfl, rfl⟩ := H
  go_enter Tryd.func12, Tryd.ntmps12
  go_wp2_with (first | ((with_reducible refine gate_dst (N := 1) rfl ?_); refine bxE 1 #[.int .i64 a0_0, .slice A0_1 l0_1.length c0_1, .slice A0_2 l0_2.length c0_2] 24 ?_; intro gb166 hg w25 hbox hb; replace HO0_1 := mk0 (Kd.V_below (Kd.V_elderB (uV HO0_1.out) gb166 (Nat.le_of_eq hg.symm)) hb); replace HO0_2 := mk0 (Kd.V_below (Kd.V_elderB (uV HO0_2.out) gb166 (Nat.le_of_eq hg.symm)) hb); have BK166 := mk0 (hbox); have GW166 := mk0 ((by rw [hg]; exact (below_size (uL HB.out)) : w.heap.size ≤ gb166)); have GE166 := mk0 ((by rw [hg]; exact (below_size (uL HB.out)) : w.heap.size ≤ gb166)); replace HB := hbB (uL HB.out) hb; clear hb hbox hg) | ((with_reducible refine gate_dst (N := 2) rfl ?_); refine bxE 2 #[.int .i64 0, .slice none 0 0, .slice none 0 0] 24 ?_; intro gb167 hg w26 hbox hb; replace HO0_1 := mk0 (Kd.V_below (Kd.V_elderB (uV HO0_1.out) gb167 (Nat.le_of_eq hg.symm)) hb); replace HO0_2 := mk0 (Kd.V_below (Kd.V_elderB (uV HO0_2.out) gb167 (Nat.le_of_eq hg.symm)) hb); have BK167 := mk0 (hbox); have GW167 := mk0 ((by rw [hg]; exact (below_size bH) : w.heap.size ≤ gb167)); have GE167 := mk0 ((by rw [hg]; exact (below_size bH) : w.heap.size ≤ gb167)); replace HB := hbB bH hb; have NB166_167 := mk0 ((by rw [hg]; exact Nat.ne_of_lt (blk_lt (g := gb166) (o := .cells #[.int .i64 a0_0, .slice A0_1 l0_1.length c0_1, .slice A0_2 l0_2.length c0_2] 24 (0, 0)) (uB BK166.out)) : gb166 ≠ gb167)); have NB167_166 := mk0 ((by rw [hg]; exact Nat.ne_of_gt (blk_lt (g := gb166) (o := .cells #[.int .i64 a0_0, .slice A0_1 l0_1.length c0_1, .slice A0_2 l0_2.length c0_2] 24 (0, 0)) (uB BK166.out)) : gb167 ≠ gb166)); replace BK166 := bB BK166 hb; clear hb hbox hg; have hnb27 := NB166_167.out; have hnc27 := NB167_166.out; obtain ⟨hcz28_0, hcz28_1, hcz28_2, hfz28_0, hfz28_1, hfz28_2⟩ := cL3 BK166) | ((with_reducible refine gate_dst (N := 11) rfl ?_); refine gsM (some 11) Tryd.func31 #[.slice A0_1 l0_1.length c0_1, .int .i64 0] ?_; (with_reducible refine (sys_rows.calls k (fun k_ => ((((P0_1_ k_ ∨ P0_2_ k_) ∨ w.heap.size ≤ k_) ∧ k_ ≠ gb166) ∧ k_ ≠ gb167)) _ _ l0_1 0 t168 false _ ?side1 A2.out).mono ?_); (case side1 => exact HO0_1.out); rintro e w29 ⟨v169, rfl, ho0, hb⟩; refine ⟨_, rfl, ?_⟩; replace HO0_1 := mk0 (Kd.V_elder' (uV HO0_1.out) (Kd.N_base ho0) hb); replace HO0_2 := mk0 (Kd.V_elder' (uV HO0_2.out) (Kd.N_base ho0) hb); have HO170 := mk0 (Kd.N_lower (Kd.N_mono (ok' := fun k_ => ((P0_1_ k_ ∨ P0_2_ k_) ∨ w.heap.size ≤ k_) ∧ k_ ≠ gb166 ∧ k_ ≠ gb167) ho0 (fun k_ hk_ => ⟨Or.elim hk_ (fun hs_ => hs_.1.1) (fun hn_ => (.inr (Nat.le_trans (below_size bH) hn_))), Or.elim hk_ (fun hs_ => hs_.1.2) (fun hn_ => (Kd.freshB (g := gb166) (o := .cells #[.int .i64 a0_0, .slice A0_1 l0_1.length c0_1, .slice A0_2 l0_2.length c0_2] 24 (0, 0)) (uB BK166.out) k_ hn_)), Or.elim hk_ (fun hs_ => hs_.2) (fun hn_ => (Kd.freshB (g := gb167) (o := .cells #[.int .i64 0, .slice none 0 0, .slice none 0 0] 24 (0, 0)) (uB BK167.out) k_ hn_))⟩)) (below_size bH)); replace BK166 := bB BK166 hb; replace BK167 := bB BK167 hb; replace HB := hbB bH hb; (try clear hb); (try clear hb2); (try clear hk); (try clear hi); (try clear ho0); obtain ⟨hcz30_0, hcz30_1, hcz30_2, hfz30_0, hfz30_1, hfz30_2⟩ := cL3 BK166; clear HO170; have n_ := mk0 (Kd.V_mono (ok' := (fun k_ => ((P0_1_ k_ ∨ P0_2_ k_) ∨ w.heap.size ≤ k_) ∧ k_ ≠ gb166 ∧ k_ ≠ gb167)) HO0_2.out (fun k_ hk => ⟨hk.1.1.1, ⟨hk.1.1.2, hk.1.2⟩⟩)); clear HO0_2; have HO0_2 := n_; clear n_) | ((with_reducible refine gate_dst (N := 17) rfl ?_); refine gsM (some 17) Tryd.func31 #[.slice A0_2 l0_2.length c0_2, .int .i64 1] ?_; (with_reducible refine (sys_rows.calls k (fun k_ => (((P0_1_ k_ ∨ P0_2_ k_) ∨ w.heap.size ≤ k_) ∧ (k_ ≠ gb166 ∧ k_ ≠ gb167))) _ _ l0_2 1 t172 t175 _ ?side1 A3.out).mono ?_); (case side1 => exact HO0_2.out); rintro e w31 ⟨v173, rfl, ho0, hb⟩; refine ⟨_, rfl, ?_⟩; replace HO0_1 := mk0 (Kd.V_elder' (uV HO0_1.out) (Kd.N_base ho0) hb); replace HO0_2 := mk0 (Kd.V_elder' (uV HO0_2.out) (Kd.N_base ho0) hb); have HO174 := mk0 (Kd.N_lower (Kd.N_mono (ok' := fun k_ => ((P0_1_ k_ ∨ P0_2_ k_) ∨ w.heap.size ≤ k_) ∧ k_ ≠ gb166 ∧ k_ ≠ gb167) ho0 (fun k_ hk_ => ⟨Or.elim hk_ (fun hs_ => hs_.1) (fun hn_ => (.inr (Nat.le_trans (below_size bH) hn_))), Or.elim hk_ (fun hs_ => hs_.2.1) (fun hn_ => (Kd.freshB (g := gb166) (o := .cells #[.int .i64 a0_0, .slice A0_1 l0_1.length c0_1, .slice A0_2 l0_2.length c0_2] 24 (0, 0)) (uB BK166.out) k_ hn_)), Or.elim hk_ (fun hs_ => hs_.2.2) (fun hn_ => (Kd.freshB (g := gb167) (o := .cells #[.int .i64 0, .slice none 0 0, .slice none 0 0] 24 (0, 0)) (uB BK167.out) k_ hn_))⟩)) (below_size bH)); replace BK166 := bB BK166 hb; replace BK167 := bB BK167 hb; replace HB := hbB bH hb; (try clear hb); (try clear hb2); (try clear hk); (try clear hi); (try clear ho0); obtain ⟨hcz32_0, hcz32_1, hcz32_2, hfz32_0, hfz32_1, hfz32_2⟩ := cL3 BK167))
  refine bodyPost_ret (results_ct rfl _ _ gb167 24 #[.int .i64 0, .slice none 0 0, .slice none 0 0] (0, 0) _ rfl (by (with_reducible repeat (first | refine blk_drewN ?_ _ | refine blk_drew ?_ | refine blk_alloc ?_ _)); refine blk_put (cs := #[.int .i64 0, .slice none 0 0, .slice none 0 0]) ?_ 2 _ rfl; (with_reducible repeat (first | refine blk_drewN ?_ _ | refine blk_drew ?_ | refine blk_alloc ?_ _)); refine blk_put (cs := #[.int .i64 0, .slice none 0 0, .slice none 0 0]) ?_ 1 _ rfl; (with_reducible repeat (first | refine blk_drewN ?_ _ | refine blk_drew ?_ | refine blk_alloc ?_ _)); refine blk_put (cs := #[.int .i64 0, .slice none 0 0, .slice none 0 0]) ?_ 0 _ rfl; (with_reducible repeat (first | refine blk_drewN ?_ _ | refine blk_drew ?_ | refine blk_alloc ?_ _)); exact BK167.out) Tryd.underlying24 rfl (by kernel_rfl)) rfl ?_
  exact ⟨_, _, rE, by first | exact Kd.S_nil _ _ _ _ _ | exact Kd.N_nil _ _ _ _ _ | exact Kd.V_nil _ _ _ _ _ | exact Kd.Q_nil _ _ _ _ _ | exact Kd.R_nil _ _ _ _ _, by first | exact Kd.S_nil _ _ _ _ _ | exact Kd.N_nil _ _ _ _ _ | exact Kd.V_nil _ _ _ _ _ | exact Kd.Q_nil _ _ _ _ _ | exact Kd.R_nil _ _ _ _ _, bH⟩

/-- A state of type 92 at block g of W; what its slices lead to came in by w0. -/
def IsS92 (w0 W : World) (g : Nat) (f0 : Int) (f1 : Int) (f2 : Bool) (f3 : Bool) : Prop := W.heap[g]? = some (.cells #[.int .i64 f0, .int .i64 f1, .bool f2, .bool f3] 92 (0, 0)) ∧ w0.heap.size ≤ g
theorem IsS92.grown {w0 W : World} {g : Nat} {f0 : Int} {f1 : Int} {f2 : Bool} {f3 : Bool} {W1 : World} {row : Option Nat} (h : IsS92 w0 W g f0 f1 f2 f3) (hw : W.grownBy W1 row) (hne : some g ≠ row) : IsS92 w0 W1 g f0 f1 f2 f3 := by
 obtain ⟨hb, hg⟩ := h
 exact ⟨blk_grown hb hw hne, hg⟩
theorem IsS92.own_neN {w0 W : World} {g : Nat} {f0 : Int} {f1 : Int} {f2 : Bool} {f3 : Bool} {α : Type} {d : Kd α} {e : Nat} {base : Nat} {ok : Nat → Prop} {v : Value} {xs : List α} (h : IsS92 w0 W g f0 f1 f2 f3) (ho : Kd.N d e W base ok v xs) (ht : e ≠ 92) : some g ≠ v.ownBlock := by
 obtain ⟨hb, hg⟩ := h
 exact Kd.N_ne ho hb ht
theorem IsS92.fresh {w0 W : World} {g : Nat} {f0 : Int} {f1 : Int} {f2 : Bool} {f3 : Bool} (h : IsS92 w0 W g f0 f1 f2 f3) : ∀ k, W.heap.size ≤ k → k ≠ g := by
 obtain ⟨hb, hg⟩ := h
 exact Kd.freshB hb
theorem IsS92.kept {w0 W : World} {g : Nat} {f0 : Int} {f1 : Int} {f2 : Bool} {f3 : Bool} {W1 : World} {S : Nat → Prop} (h : IsS92 w0 W g f0 f1 f2 f3) (hk : Kept W W1 S) (hne : ¬ S g) : IsS92 w0 W1 g f0 f1 f2 f3 := by
 obtain ⟨hb, hg⟩ := h
 exact ⟨blk_kept hb hk hne, hg⟩
theorem IsS92.below {w0 W : World} {g : Nat} {f0 : Int} {f1 : Int} {f2 : Bool} {f3 : Bool} {W1 : World} (h : IsS92 w0 W g f0 f1 f2 f3) (hw : Below W.heap.size W W1) : IsS92 w0 W1 g f0 f1 f2 f3 := h.grown (grown_of_below hw none) (by simp)
theorem IsS92.alloc {w0 W : World} {g : Nat} {f0 : Int} {f1 : Int} {f2 : Bool} {f3 : Bool} (h : IsS92 w0 W g f0 f1 f2 f3) (o : Obj) : IsS92 w0 (W.alloc o) g f0 f1 f2 f3 := h.below (below_alloc (Below.refl _ _) o)
theorem IsS92.drewN {w0 W : World} {g : Nat} {f0 : Int} {f1 : Int} {f2 : Bool} {f3 : Bool} (h : IsS92 w0 W g f0 f1 f2 f3) (m : Nat) : IsS92 w0 (W.drewN m) g f0 f1 f2 f3 := h
theorem IsS92.drew {w0 W : World} {g : Nat} {f0 : Int} {f1 : Int} {f2 : Bool} {f3 : Bool} (h : IsS92 w0 W g f0 f1 f2 f3) : IsS92 w0 W.drew g f0 f1 f2 f3 := h
theorem IsS92.at_ {w0 W : World} {g : Nat} {f0 : Int} {f1 : Int} {f2 : Bool} {f3 : Bool} {w' : World} {m : Nat} (hq : W.drewN m = w') (h : IsS92 w0 W g f0 f1 f2 f3) : IsS92 w0 w' g f0 f1 f2 f3 := by subst hq; exact IsS92.drewN h m
theorem IsS92.apart {w0 W : World} {g : Nat} {f0 : Int} {f1 : Int} {f2 : Bool} {f3 : Bool} {α : Type} {d : Kd α} {e : Nat} {base : Nat} {ok : Nat → Prop} {v : Value} {xs : List α} (h : IsS92 w0 W g f0 f1 f2 f3) (ho : d.R e W base ok v xs) (ht : ∀ q, q ∈ e :: d.E → q ≠ 92) : d.R e W base (fun k => ok k ∧ k ≠ g) v xs := by
 obtain ⟨hb, hg⟩ := h
 exact Kd.R_types ho hb ht
theorem IsS92.own_ne {w0 W : World} {g : Nat} {f0 : Int} {f1 : Int} {f2 : Bool} {f3 : Bool} {α : Type} {d : Kd α} {e : Nat} {base : Nat} {ok : Nat → Prop} {v : Value} {xs : List α} (h : IsS92 w0 W g f0 f1 f2 f3) (ho : d.R e W base ok v xs) (ht : e ≠ 92) : some g ≠ v.ownBlock := by
 obtain ⟨hb, hg⟩ := h
 exact Kd.R_ne ho hb ht
theorem IsS92.apartQ {w0 W : World} {g : Nat} {f0 : Int} {f1 : Int} {f2 : Bool} {f3 : Bool} {α : Type} {d : Kd α} {e : Nat} {base : Nat} {ok : Nat → Prop} {v : Value} {xs : List α} (h : IsS92 w0 W g f0 f1 f2 f3) (ho : d.Q e W base ok v xs) (ht : ∀ q, q ∈ e :: d.E → q ≠ 92) : d.Q e W base (fun k => ok k ∧ k ≠ g) v xs := by
 obtain ⟨hb, hg⟩ := h
 exact Kd.Q_types ho hb ht
theorem IsS92.own_neQ {w0 W : World} {g : Nat} {f0 : Int} {f1 : Int} {f2 : Bool} {f3 : Bool} {α : Type} {d : Kd α} {e : Nat} {base : Nat} {ok : Nat → Prop} {v : Value} {xs : List α} (h : IsS92 w0 W g f0 f1 f2 f3) (ho : d.Q e W base ok v xs) (ht : e ≠ 92) : some g ≠ v.ownBlock := by
 obtain ⟨hb, hg⟩ := h
 exact Kd.Q_ne ho hb ht
theorem IsS92.apartS {w0 W : World} {g : Nat} {f0 : Int} {f1 : Int} {f2 : Bool} {f3 : Bool} {α : Type} {d : Kd α} {e : Nat} {base : Nat} {ok : Nat → Prop} {v : Value} {xs : List α} (h : IsS92 w0 W g f0 f1 f2 f3) (ho : d.S e W base ok v xs) (ht : ∀ q, q ∈ e :: d.E → q ≠ 92) : d.S e W base (fun k => ok k ∧ k ≠ g) v xs := by
 obtain ⟨hb, hg⟩ := h
 exact Kd.S_types ho hb ht
theorem IsS92.own_neS {w0 W : World} {g : Nat} {f0 : Int} {f1 : Int} {f2 : Bool} {f3 : Bool} {α : Type} {d : Kd α} {e : Nat} {base : Nat} {ok : Nat → Prop} {v : Value} {xs : List α} (h : IsS92 w0 W g f0 f1 f2 f3) (ho : d.S e W base ok v xs) (ht : e ≠ 92) : some g ≠ v.ownBlock := by
 obtain ⟨hb, hg⟩ := h
 exact Kd.S_ne ho hb ht
theorem IsS92.lt {w0 W : World} {g : Nat} {f0 : Int} {f1 : Int} {f2 : Bool} {f3 : Bool} (h : IsS92 w0 W g f0 f1 f2 f3) : g < W.heap.size := by
 obtain ⟨hb, hg⟩ := h
 exact blk_lt hb
theorem IsS92.ge {w0 W : World} {g : Nat} {f0 : Int} {f1 : Int} {f2 : Bool} {f3 : Bool} (h : IsS92 w0 W g f0 f1 f2 f3) : w0.heap.size ≤ g := by
 obtain ⟨hb, hg⟩ := h
 exact hg
theorem IsS92.ne_blk {w0 W : World} {g : Nat} {f0 : Int} {f1 : Int} {f2 : Bool} {f3 : Bool} {a : Nat} {cs : Array Value} {t : TypeId} {fr : Nat × Nat} (h : IsS92 w0 W g f0 f1 f2 f3) (hb2 : W.heap[a]? = some (.cells cs t fr)) (ht : t ≠ 92) : g ≠ a := by
 obtain ⟨hb, hg⟩ := h
 rintro rfl
 rw [hb] at hb2
 injection hb2 with hb2
 injection hb2 with _ ht2
 exact ht ht2.symm
theorem IsS92.far {w0 W : World} {g : Nat} {f0 : Int} {f1 : Int} {f2 : Bool} {f3 : Bool} {p : Addr} (h : IsS92 w0 W g f0 f1 f2 f3) (hne : g ≠ p.block) (u : Value) : IsS92 w0 (W.setCell p u) g f0 f1 f2 f3 := by
 obtain ⟨hb, hg⟩ := h
 exact ⟨blk_far hb hne u, hg⟩
theorem cellS92_0 {W : World} {g : Nat} {f0 : Int} {f1 : Int} {f2 : Bool} {f3 : Bool} (h : W.heap[g]? = some (.cells #[.int .i64 f0, .int .i64 f1, .bool f2, .bool f3] 92 (0, 0))) : W.cell? ⟨g, 0, none⟩ = some (.int .i64 f0) := (blk_cell h 0).trans rfl
theorem IsS92.set_0 {w0 W : World} {g : Nat} {f0 : Int} {f1 : Int} {f2 : Bool} {f3 : Bool} (h : IsS92 w0 W g f0 f1 f2 f3) (x : Int) : IsS92 w0 (W.setCell ⟨g, 0, none⟩ (.int .i64 x)) g x f1 f2 f3 := by
 obtain ⟨hb, hg⟩ := h
 exact ⟨by simpa using blk_set hb 0 (.int .i64 x), hg⟩
theorem cellS92_1 {W : World} {g : Nat} {f0 : Int} {f1 : Int} {f2 : Bool} {f3 : Bool} (h : W.heap[g]? = some (.cells #[.int .i64 f0, .int .i64 f1, .bool f2, .bool f3] 92 (0, 0))) : W.cell? ⟨g, 1, none⟩ = some (.int .i64 f1) := (blk_cell h 1).trans rfl
theorem IsS92.set_1 {w0 W : World} {g : Nat} {f0 : Int} {f1 : Int} {f2 : Bool} {f3 : Bool} (h : IsS92 w0 W g f0 f1 f2 f3) (x : Int) : IsS92 w0 (W.setCell ⟨g, 1, none⟩ (.int .i64 x)) g f0 x f2 f3 := by
 obtain ⟨hb, hg⟩ := h
 exact ⟨by simpa using blk_set hb 1 (.int .i64 x), hg⟩
theorem cellS92_2 {W : World} {g : Nat} {f0 : Int} {f1 : Int} {f2 : Bool} {f3 : Bool} (h : W.heap[g]? = some (.cells #[.int .i64 f0, .int .i64 f1, .bool f2, .bool f3] 92 (0, 0))) : W.cell? ⟨g, 2, none⟩ = some (.bool f2) := (blk_cell h 2).trans rfl
theorem IsS92.set_2 {w0 W : World} {g : Nat} {f0 : Int} {f1 : Int} {f2 : Bool} {f3 : Bool} (h : IsS92 w0 W g f0 f1 f2 f3) (x : Bool) : IsS92 w0 (W.setCell ⟨g, 2, none⟩ (.bool x)) g f0 f1 x f3 := by
 obtain ⟨hb, hg⟩ := h
 exact ⟨by simpa using blk_set hb 2 (.bool x), hg⟩
theorem cellS92_3 {W : World} {g : Nat} {f0 : Int} {f1 : Int} {f2 : Bool} {f3 : Bool} (h : W.heap[g]? = some (.cells #[.int .i64 f0, .int .i64 f1, .bool f2, .bool f3] 92 (0, 0))) : W.cell? ⟨g, 3, none⟩ = some (.bool f3) := (blk_cell h 3).trans rfl
theorem IsS92.set_3 {w0 W : World} {g : Nat} {f0 : Int} {f1 : Int} {f2 : Bool} {f3 : Bool} (h : IsS92 w0 W g f0 f1 f2 f3) (x : Bool) : IsS92 w0 (W.setCell ⟨g, 3, none⟩ (.bool x)) g f0 f1 f2 x := by
 obtain ⟨hb, hg⟩ := h
 exact ⟨by simpa using blk_set hb 3 (.bool x), hg⟩
theorem IsS92.new (w0 W : World) (f0 : Int) (f1 : Int) (f2 : Bool) (f3 : Bool) (hB : Below w0.heap.size w0 W) : IsS92 w0 (W.alloc (.cells #[.int .i64 f0, .int .i64 f1, .bool f2, .bool f3] 92)) W.heap.size f0 f1 f2 f3 := ⟨by simpa using heap_alloc_new W _, hB.size⟩

/-! ### sys_span_atLeast: function 59 -/
def sys_span_atLeast.f (s0_0 : Int) (s0_1 : Int) (s0_2 : Bool) (s0_3 : Bool) (a1 : Int) : Option (Int × Int × Bool × Bool) := if s0_2 = true then (if a1 > s0_0 then (some (a1, s0_1, true, s0_3)) else (some (s0_0, s0_1, s0_2, s0_3))) else (some (a1, s0_1, true, s0_3))
set_option maxHeartbeats 8000000 in
set_option maxRecDepth 100000 in
theorem sys_span_atLeast.calls (g : Nat) (s0_0 : Int) (s0_1 : Int) (s0_2 : Bool) (s0_3 : Bool) (a1 : Int) (r1 : Int) (r2 : Int) (r3 : Bool) (r4 : Bool) (w0 w : World) (hI : IsS92 w0 w g s0_0 s0_1 s0_2 s0_3) (hB : Below w0.heap.size w0 w) (h : sys_span_atLeast.f s0_0 s0_1 s0_2 s0_3 a1 = some (r1, r2, r3, r4)) :
  Calls Tryd.prog 59 #[.pointer (some ⟨g, 0, none⟩), .int .i64 a1] w fun e w' => e = .returned (.tuple #[]) ∧ IsS92 w0 w' g r1 r2 r3 r4 ∧ Below w0.heap.size w0 w' ∧ KeepBut w w' g none := by
 have HI0 := mk0 hI
 have HK := mk0 (KeepBut.refl w g none)
 have HL := mk0 hB.size
 clear hI
 have HW0 := mk0 hB.size
 have HB := mk0 hB
 clear hB
 have H : (if s0_2 = true then (if a1 > s0_0 then (some (a1, s0_1, true, s0_3)) else (some (s0_0, s0_1, s0_2, s0_3))) else (some (a1, s0_1, true, s0_3))) = some (r1, r2, r3, r4) := h
 clear h
 by_cases c3 : s0_2 = true
 ·subst c3
  have H1 : (if a1 > s0_0 then (some (a1, s0_1, true, s0_3)) else (some (s0_0, s0_1, true, s0_3))) = some (r1, r2, r3, r4) := by rw [if_pos rfl] at H; exact H
  clear H
  have H := H1
  clear H1
  by_cases c4 : a1 > s0_0
  ·rw [if_pos c4] at H
   have c4b0 : decide (s0_0 < a1) = true := decide_eq_true c4
   clear c4
   simp only [Option.some.injEq, Prod.mk.injEq] at H
   obtain ⟨rfl, rfl, rfl, rfl⟩ := H
   obtain ⟨HGz5, hgz5⟩ := HI0.out
   have hcz5_0 := cellS92_0 HGz5
   have hcz5_1 := cellS92_1 HGz5
   have hcz5_2 := cellS92_2 HGz5
   have hcz5_3 := cellS92_3 HGz5
   have hfz5_0 := blk_frozen HGz5 0
   have hfz5_1 := blk_frozen HGz5 1
   have hfz5_2 := blk_frozen HGz5 2
   have hfz5_3 := blk_frozen HGz5 3
   clear HGz5 hgz5
   go_enter Tryd.func59, Tryd.ntmps59
   go_wp2
   first | go_end0 | ((try simp only [Exit.inBlock, Exit.then]); refine bodyPost_ret (results_none rfl _ _ _) rfl ?_)
   exact ⟨rE, by repeat (first | (with_reducible first | exact HI0.out | apply IsS92.alloc | apply IsS92.drewN | apply IsS92.drew | apply IsS92.set_0 | apply IsS92.set_1 | apply IsS92.set_2 | apply IsS92.set_3) | exact HI0.out), by repeat (first | (with_reducible first | exact HB.out | apply below_alloc | apply pw_below_drewN | apply below_drew1 | refine below_set ?_ (IsS92.ge HI0.out)) | exact HB.out), by repeat (first | (with_reducible first | exact HK.out | apply KeepBut.set_ | apply keep_drewN | apply keep_drew | apply keep_alloc) | exact HK.out)⟩
  ·rw [if_neg c4] at H
   have c4b0 : decide (s0_0 < a1) = false := decide_eq_false c4
   clear c4
   simp only [Option.some.injEq, Prod.mk.injEq] at H
   obtain ⟨rfl, rfl, rfl, rfl⟩ := H
   obtain ⟨HGz6, hgz6⟩ := HI0.out
   have hcz6_0 := cellS92_0 HGz6
   have hcz6_1 := cellS92_1 HGz6
   have hcz6_2 := cellS92_2 HGz6
   have hcz6_3 := cellS92_3 HGz6
   have hfz6_0 := blk_frozen HGz6 0
   have hfz6_1 := blk_frozen HGz6 1
   have hfz6_2 := blk_frozen HGz6 2
   have hfz6_3 := blk_frozen HGz6 3
   clear HGz6 hgz6
   go_enter Tryd.func59, Tryd.ntmps59
   go_wp2
   first | go_end0 | ((try simp only [Exit.inBlock, Exit.then]); refine bodyPost_ret (results_none rfl _ _ _) rfl ?_)
   exact ⟨rE, by repeat (first | (with_reducible first | exact HI0.out | apply IsS92.alloc | apply IsS92.drewN | apply IsS92.drew | apply IsS92.set_0 | apply IsS92.set_1 | apply IsS92.set_2 | apply IsS92.set_3) | exact HI0.out), by repeat (first | (with_reducible first | exact HB.out | apply below_alloc | apply pw_below_drewN | apply below_drew1 | refine below_set ?_ (IsS92.ge HI0.out)) | exact HB.out), by repeat (first | (with_reducible first | exact HK.out | apply KeepBut.set_ | apply keep_drewN | apply keep_drew | apply keep_alloc) | exact HK.out)⟩
 ·replace c3 := Bool.eq_false_iff.mpr c3
  subst c3
  have H1 : (some (a1, s0_1, true, s0_3)) = some (r1, r2, r3, r4) := by rw [if_neg (show ¬ (false = true) by decide)] at H; exact H
  clear H
  have H := H1
  clear H1
  simp only [Option.some.injEq, Prod.mk.injEq] at H
  obtain ⟨rfl, rfl, rfl, rfl⟩ := H
  obtain ⟨HGz7, hgz7⟩ := HI0.out
  have hcz7_0 := cellS92_0 HGz7
  have hcz7_1 := cellS92_1 HGz7
  have hcz7_2 := cellS92_2 HGz7
  have hcz7_3 := cellS92_3 HGz7
  have hfz7_0 := blk_frozen HGz7 0
  have hfz7_1 := blk_frozen HGz7 1
  have hfz7_2 := blk_frozen HGz7 2
  have hfz7_3 := blk_frozen HGz7 3
  clear HGz7 hgz7
  go_enter Tryd.func59, Tryd.ntmps59
  go_wp2
  first | go_end0 | ((try simp only [Exit.inBlock, Exit.then]); refine bodyPost_ret (results_none rfl _ _ _) rfl ?_)
  exact ⟨rE, by repeat (first | (with_reducible first | exact HI0.out | apply IsS92.alloc | apply IsS92.drewN | apply IsS92.drew | apply IsS92.set_0 | apply IsS92.set_1 | apply IsS92.set_2 | apply IsS92.set_3) | exact HI0.out), by repeat (first | (with_reducible first | exact HB.out | apply below_alloc | apply pw_below_drewN | apply below_drew1 | refine below_set ?_ (IsS92.ge HI0.out)) | exact HB.out), by repeat (first | (with_reducible first | exact HK.out | apply KeepBut.set_ | apply keep_drewN | apply keep_drew | apply keep_alloc) | exact HK.out)⟩

end Go.Proofs.YtkkpgjkjkcmcbaaDoor.X
