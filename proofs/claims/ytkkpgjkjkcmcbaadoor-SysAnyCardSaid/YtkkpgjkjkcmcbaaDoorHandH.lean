/- sys.Holds: its two closures, the search that they are handed to, the function itself: walked; no conditions. -/
import Derived.Test.YtkkpgjkjkcmcbaaDoorXx1
import Derived.Shelf.Abstract
import Derived.WalkKit
import Derived.ProofKit
namespace Go.Proofs.YtkkpgjkjkcmcbaaDoor.H
open Go.Proofs.YtkkpgjkjkcmcbaaDoor.Flt Go.RowKit Go.Proofs.YtkkpgjkjkcmcbaaDoorW.PrintWords Go.Proofs.YtkkpgjkjkcmcbaaDoorW.PrintLast Go.Proofs.YtkkpgjkjkcmcbaaDoorW.PrintMore
open Go.Proofs.YtkkpgjkjkcmcbaaDoor.X
set_option linter.unusedVariables false
set_option linter.unusedSimpArgs false
set_option maxHeartbeats 4000000 in
set_option maxRecDepth 100000 in
theorem holds1.calls (k : Nat) (A : Option Addr) (c : Nat) (l : List Int) (K : Int) (X : Option Addr) (cx : Nat) (x : List Int) (g : Nat) (v : Int) (w : World) (hr : Kd.C (Kd.int .i64) w A l.length l) (hc : l.length ≤ c) (hx : Kd.C (Kd.int .i64) w X x.length x) (hcx : x.length ≤ cx) (hg : w.cell? ⟨g, 0, none⟩ = some (.slice X x.length cx)) (h : sys_of.f k l K x = some v) :
    Calls Tryd.prog 44 #[.agg #[.slice A l.length c, .int .i64 K], .pointer (some ⟨g, 0, none⟩)] w fun e w' => e = .returned (.bool (v != 0)) ∧ Below w.heap.size w w' := by
  have HR := Aside0.mk hr
  have HC := Aside0.mk hc
  have HX := Aside0.mk hx
  have HCX := Aside0.mk hcx
  have HG := Aside0.mk hg
  have H := Aside0.mk h
  clear hr hc hx hcx hg h
  have hu := Tryd.underlying59
  go_enter Tryd.func44, Tryd.ntmps44
  go_wp2_with (first | ((with_reducible refine gate_dst (N := 2) rfl ?_); refine box_event ?hg (N := 2) ?hd (cs := #[.slice A l.length c, .int .i64 K]) (t := 59) ?hr ?_; (case hd => rfl); (case hg => rfl); (case hr => first | (go_simp; done) | (go_simp; rfl)); intro gb hgb w1 hbox hb; have hcz0 : w1.cell? ⟨gb, 0, none⟩ = some (.slice A l.length c) := (blk_cell hbox 0).trans rfl; have hcz1 : w1.cell? ⟨gb, 1, none⟩ = some (.int .i64 K) := (blk_cell hbox 1).trans rfl; have hg1 := (hb.cell (World.block_lt_of_cell? w _ HG.out)).trans HG.out; have HB := Aside0.mk hb; clear hb hbox hgb) | (go_at_call 45; (refine (sys_of.calls k A c l K X cx x v _ (Kd.C_below HR.out HB.out) HC.out (Kd.C_below HX.out HB.out) HCX.out H.out).mono ?_); rintro e w2 ⟨rfl, hb2⟩; have HB2 := Aside0.mk hb2; clear hb2))
  go_ret
  exact ⟨rfl, below_step HB.out HB2.out⟩
set_option maxHeartbeats 4000000 in
set_option maxRecDepth 100000 in
theorem holds2.calls (k : Nat) (A : Option Addr) (c : Nat) (l : List Int) (K : Int) (X : Option Addr) (cx : Nat) (x : List Int) (g : Nat) (v : Int) (w : World) (hr : Kd.C (Kd.int .i64) w A l.length l) (hc : l.length ≤ c) (hx : Kd.C (Kd.int .i64) w X x.length x) (hcx : x.length ≤ cx) (hg : w.cell? ⟨g, 0, none⟩ = some (.slice X x.length cx)) (h : sys_of.f k l K x = some v) :
    Calls Tryd.prog 46 #[.agg #[.slice A l.length c, .int .i64 K], .pointer (some ⟨g, 0, none⟩)] w fun e w' => e = .returned (.bool (decide (v < 0))) ∧ Below w.heap.size w w' := by
  have HR := Aside0.mk hr
  have HC := Aside0.mk hc
  have HX := Aside0.mk hx
  have HCX := Aside0.mk hcx
  have HG := Aside0.mk hg
  have H := Aside0.mk h
  clear hr hc hx hcx hg h
  have hu := Tryd.underlying59
  go_enter Tryd.func46, Tryd.ntmps46
  go_wp2_with (first | ((with_reducible refine gate_dst (N := 2) rfl ?_); refine box_event ?hg (N := 2) ?hd (cs := #[.slice A l.length c, .int .i64 K]) (t := 59) ?hr ?_; (case hd => rfl); (case hg => rfl); (case hr => first | (go_simp; done) | (go_simp; rfl)); intro gb hgb w1 hbox hb; have hcz0 : w1.cell? ⟨gb, 0, none⟩ = some (.slice A l.length c) := (blk_cell hbox 0).trans rfl; have hcz1 : w1.cell? ⟨gb, 1, none⟩ = some (.int .i64 K) := (blk_cell hbox 1).trans rfl; have hg1 := (hb.cell (World.block_lt_of_cell? w _ HG.out)).trans HG.out; have HB := Aside0.mk hb; clear hb hbox hgb) | (go_at_call 45; (refine (sys_of.calls k A c l K X cx x v _ (Kd.C_below HR.out HB.out) HC.out (Kd.C_below HX.out HB.out) HCX.out H.out).mono ?_); rintro e w2 ⟨rfl, hb2⟩; have HB2 := Aside0.mk hb2; clear hb2))
  go_ret
  exact ⟨rfl, below_step HB.out HB2.out⟩
/-- Where the first form stands that is told. -/
def idxF (G : List Int → Int → Option Bool) : Nat → List S59 → Int → Option Int
  | 0, _, _ => none
  | k + 1, l, i => if i < (l.length : Int) then (if 0 ≤ i then (G (rd_T59 l i).f0 (rd_T59 l i).f1).bind fun b => if b = true then some i else idxF G k l (wrap64 (i + 1)) else none) else some (-1)
set_option maxHeartbeats 4000000 in
set_option maxRecDepth 100000 in
theorem idxF.calls (G : List Int → Int → Option Bool) (k : Nat) (A0 : Option Addr) (c0 : Nat) (l0 : List S59) (r : Int) (w : World) (fg : Nat) (lb : Array Value) (eg : ∀ args W, (callFunc fg args).run Tryd.prog W = .ok (.enter fg args) W)
    (hGG : ∀ (A : Option Addr) (c : Nat) (a : List Int) (K : Int) (r0 : Bool) (W : World), Below w.heap.size w W → Kd.C (Kd.int .i64) W A a.length a → a.length ≤ c → G a K = some r0 → Calls Tryd.prog fg (#[.agg #[.slice A a.length c, .int .i64 K]] ++ lb) W fun e w' => e = .returned (.bool r0) ∧ Below W.heap.size W w')
    (hr0 : Kd.C k59 w A0 l0.length l0) (hc0 : l0.length ≤ c0) (h : idxF G k l0 0 = some r) :
    Calls Tryd.prog 63 #[.slice A0 l0.length c0, .func (.func fg) #[] lb] w fun e w' => e = .returned (.int .i64 r) ∧ Below w.heap.size w w' := by
  have HGG := Aside0.mk hGG
  have HR0 := Aside0.mk hr0
  have HC0 := Aside0.mk hc0
  have HB := Aside0.mk (Below.refl w.heap.size w)
  have H' := Aside0.mk h
  clear hGG hr0 hc0 h
  have hu := Tryd.underlying59
  go_enter Tryd.func63, Tryd.ntmps63
  go_wp2
  go_loopg [8] k (fun kq v8 w' => ∃ (x8_1 : Int), v8 = .int .i64 x8_1 ∧ Aside0 (idxF G kq l0 x8_1 = some r) ∧ Aside0 (kq ≤ k) ∧ Aside0 (Below w.heap.size w w'))
  case atStart => exact ⟨(0), rfl, H', ⟨Nat.le_refl _⟩, HB⟩
  case round =>
    clear H'
    obtain ⟨x8_1, rfl, HA, HK1, HB⟩ := hrel
    cases gk with
    | zero => exact absurd HA.out (by simp [idxF])
    | succ k1 =>
      have H := HA.out
      clear HA
      simp only [idxF] at H
      by_cases c2 : x8_1 < (l0.length : Int)
      · rw [if_pos c2] at H
        by_cases c3 : 0 ≤ x8_1
        · rw [if_pos c3] at H
          obtain ⟨b, hb, H⟩ := Option.bind_eq_some_iff.mp H
          have A5 := Aside0.mk hb
          clear hb
          obtain ⟨ad, Ai, ci, ead, hy0, hy1, hlc, hrow⟩ := at_T59 HR0.out x8_1 c3 c2
          subst ead
          have HLC := Aside0.mk hlc
          have HROW := Aside0.mk (Kd.C_below hrow HB.out)
          clear hlc hrow
          replace hy0 := (HB.out.cell (World.block_lt_of_cell? w _ hy0)).trans hy0
          replace hy1 := (HB.out.cell (World.block_lt_of_cell? w _ hy1)).trans hy1
          have c2b0 : decide (x8_1 < (l0.length : Int)) = true := decide_eq_true c2
          have p1 := eq_true c3
          have q1 := eq_true c2
          clear c2 c3
          cases b with
          | true =>
            rw [if_pos rfl] at H
            obtain rfl := Option.some.inj H
            clear H
            go_wp2_with (first | (go_at_fn fg; (refine (HGG.out Ai ci _ _ true _ HB.out HROW.out HLC.out A5.out).mono ?_); rintro e w7 ⟨rfl, hb⟩; have n0_ := Aside0.mk (below_step HB.out hb); clear HB hb; have HB := n0_; clear n0_))
            go_ret
            exact ⟨rfl, HB.out⟩
          | false =>
            rw [if_neg (by decide)] at H
            have H' := Aside0.mk H
            clear H
            go_wp2_with (first | (go_at_fn fg; (refine (HGG.out Ai ci _ _ false _ HB.out HROW.out HLC.out A5.out).mono ?_); rintro e w7 ⟨rfl, hb⟩; have n0_ := Aside0.mk (below_step HB.out hb); clear HB hb; have HB := n0_; clear n0_))
            go_roundg k1
            case measure => have := HK1.out; omega
            case rel => exact ⟨_, rfl, H', ⟨by have := HK1.out; omega⟩, HB⟩
        · rw [if_neg c3] at H; cases H
      · rw [if_neg c2] at H
        have c2b0 : decide (x8_1 < (l0.length : Int)) = false := decide_eq_false c2
        clear c2
        obtain rfl := Option.some.inj H
        clear H
        go_wp2
        go_ret
        exact ⟨rfl, HB.out⟩
set_option maxHeartbeats 4000000 in
set_option maxRecDepth 100000 in
theorem anyF.calls (G : List Int → Int → Option Bool) (k : Nat) (A0 : Option Addr) (c0 : Nat) (l0 : List S59) (i : Int) (w : World) (fg : Nat) (lb : Array Value) (eg : ∀ args W, (callFunc fg args).run Tryd.prog W = .ok (.enter fg args) W)
    (hGG : ∀ (A : Option Addr) (c : Nat) (a : List Int) (K : Int) (r0 : Bool) (W : World), Below w.heap.size w W → Kd.C (Kd.int .i64) W A a.length a → a.length ≤ c → G a K = some r0 → Calls Tryd.prog fg (#[.agg #[.slice A a.length c, .int .i64 K]] ++ lb) W fun e w' => e = .returned (.bool r0) ∧ Below W.heap.size W w')
    (hr0 : Kd.C k59 w A0 l0.length l0) (hc0 : l0.length ≤ c0) (h : idxF G k l0 0 = some i) :
    Calls Tryd.prog 43 #[.slice A0 l0.length c0, .func (.func fg) #[] lb] w fun e w' => e = .returned (.bool (decide (i ≥ 0))) ∧ Below w.heap.size w w' := by
  have HGG := Aside0.mk hGG
  have HR0 := Aside0.mk hr0
  have HC0 := Aside0.mk hc0
  have H := Aside0.mk h
  clear hGG hr0 hc0 h
  go_enter Tryd.func43, Tryd.ntmps43
  go_wp2_with (go_at_call 63; (refine (idxF.calls G k A0 c0 l0 i _ fg lb eg HGG.out HR0.out HC0.out H.out).mono ?_); rintro e w1 ⟨rfl, hb⟩; have HB := Aside0.mk hb; clear hb)
  go_ret
  exact ⟨rfl, HB.out⟩
def isNot (k : Nat) (x : List Int) (a : List Int) (K : Int) : Option Bool := (sys_of.f k a K x).bind fun v => some (v != 0)
def isNeg (k : Nat) (x : List Int) (a : List Int) (K : Int) : Option Bool := (sys_of.f k a K x).bind fun v => some (decide (v < 0))
def sys_Holds.f (k : Nat) (a0_0 : Int) (l0_1 : List S59) (l0_2 : List S59) (l1 : List Int) : Option Bool :=
  (idxF (isNot k l1) k l0_1 0).bind fun i => if i ≥ 0 then some false else (idxF (isNeg k l1) k l0_2 0).bind fun j => some (!(decide (j ≥ 0)))
theorem idxF.mono {G H : List Int → Int → Option Bool} (hG : ∀ a K, LeO (G a K) (H a K)) : ∀ (k : Nat) (l : List S59) (i : Int), LeO (idxF G k l i) (idxF H (k + 1) l i)
  | 0, l, i => fun r h => by simp [idxF] at h
  | k + 1, l, i => by
    unfold idxF
    refine LeO.ite (LeO.ite (LeO.bind (hG _ _) (fun b => LeO.ite (LeO.refl _) (idxF.mono hG k l _))) (LeO.none _)) (LeO.refl _)
theorem sys_Holds.mono (a0 : Int) (a1 a2 : List S59) (a3 : List Int) (k : Nat) : LeO (sys_Holds.f k a0 a1 a2 a3) (sys_Holds.f (k + 1) a0 a1 a2 a3) := by
  unfold sys_Holds.f
  refine LeO.bind (idxF.mono (fun a K => LeO.bind (sys_of.mono _ _ _ k) (fun _ => LeO.refl _)) k _ _) (fun i => LeO.ite (LeO.refl _) (LeO.bind (idxF.mono (fun a K => LeO.bind (sys_of.mono _ _ _ k) (fun _ => LeO.refl _)) k _ _) (fun _ => LeO.refl _)))
set_option maxHeartbeats 4000000 in
set_option maxRecDepth 100000 in
theorem sys_Holds.calls (k : Nat) (a0_0 : Int) (A0_1 : Option Addr) (c0_1 : Nat) (l0_1 : List S59) (A0_2 : Option Addr) (c0_2 : Nat) (l0_2 : List S59) (A1 : Option Addr) (c1 : Nat) (l1 : List Int) (r : Bool) (w : World) (hr0_1 : Kd.C k59 w A0_1 l0_1.length l0_1) (hc0_1 : l0_1.length ≤ c0_1) (hr0_2 : Kd.C k59 w A0_2 l0_2.length l0_2) (hc0_2 : l0_2.length ≤ c0_2) (hr1 : Kd.C (Kd.int .i64) w A1 l1.length l1) (hc1 : l1.length ≤ c1) (h : sys_Holds.f k a0_0 l0_1 l0_2 l1 = some r) :
    Calls Tryd.prog 17 #[.agg #[.int .i64 a0_0, .slice A0_1 l0_1.length c0_1, .slice A0_2 l0_2.length c0_2], .slice A1 l1.length c1] w fun e w' => e = .returned (.bool r) ∧ Below w.heap.size w w' := by
  obtain ⟨i, hi, h⟩ := Option.bind_eq_some_iff.mp h
  have HI := Aside0.mk hi
  have HR0 := Aside0.mk hr0_1
  have HC0 := Aside0.mk hc0_1
  have HR1 := Aside0.mk hr0_2
  have HC1 := Aside0.mk hc0_2
  have HR2 := Aside0.mk hr1
  have HC2 := Aside0.mk hc1
  clear hi hr0_1 hc0_1 hr0_2 hc0_2 hr1 hc1
  have hu := Tryd.underlying24
  by_cases c : i ≥ 0
  · rw [if_pos c] at h
    have cb : decide (0 ≤ i) = true := decide_eq_true c
    obtain rfl := Option.some.inj h
    clear h c
    go_enter Tryd.func17, Tryd.ntmps17
    go_wp2_with (first | ((with_reducible refine gate_dst (N := 2) rfl ?_); refine box_event ?hg (N := 2) ?hd (cs := #[.int .i64 a0_0, .slice A0_1 l0_1.length c0_1, .slice A0_2 l0_2.length c0_2]) (t := 24) ?hr ?_; (case hd => rfl); (case hg => rfl); (case hr => first | (go_simp; done) | (go_simp; rfl)); intro ga hga w1 hbox hb; have BA := Aside0.mk hbox; have HB := Aside0.mk hb; clear hb hbox hga) | ((with_reducible refine gate_dst (N := 3) rfl ?_); refine box_event ?hg (N := 3) ?hd (cs := #[.slice A1 l1.length c1]) (t := 44) ?hr ?_; (case hd => rfl); (case hg => rfl); (case hr => first | (go_simp; done) | (go_simp; rfl)); intro gx hgx w2 hbox hb; have BX := Aside0.mk hbox; have BA2 := Aside0.mk (blk_below BA.out hb); have n0_ := Aside0.mk (below_step HB.out hb); clear HB hb hbox hgx BA; have HB := n0_; clear n0_; have hz1 : w2.cell? ⟨ga, 1, none⟩ = some (.slice A0_1 l0_1.length c0_1) := (blk_cell BA2.out 1).trans rfl; have hz2 : w2.cell? ⟨ga, 2, none⟩ = some (.slice A0_2 l0_2.length c0_2) := (blk_cell BA2.out 2).trans rfl; have HX := Aside0.mk (show w2.cell? ⟨gx, 0, none⟩ = some (.slice A1 l1.length c1) from (blk_cell BX.out 0).trans rfl)) | (go_at_call 43; (refine (anyF.calls (isNot k l1) k A0_1 c0_1 l0_1 i _ 44 #[.pointer (some ⟨gx, 0, none⟩)] (fun args W => rfl) (fun A c a K r0 W hW hrow hlen hg => by (obtain ⟨v, hv, hv2⟩ := Option.bind_eq_some_iff.mp hg; obtain rfl := Option.some.inj hv2; exact holds1.calls k A c a K A1 c1 l1 gx v W hrow hlen (Kd.C_below HR2.out (below_step HB.out hW)) HC2.out ((hW.cell (World.block_lt_of_cell? _ _ HX.out)).trans HX.out) hv)) (Kd.C_below HR0.out HB.out) HC0.out HI.out).mono ?_); rintro e w3 ⟨rfl, hb⟩; have n0_ := Aside0.mk (below_step HB.out hb); have HX3 := Aside0.mk ((hb.cell (World.block_lt_of_cell? _ _ HX.out)).trans HX.out); have hz3 := (hb.cell (World.block_lt_of_cell? _ _ hz2)).trans hz2; clear HB hb; have HB3 := n0_; clear n0_))
    go_ret
    exact ⟨rfl, HB3.out⟩
  · rw [if_neg c] at h
    obtain ⟨j, hj, h⟩ := Option.bind_eq_some_iff.mp h
    have HJ := Aside0.mk hj
    have cb : decide (0 ≤ i) = false := decide_eq_false c
    obtain rfl := Option.some.inj h
    clear h c hj
    go_enter Tryd.func17, Tryd.ntmps17
    go_wp2_with (first | ((with_reducible refine gate_dst (N := 2) rfl ?_); refine box_event ?hg (N := 2) ?hd (cs := #[.int .i64 a0_0, .slice A0_1 l0_1.length c0_1, .slice A0_2 l0_2.length c0_2]) (t := 24) ?hr ?_; (case hd => rfl); (case hg => rfl); (case hr => first | (go_simp; done) | (go_simp; rfl)); intro ga hga w1 hbox hb; have BA := Aside0.mk hbox; have HB := Aside0.mk hb; clear hb hbox hga) | ((with_reducible refine gate_dst (N := 3) rfl ?_); refine box_event ?hg (N := 3) ?hd (cs := #[.slice A1 l1.length c1]) (t := 44) ?hr ?_; (case hd => rfl); (case hg => rfl); (case hr => first | (go_simp; done) | (go_simp; rfl)); intro gx hgx w2 hbox hb; have BX := Aside0.mk hbox; have BA2 := Aside0.mk (blk_below BA.out hb); have n0_ := Aside0.mk (below_step HB.out hb); clear HB hb hbox hgx BA; have HB := n0_; clear n0_; have hz1 : w2.cell? ⟨ga, 1, none⟩ = some (.slice A0_1 l0_1.length c0_1) := (blk_cell BA2.out 1).trans rfl; have hz2 : w2.cell? ⟨ga, 2, none⟩ = some (.slice A0_2 l0_2.length c0_2) := (blk_cell BA2.out 2).trans rfl; have HX := Aside0.mk (show w2.cell? ⟨gx, 0, none⟩ = some (.slice A1 l1.length c1) from (blk_cell BX.out 0).trans rfl)) | (go_at_call 43; (refine (anyF.calls (isNot k l1) k A0_1 c0_1 l0_1 i _ 44 #[.pointer (some ⟨gx, 0, none⟩)] (fun args W => rfl) (fun A c a K r0 W hW hrow hlen hg => by (obtain ⟨v, hv, hv2⟩ := Option.bind_eq_some_iff.mp hg; obtain rfl := Option.some.inj hv2; exact holds1.calls k A c a K A1 c1 l1 gx v W hrow hlen (Kd.C_below HR2.out (below_step HB.out hW)) HC2.out ((hW.cell (World.block_lt_of_cell? _ _ HX.out)).trans HX.out) hv)) (Kd.C_below HR0.out HB.out) HC0.out HI.out).mono ?_); rintro e w3 ⟨rfl, hb⟩; have n0_ := Aside0.mk (below_step HB.out hb); have HX3 := Aside0.mk ((hb.cell (World.block_lt_of_cell? _ _ HX.out)).trans HX.out); have hz3 := (hb.cell (World.block_lt_of_cell? _ _ hz2)).trans hz2; clear HB hb; have HB3 := n0_; clear n0_) | (go_at_call 43; (refine (anyF.calls (isNeg k l1) k A0_2 c0_2 l0_2 j _ 46 #[.pointer (some ⟨gx, 0, none⟩)] (fun args W => rfl) (fun A c a K r0 W hW hrow hlen hg => by (obtain ⟨v, hv, hv2⟩ := Option.bind_eq_some_iff.mp hg; obtain rfl := Option.some.inj hv2; exact holds2.calls k A c a K A1 c1 l1 gx v W hrow hlen (Kd.C_below HR2.out (below_step HB3.out hW)) HC2.out ((hW.cell (World.block_lt_of_cell? _ _ HX3.out)).trans HX3.out) hv)) (Kd.C_below HR1.out HB3.out) HC1.out HJ.out).mono ?_); rintro e w4 ⟨rfl, hb⟩; have HB4 := Aside0.mk (below_step HB3.out hb); clear hb))
    go_ret
    exact ⟨rfl, HB4.out⟩
end Go.Proofs.YtkkpgjkjkcmcbaaDoor.H
