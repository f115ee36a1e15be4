/- furrow/lin.each: its walk, for any function value that it is handed. -/
import Derived.Test.YtnkckdbjeemjeaaDoorProg
import Derived.Below
import Derived.Deep.Draws
import Derived.Deep.AppendLies
import Derived.Maps.AppendAt
import Derived.OwnWalk
import Derived.Laws.BytesArg
import Derived.Laws.MakeOwn
import Derived.Laws.OwnMore
import Derived.Deep.OwnRows
import Derived.Tactics
import Derived.Lib.ConvBytes
import Derived.Laws.Slices
import Derived.WalkKit
import Derived.KernelRfl
import Derived.RowKit3
import Derived.Deep.LoopGhost
import Derived.Deep.QuietTactic
import Derived.BigQuiet
import Derived.WideLaws
import Derived.Deep.DeepCutAuto
import Derived.Deep.CutBlock
import Derived.Deep.RegionHeld3
import Derived.Laws.Rows
import Derived.Lib.AppendStr
import Derived.ArgAppend
import Derived.Laws.IdiomCopy
import Derived.OrdersHeld
import Derived.Laws.BitsLemmas
import Derived.RowKit
import Derived.Test.YtnkckdbjeemjeaaDoorFlt
import Derived.Test.YtnkckdbjeemjeaaDoorWWords
import Derived.Test.YtnkckdbjeemjeaaDoorWLast
import Derived.Test.YtnkckdbjeemjeaaDoorWTab
import Derived.Test.YtnkckdbjeemjeaaDoorWApart
import Derived.Test.YtnkckdbjeemjeaaDoorWFoot
import Derived.Test.YtnkckdbjeemjeaaDoorWKept
import Derived.Test.YtnkckdbjeemjeaaDoorWShare
import Derived.Test.YtnkckdbjeemjeaaDoorWN
import Derived.Test.YtnkckdbjeemjeaaDoorWAt
import Derived.Laws.StructEq
import Derived.Test.YtnkckdbjeemjeaaDoorWRepsOne
import Derived.Test.YtnkckdbjeemjeaaDoorWInv
import Derived.Test.YtnkckdbjeemjeaaDoorWGuard
import Derived.Test.YtnkckdbjeemjeaaDoorWNEv
import Derived.Test.YtnkckdbjeemjeaaDoorWMore
import Derived.Shelf.Abstract
import Derived.Test.YtnkckdbjeemjeaaDoorHandF
import Derived.Test.YtnkckdbjeemjeaaDoorSq
namespace Go.Proofs.YtnkckdbjeemjeaaDoor.H
open Go.Proofs.YtnkckdbjeemjeaaDoor.Flt Go.RowKit Go.Proofs.YtnkckdbjeemjeaaDoorW.PrintWords Go.Proofs.YtnkckdbjeemjeaaDoorW.PrintLast Go.Proofs.YtnkckdbjeemjeaaDoorW.PrintMore
attribute [local go_sem] max2_int min2_int max_two min_two max_three min_three max_four min_four
set_option linter.unusedVariables false
set_option linter.unusedSimpArgs false
theorem info2 : (Tryd.prog.info? 2).map (fun i => (i.zero, i.size, i.bytes)) = some (some (.int .i64 0), 1, 8) := by kernel_rfl
/-- A function value's answers. -/
structure CloA where
 f : Int → Option (Int × Bool)
section
variable (GG : CloA)
def lin_each.l0 : Nat → Int → Int → Int → List Int → Int → Option (List Int × Int × (List (Flt)))
 | 0, _, _, _, _, _ => none
 | k + 1, x0, x14, x15, x108000, x108001 => if x15 < x14 then ((GG.f x15).bind fun bt108 => (if bt108.2 = true then (if x15 < x0 then (if 0 ≤ x15 then (if x15 < (x108000.length : Int) then (lin_each.l0 k x0 x14 (wrap64 (x15 + 1)) (x108000.set (x15 : Int).toNat bt108.1) x108001) else (none)) else (none)) else (lin_each.l0 k x0 x14 (wrap64 (x15 + 1)) x108000 bt108.1)) else ((lin_fault.f 5).bind fun t111 => (some (([] : List Int), 0, t111))))) else (some (x108000, x108001, ([] : List (Flt))))
def lin_each.f (k : Nat) (a0 : Int) : Option (List Int × Int × (List (Flt))) := if 0 ≤ a0 then (if (a0 : Int).toNat ≤ 35184372088832 then (lin_each.l0 GG k a0 (wrap64 (a0 + 1)) 0 (List.replicate (a0 : Int).toNat 0) 0) else (none)) else (none)
theorem lin_each.mono_l : ∀ k, (∀ y0 y1 y2 y3 y4, LeO (lin_each.l0 GG k y0 y1 y2 y3 y4) (lin_each.l0 GG (k + 1) y0 y1 y2 y3 y4))
 | 0 => fun _ _ _ _ _ r h => by simp [lin_each.l0] at h
 | k + 1 => by
  have ih0 := lin_each.mono_l k
  ·intro y0 y1 y2 y3 y4
   unfold lin_each.l0
   repeat' first
   | (with_reducible exact ih0 _ _ _ _ _)
   | (with_reducible exact LeO.refl _)
   | (with_reducible exact LeO.none _)
   | (with_reducible refine LeO.ite ?_ ?_)
   | (with_reducible refine LeO.bind ?_ (fun _ => ?_))
   | exact ih0 _ _ _ _ _
   | exact LeO.none _
   | refine LeO.ite ?_ ?_
   | refine LeO.bind ?_ (fun _ => ?_)
theorem lin_each.mono : ∀ a0 k, LeO (lin_each.f GG k a0) (lin_each.f GG (k + 1) a0) := by
 intro a0 k
 have ih0 := lin_each.mono_l GG k
 unfold lin_each.f
 repeat' first
   | (with_reducible exact ih0 _ _ _ _ _)
   | (with_reducible exact LeO.refl _)
   | (with_reducible exact LeO.none _)
   | (with_reducible refine LeO.ite ?_ ?_)
   | (with_reducible refine LeO.bind ?_ (fun _ => ?_))
   | exact ih0 _ _ _ _ _
   | exact LeO.none _
   | refine LeO.ite ?_ ?_
   | refine LeO.bind ?_ (fun _ => ?_)
set_option maxHeartbeats 8000000 in
set_option maxRecDepth 100000 in
theorem lin_each.calls (k : Nat) (a0 : Int) (r1 : List Int) (r2 : Int) (r3 : List (Flt)) (w : World) (fg : Nat) (lb : Array Value) (eg : ∀ args W, (callFunc fg args).run Tryd.prog W = .ok (.enter fg args) W) (hGG : ∀ (a0 : Int) (r0 : Int) (r1 : Bool) (W : World), Below w.heap.size w W → GG.f a0 = some (r0, r1) → Calls Tryd.prog fg (#[.int .i64 a0] ++ lb) W fun e w' => e = .returned (.tuple #[.int .i64 r0, .bool r1]) ∧ Below W.heap.size W w') (h : lin_each.f GG k a0 = some (r1, r2, r3)) :
  Calls Tryd.prog 44 #[.int .i64 a0, .func (.func fg) #[] lb] w fun e w' => ∃ v0_ v2_ : Value, e = .returned (.tuple #[.agg #[v0_, .int .i64 r2], errV v2_]) ∧ Kd.R (Kd.int .i64) 2 w' w.heap.size (fun _ => True) v0_ r1 ∧ Kd.R fltK 62 w' w.heap.size (fun _ => True) v2_ r3 ∧ Below w.heap.size w w' := by
 have HGG := mk0 hGG
 clear hGG
 have hu32 := Tryd.underlying32
 have HB := mk0 (Below.refl w.heap.size w)
 have H : (if 0 ≤ a0 then (if (a0 : Int).toNat ≤ 35184372088832 then (lin_each.l0 GG k a0 (wrap64 (a0 + 1)) 0 (List.replicate (a0 : Int).toNat 0) 0) else (none)) else (none)) = some (r1, r2, r3) := h
 clear h
 by_cases c2 : 0 ≤ a0
 ·rw [if_pos c2] at H
  have c2b0 := eq_true c2; have c2b1 := decide_eq_true c2; clear c2
  by_cases c3 : (a0 : Int).toNat ≤ 35184372088832
  ·rw [if_pos c3] at H
   have c3b0 := eq_true c3; have c3b1 := decide_eq_true c3; clear c3; obtain ⟨y104, hy104⟩ : ∃ y_ : List Int, y_ = (List.replicate (a0 : Int).toNat 0) := ⟨_, rfl⟩; (replace H : (lin_each.l0 GG k a0 (wrap64 (a0 + 1)) 0 y104 0) = some (r1, r2, r3) := by (try rw [hy104]); first | with_reducible exact H | with_reducible exact oN H | exact H); have Ny104 := mk0 hy104; clear hy104; have H' := mk0 H; clear H; go_enter Tryd.func44, Tryd.ntmps44
   go_wp2_with (first | ((with_reducible refine gate_dst (N := 4) rfl ?_); refine bxE 4 #[.slice none 0 0, .int .i64 0] 32 ?_; intro gb103 hg w4 hbox hb; have n0_ := hbB (uL HB.out) hb; have n1_ := mk0 (hbox); have n2_ := gE (uL HB.out) hg; have n3_ := gE (uL HB.out) hg; clear HB; have HB := n0_; have BK103 := n1_; have GW103 := n2_; have GE103 := n3_; clear n0_ n1_ n2_ n3_; clear hb hbox hg) | ((with_reducible refine gate_dst (N := 11) rfl ?_); refine Kd.R_make (Kd.int .i64) _ 2 rfl (N := 11) rfl 30 _ _ rfl a0 rfl rfl Tryd.underlying30 (.int .i64 0) 8 info2 rfl (by decide) (by omega) 0 (ok := fun _ => True) (okp := fun _ => True) rfl (fun _ hk => hk) trivial (dY) (Nat.le_trans (Nat.mul_le_mul_right _ (dY : a0.toNat ≤ 35184372088832)) (by omega)) (Below.refl _ _) (Nat.le_refl _) ?_; intro v105 w5 ho6 hb hg_ hnew_; clear hg_ hnew_; (first | rw [← Ny104.out] at ho6 | (simp only [Int.reduceToNat] at ho6; rw [← Ny104.out] at ho6)); have n0_ := mk0 (Kd.R_lower ho6 (below_size bH)); have n1_ := bB BK103 hb; have n2_ := hbB bH hb; clear BK103 HB; have HO106 := n0_; have BK103 := n1_; have HB := n2_; clear n0_ n1_ n2_; clear hb ho6; obtain ⟨Ao7, co7, eo7⟩ := Kd.R_slice HO106.out; subst eo7) | ((with_reducible refine gate_dst (N := 6) rfl ?_); refine bxE 6 #[.slice none 0 0, .int .i64 0] 32 ?_; intro gb107 hg w8 hbox hb; have n0_ := rB HO106 hb; have n1_ := bB BK103 hb; have n2_ := hbB bH hb; have n3_ := mk0 (hbox); have n4_ := gE bH hg; have n5_ := gE bH hg; have n6_ := nL BK103 hg; have n7_ := nG BK103 hg; clear HO106 BK103 HB; have HO106 := n0_; have BK103 := n1_; have HB := n2_; have BK107 := n3_; have GW107 := n4_; have GE107 := n5_; have NB103_107 := n6_; have NB107_103 := n7_; clear n0_ n1_ n2_ n3_ n4_ n5_ n6_ n7_; clear hb hbox hg; have hnb9 := NB107_103.out; have hnc9 := NB103_107.out; obtain ⟨hcz10_0, hcz10_1, hfz10_0, hfz10_1⟩ := cL2 BK107))
   go_loopg [15] k (fun kq v15 w' => ∃ (x15_1 : Int) (x104001_1 : Int) (x108000_1 : List Int) (x108001_1 : Int) (u108000 : Value), v15 = .int .i64 x15_1 ∧ Aside0 (lin_each.l0 GG kq a0 (wrap64 (a0 + 1)) x15_1 x108000_1 x108001_1 = some (r1, r2, r3)) ∧ Aside0 (kq ≤ k) ∧ Aside0 (Kd.R (Kd.int .i64) 2 w' w.heap.size (fun _ => True) u108000 x108000_1) ∧ Aside0 (w'.heap[gb103]? = some (.cells #[(.slice none 0 0), .int .i64 x104001_1] 32 (0, 0))) ∧ Aside0 (w'.heap[gb107]? = some (.cells #[u108000, .int .i64 x108001_1] 32 (0, 0))) ∧ Aside0 (Below w.heap.size w w'))
   case atStart => exact ⟨(0), (0), (y104), (0), (.slice Ao7 y104.length co7), eK, H', ⟨Nat.le_refl _⟩, ⟨uR (Kd.R_mono (Kd.R_far (p := ⟨gb107, 1, none⟩) (Kd.R_far (p := ⟨gb107, 0, none⟩) (Kd.R_types HO106.out BK107.out (by decide)) (fun _ hk => hk.2) (.slice Ao7 y104.length co7)) (fun _ hk => hk.2) (.int .i64 0)) (fun _ hk => trivial))⟩, ⟨kB⟩, ⟨kB⟩, ⟨bH⟩⟩
   case round =>
    clear H'; (try clear c2 c2b0 c2b1 c3 c3b0 c3b1 hcz10_0 hcz10_1 hfz10_0 hfz10_1); obtain ⟨x15_1, x104001_1, x108000_1, x108001_1, u108000, rfl, HA, HK1, HO_108000, BK103, BK107, HB⟩ := hrel
    cases gk with
    | zero => exact absurd HA.out (by simp [lin_each.l0])
    | succ k1 =>
     have H := HA.out; clear HA; simp only [lin_each.l0] at H
     by_cases c11 : x15_1 < (wrap64 (a0 + 1))
     ·rw [if_pos c11] at H
      have c11b0 := decide_eq_true c11; clear c11; replace H := Option.bind_eq_some_iff.mp H; obtain ⟨⟨t108, t109⟩, A120, H⟩ := H; replace H : (if t109 = true then (if x15_1 < a0 then (if 0 ≤ x15_1 then (if x15_1 < (x108000_1.length : Int) then (lin_each.l0 GG k1 a0 (wrap64 (a0 + 1)) (wrap64 (x15_1 + 1)) (x108000_1.set (x15_1 : Int).toNat t108) x108001_1) else (none)) else (none)) else (lin_each.l0 GG k1 a0 (wrap64 (a0 + 1)) (wrap64 (x15_1 + 1)) x108000_1 t108)) else ((lin_fault.f 5).bind fun t111 => (some (([] : List Int), 0, t111)))) = some (r1, r2, r3) := H; have A12 := mk0 A120; clear A120
      by_cases c13 : t109 = true
      ·subst c13
       replace H := iT H
       by_cases c14 : x15_1 < a0
       ·rw [if_pos c14] at H
        have c14b0 := decide_eq_true c14; clear c14
        by_cases c15 : 0 ≤ x15_1
        ·rw [if_pos c15] at H
         have c15b0 := decide_eq_true c15; clear c15
         by_cases c16 : x15_1 < (x108000_1.length : Int)
         ·rw [if_pos c16] at H
          have c16b0 := decide_eq_true c16; clear c16; obtain ⟨y110, hy110⟩ : ∃ y_ : List Int, y_ = (x108000_1.set (x15_1 : Int).toNat t108) := ⟨_, rfl⟩; (replace H : (lin_each.l0 GG k1 a0 (wrap64 (a0 + 1)) (wrap64 (x15_1 + 1)) y110 x108001_1) = some (r1, r2, r3) := by (try rw [hy110]); first | with_reducible exact H | with_reducible exact oN H | exact H); have Ny110 := mk0 hy110; clear hy110; have H' := mk0 H; clear H
          go_wp2_with (first | (go_at_fn fg; (refine (HGG.out x15_1 _ _ _ (uL HB.out) A12.out).mono ?_); rintro e w18 ⟨rfl, hb⟩; have n0_ := rB HO_108000 hb; have n1_ := bB BK103 hb; have n2_ := bB BK107 hb; have n3_ := hbB bH hb; clear HO_108000 BK103 BK107 HB; have HO_108000 := n0_; have BK103 := n1_; have BK107 := n2_; have HB := n3_; clear n0_ n1_ n2_ n3_; (try clear hb hk); have hnb19 := NB107_103.out; have hnc19 := NB103_107.out; obtain ⟨hcz20_0, hcz20_1, hfz20_0, hfz20_1⟩ := cL2 BK107; have p17 : 0 ≤ (x15_1 : Int) := dY; have q17 : (x15_1 : Int) < ((x108000_1.length : Int) : Int) := dY; obtain ⟨go17, co17, eo17, gb17, gl17, cl17, HG17⟩ := Kd.R_form HO_108000.out (by omega); (first | cases eo17 | (injection eo17 with ea_ en_ ec_; (first | subst ea_ | (injection ea_ with ea_; subst ea_)); subst ec_; clear en_)); have GB17 := mk0 gb17; have GG17 := mk0 HG17; clear gb17 gl17 HG17; obtain ⟨hx17_0, hf17_0⟩ := Kd.R_celln 0 HO_108000.out (x15_1 : Int) p17 q17; replace p17 := eq_true p17; replace q17 := eq_true q17; obtain ⟨hy21_, hz21_⟩ := Kd.R_celln 0 HO_108000.out (x15_1 : Int) (dY) (dY); have HP21 := Kd.R_putg HO_108000.out (x15_1 : Int) t108) | ((with_reducible refine gate_store (t := 2) (p := 35) rfl ?_); refine store_event (t := 2) (p := 35) (v := ?vo_w22) (w1 := (w18.setCell ⟨go17, (x15_1 : Int).toNat, none⟩ (.int .i64 t108))) ?hg ?ho ?hn ?hr ?_; (case ho => rfl); (case hg => rfl); (case hn => rfl); (case hr => first | (go_simp; done) | (go_simp; rfl)); intro w22 hw; have hg : w18.grownBy w22 (some go17) := (by rw [hw]; exact HP21.2); have hp_ : Kd.R (Kd.int .i64) 2 w22 w.heap.size (fun _ => True) (.slice (some ⟨go17, 0, none⟩) x108000_1.length co17) y110 := (by rw [hw, Ny110.out]; exact HP21.1); clear HP21; have n0_ := mk0 (hp_); have n1_ := (gB BK103 hg (Kd.R_ne HO_108000.out BK103.out (by decide))); have n2_ := (gB BK107 hg (Kd.R_ne HO_108000.out BK107.out (by decide))); have n3_ := mk0 ((by rw [hw]; exact below_set (HB.out) GB17.out : Below w.heap.size w w22)); clear HO_108000 BK103 BK107 HB; have HO_108000 := n0_; have BK103 := n1_; have BK107 := n2_; have HB := n3_; clear n0_ n1_ n2_ n3_; clear hg hw hp_))
          go_roundg k1
          case measure => have := HK1.out; omega
          case rel => exact ⟨(wrap64 (x15_1 + 1)), (x104001_1), (y110), (x108001_1), (.slice (some ⟨go17, 0, none⟩) x108000_1.length co17), eK, H', ⟨by have := HK1.out; omega⟩, ⟨uR HO_108000.out⟩, ⟨uB BK103.out⟩, ⟨uB BK107.out⟩, ⟨bH⟩⟩
         ·exact nO H c16
        ·exact nO H c15
       ·rw [if_neg c14] at H
        have c14b0 := decide_eq_false c14; clear c14; have H' := mk0 H; clear H
        go_wp2_with (first | (go_at_fn fg; (refine (HGG.out x15_1 _ _ _ (uL HB.out) A12.out).mono ?_); rintro e w23 ⟨rfl, hb⟩; have n0_ := rB HO_108000 hb; have n1_ := bB BK103 hb; have n2_ := bB BK107 hb; have n3_ := hbB bH hb; clear HO_108000 BK103 BK107 HB; have HO_108000 := n0_; have BK103 := n1_; have BK107 := n2_; have HB := n3_; clear n0_ n1_ n2_ n3_; (try clear hb hk); have hnb24 := NB107_103.out; have hnc24 := NB103_107.out; obtain ⟨hcz25_0, hcz25_1, hfz25_0, hfz25_1⟩ := cL2 BK107))
        go_roundg k1
        case measure => have := HK1.out; omega
        case rel => exact ⟨(wrap64 (x15_1 + 1)), (x104001_1), (x108000_1), (t108), (u108000), eK, H', ⟨by have := HK1.out; omega⟩, ⟨uR (Kd.R_mono (Kd.R_far (p := ⟨gb107, 1, none⟩) (Kd.R_types HO_108000.out BK107.out (by decide)) (fun _ hk => hk.2) (.int .i64 t108)) (fun _ hk => trivial))⟩, ⟨kB⟩, ⟨kB⟩, ⟨bH⟩⟩
      ·replace c13 := Bool.eq_false_iff.mpr c13
       subst c13; replace H := iF H; replace H := Option.bind_eq_some_iff.mp H; obtain ⟨t111, A260, H⟩ := H; replace H : (some (([] : List Int), 0, t111)) = some (r1, r2, r3) := H; have A26 := mk0 A260; clear A260; simp only [Option.some.injEq, Prod.mk.injEq] at H; obtain ⟨rfl, rfl, rfl⟩ := H
       go_wp2_with (first | (go_at_fn fg; (refine (HGG.out x15_1 _ _ _ (uL HB.out) A12.out).mono ?_); rintro e w27 ⟨rfl, hb⟩; have n0_ := rB HO_108000 hb; have n1_ := bB BK103 hb; have n2_ := bB BK107 hb; have n3_ := hbB bH hb; clear HO_108000 BK103 BK107 HB; have HO_108000 := n0_; have BK103 := n1_; have BK107 := n2_; have HB := n3_; clear n0_ n1_ n2_ n3_; (try clear hb hk); ) | ((with_reducible refine gate_dst (N := 27) rfl ?_); refine gsM (some 27) Tryd.func49 #[.int .i64 5] ?_; (with_reducible refine (lin_fault.calls 5 t111 _ A26.out).mono ?_); rintro e w28 ⟨v112, rfl, ho0, hb⟩; refine ⟨_, rfl, ?_⟩; have n0_ := rB HO_108000 hb; have n1_ := mk0 (Kd.R_lower ho0 (below_size bH)); have n2_ := bB BK103 hb; have n3_ := bB BK107 hb; have n4_ := hbB bH hb; clear HO_108000 BK103 BK107 HB; have HO_108000 := n0_; have HO113 := n1_; have BK103 := n2_; have BK107 := n3_; have HB := n4_; clear n0_ n1_ n2_ n3_ n4_; (try clear hb hk ho0); (first | (have EHO113 := cmpV_no HO113.out (by with_reducible assumption)) | (have EHO113 := cmpV_yes HO113.out (by with_reducible assumption)) | skip); have hnb29 := NB103_107.out; have hnc29 := NB107_103.out; obtain ⟨hcz30_0, hcz30_1, hfz30_0, hfz30_1⟩ := cL2 BK103))
       refine bodyPost_ret (results_ct rfl _ _ gb103 32 #[.slice none 0 0, .int .i64 0] (0, 0) _ rfl (kB) Tryd.underlying32 rfl (by kernel_rfl)) rfl ?_; exact ⟨_, (v112), rE, nK, uR (Kd.R_mono (Kd.R_far (p := ⟨gb103, 1, none⟩) (Kd.R_far (p := ⟨gb103, 0, none⟩) (Kd.R_types HO113.out BK103.out (by decide)) (fun _ hk => hk.2) (.slice none 0 0)) (fun _ hk => hk.2) (.int .i64 0)) (fun _ hk => trivial)), bH⟩
     ·rw [if_neg c11] at H
      have c11b0 := decide_eq_false c11; clear c11; simp only [Option.some.injEq, Prod.mk.injEq] at H; obtain ⟨rfl, rfl, rfl⟩ := H; have hnb31 := NB107_103.out; have hnc31 := NB103_107.out; obtain ⟨hcz32_0, hcz32_1, hfz32_0, hfz32_1⟩ := cL2 BK107; obtain ⟨Ao33, co33, eo33⟩ := Kd.R_slice HO_108000.out; subst eo33; obtain ⟨hcz34_0, hcz34_1, hfz34_0, hfz34_1⟩ := cL2 BK103; go_wp2; refine bodyPost_ret (results_ct rfl _ _ gb103 32 #[.slice Ao33 x108000_1.length co33, .int .i64 x108001_1] (0, 0) _ rfl (kB) Tryd.underlying32 rfl (by kernel_rfl)) rfl ?_; exact ⟨_, (.slice none 0 0), rE, uR (Kd.R_mono (Kd.R_far (p := ⟨gb103, 1, none⟩) (Kd.R_far (p := ⟨gb103, 0, none⟩) (Kd.R_types HO_108000.out BK103.out (by decide)) (fun _ hk => hk.2) (.slice Ao33 x108000_1.length co33)) (fun _ hk => hk.2) (.int .i64 x108001_1)) (fun _ hk => trivial)), nK, bH⟩
  ·exact nO H c3
 ·exact nO H c2
end
end Go.Proofs.YtnkckdbjeemjeaaDoor.H
