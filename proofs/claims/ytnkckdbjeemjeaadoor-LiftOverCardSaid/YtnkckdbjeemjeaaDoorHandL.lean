/- lin.Add and lin.Scale: walked by way of lin.each, with the closures that they hand to it; no conditions. -/
import Derived.Test.YtnkckdbjeemjeaaDoorXx0
import Derived.Deep.RegionHeld3
import Derived.Test.YtnkckdbjeemjeaaDoorHandF
import Derived.Test.YtnkckdbjeemjeaaDoorSq
import Derived.Test.YtnkckdbjeemjeaaDoorXx1
import Derived.Test.YtnkckdbjeemjeaaDoorHandC
namespace Go.Proofs.YtnkckdbjeemjeaaDoor.H
open Go.Proofs.YtnkckdbjeemjeaaDoor.Flt Go.RowKit Go.Proofs.YtnkckdbjeemjeaaDoorW.PrintWords Go.Proofs.YtnkckdbjeemjeaaDoorW.PrintLast Go.Proofs.YtnkckdbjeemjeaaDoorW.PrintMore
open Go.Proofs.YtnkckdbjeemjeaaDoor.X (lin_Form_part.f lin_Form_part.calls num_Add.f num_Add.calls num_Mul.f num_Mul.calls)

/-- A form in a box. -/
def BoxAt (w : World) (g : Nat) (A : Option Addr) (c : Nat) (l : List Int) (k : Int) : Prop :=
 w.cell? ⟨g, 0, none⟩ = some (.slice A l.length c) ∧ w.cell? ⟨g, 1, none⟩ = some (.int .i64 k) ∧ Kd.C (Kd.int .i64) w A l.length l ∧ l.length ≤ c ∧ g < w.heap.size
theorem BoxAt.below {w W : World} {g : Nat} {A : Option Addr} {c : Nat} {l : List Int} {k : Int} (h : BoxAt w g A c l k) (hb : Below w.heap.size w W) : BoxAt W g A c l k :=
 ⟨(hb.cell (p := ⟨g, 0, none⟩) h.2.2.2.2).trans h.1, (hb.cell (p := ⟨g, 1, none⟩) h.2.2.2.2).trans h.2.1, Kd.C_below h.2.2.1 hb, h.2.2.2.1, Nat.lt_of_lt_of_le h.2.2.2.2 hb.size⟩
theorem BoxAt.of_blk {W : World} {g : Nat} {A : Option Addr} {c : Nat} {l : List Int} {k : Int} (h : W.heap[g]? = some (.cells #[.slice A l.length c, .int .i64 k] 32 (0, 0))) (hC : Kd.C (Kd.int .i64) W A l.length l) (hl : l.length ≤ c) : BoxAt W g A c l k :=
 ⟨(blk_cell h 0).trans rfl, (blk_cell h 1).trans rfl, hC, hl, blk_lt h⟩
set_option maxHeartbeats 4000000 in
set_option maxRecDepth 100000 in
theorem lin_Add_1.calls (i : Int) (ga gb : Nat) (A B : Option Addr) (ca cb : Nat) (la lb : List Int) (ka kb : Int) (x y r1 : Int) (r2 : Bool) (w : World)
  (ha : BoxAt w ga A ca la ka) (hb : BoxAt w gb B cb lb kb) (hx : lin_Form_part.f la ka i = some x) (hy : lin_Form_part.f lb kb i = some y) (h : num_Add.f x y = some (r1, r2)) :
  Calls Tryd.prog 50 #[.int .i64 i, .pointer (some ⟨ga, 0, none⟩), .pointer (some ⟨gb, 0, none⟩)] w fun e w' => e = .returned (.tuple #[.int .i64 r1, .bool r2]) ∧ Below w.heap.size w w' := by
 have HA := mk0 ha
 have HB := mk0 hb
 have HX := mk0 hx
 have HY := mk0 hy
 have HH := mk0 h
 clear ha hb hx hy h
 have hu := Tryd.underlying32
 go_enter Tryd.func50, Tryd.ntmps50
 go_wp2
 have KS := mk0 (fun (W : World) (h : Aside0 (Below w.heap.size w W)) => (⟨(HA.out.below h.out).1, (HA.out.below h.out).2.1, (HB.out.below h.out).1, (HB.out.below h.out).2.1, h⟩ : W.cell? ⟨ga, 0, none⟩ = some (.slice A la.length ca) ∧ W.cell? ⟨ga, 1, none⟩ = some (.int .i64 ka) ∧ W.cell? ⟨gb, 0, none⟩ = some (.slice B lb.length cb) ∧ W.cell? ⟨gb, 1, none⟩ = some (.int .i64 kb) ∧ Aside0 (Below w.heap.size w W)))
 have CA := mk0 HA.out.2.2.1
 have CB := mk0 HB.out.2.2.1
 have LA := mk0 HA.out.2.2.2.1
 have LB := mk0 HB.out.2.2.2.1
 have KD : Aside0 (Below w.heap.size w w.drew) := ⟨(Below.refl _ _).drew⟩
 go_region_held3 (fun w_ => w_.cell? ⟨ga, 0, none⟩ = some (.slice A la.length ca) ∧ w_.cell? ⟨ga, 1, none⟩ = some (.int .i64 ka) ∧ w_.cell? ⟨gb, 0, none⟩ = some (.slice B lb.length cb) ∧ w_.cell? ⟨gb, 1, none⟩ = some (.int .i64 kb) ∧ Aside0 (Below w.heap.size w w_)) (first | exact KS.out _ KD | exact KS.out _ (by assumption))
  (first | (go_at_call 47; (with_reducible refine (lin_Form_part.calls A ca la ka i x _ (Kd.C_below CA.out (Aside0.out (by assumption))) LA.out HX.out).mono ?_); rintro e w1 ⟨rfl, hb⟩; have hbn := mk0 ((Aside0.out (by assumption : Aside0 (Below w.heap.size w _))).trans (hb.mono (Aside0.out (by assumption : Aside0 (Below w.heap.size w _))).size)); clear hb) | (go_at_call 47; (with_reducible refine (lin_Form_part.calls B cb lb kb i y _ (Kd.C_below CB.out (Aside0.out (by assumption))) LB.out HY.out).mono ?_); rintro e w1 ⟨rfl, hb⟩; have hbn := mk0 ((Aside0.out (by assumption : Aside0 (Below w.heap.size w _))).trans (hb.mono (Aside0.out (by assumption : Aside0 (Below w.heap.size w _))).size)); clear hb) | (go_at_call 51; (with_reducible refine (num_Add.calls x y r1 r2 _ HH.out).mono ?_); rintro e w1 ⟨rfl, ⟨nd, rfl⟩⟩; have hbn := mk0 (pw_below_drewN (Aside0.out (by assumption : Aside0 (Below w.heap.size w _))) nd)))
 go_wp2
 go_ret2
 exact ⟨rfl, Aside0.out (by assumption)⟩
set_option maxHeartbeats 4000000 in
set_option maxRecDepth 100000 in
theorem lin_Scale_1.calls (i : Int) (ga gb : Nat) (A : Option Addr) (ca : Nat) (la : List Int) (ka kk : Int) (x r1 : Int) (r2 : Bool) (w : World)
  (ha : BoxAt w ga A ca la ka) (hb : w.cell? ⟨gb, 0, none⟩ = some (.int .i64 kk) ∧ gb < w.heap.size) (hx : lin_Form_part.f la ka i = some x) (h : num_Mul.f 3 x kk = some (r1, r2)) :
  Calls Tryd.prog 45 #[.int .i64 i, .pointer (some ⟨ga, 0, none⟩), .pointer (some ⟨gb, 0, none⟩)] w fun e w' => e = .returned (.tuple #[.int .i64 r1, .bool r2]) ∧ Below w.heap.size w w' := by
 have HA := mk0 ha
 have HB := mk0 hb
 have HX := mk0 hx
 have HH := mk0 h
 clear ha hb hx h
 have hu := Tryd.underlying32
 go_enter Tryd.func45, Tryd.ntmps45
 go_wp2
 have KS := mk0 (fun (W : World) (h : Aside0 (Below w.heap.size w W)) => (⟨(HA.out.below h.out).1, (HA.out.below h.out).2.1, (h.out.cell (p := ⟨gb, 0, none⟩) HB.out.2).trans HB.out.1, h⟩ : W.cell? ⟨ga, 0, none⟩ = some (.slice A la.length ca) ∧ W.cell? ⟨ga, 1, none⟩ = some (.int .i64 ka) ∧ W.cell? ⟨gb, 0, none⟩ = some (.int .i64 kk) ∧ Aside0 (Below w.heap.size w W)))
 have CA := mk0 HA.out.2.2.1
 have LA := mk0 HA.out.2.2.2.1
 have KD : Aside0 (Below w.heap.size w w.drew) := ⟨(Below.refl _ _).drew⟩
 go_region_held3 (fun w_ => w_.cell? ⟨ga, 0, none⟩ = some (.slice A la.length ca) ∧ w_.cell? ⟨ga, 1, none⟩ = some (.int .i64 ka) ∧ w_.cell? ⟨gb, 0, none⟩ = some (.int .i64 kk) ∧ Aside0 (Below w.heap.size w w_)) (first | exact KS.out _ KD | exact KS.out _ (by assumption))
  (first | (go_at_call 47; (with_reducible refine (lin_Form_part.calls A ca la ka i x _ (Kd.C_below CA.out (Aside0.out (by assumption))) LA.out HX.out).mono ?_); rintro e w1 ⟨rfl, hb⟩; have hbn := mk0 ((Aside0.out (by assumption : Aside0 (Below w.heap.size w _))).trans (hb.mono (Aside0.out (by assumption : Aside0 (Below w.heap.size w _))).size)); clear hb) | (go_at_call 46; (with_reducible refine (num_Mul.calls 3 x kk r1 r2 _ HH.out).mono ?_); rintro e w1 ⟨rfl, ⟨nd, rfl⟩⟩; have hbn := mk0 (pw_below_drewN (Aside0.out (by assumption : Aside0 (Below w.heap.size w _))) nd)))
 go_wp2
 go_ret2
 exact ⟨rfl, Aside0.out (by assumption)⟩
/-- What lin.Add hands to lin.each. -/
abbrev addG (l0 : List Int) (a0 : Int) (l1 : List Int) (a1 : Int) : CloA := ⟨fun i => (lin_Form_part.f l0 a0 i).bind fun x => (lin_Form_part.f l1 a1 i).bind fun y => num_Add.f x y⟩
def addE (l0 : List Int) (a0 : Int) (l1 : List Int) (a1 : Int) : Option (List Int × Int × List Flt) := lin_each.f (addG l0 a0 l1 a1) (l0.length + 3) (l0.length : Int)
theorem addE_calls (w : World) (ga gb : Nat) (A B : Option Addr) (ca cb : Nat) (la lb : List Int) (ka kb : Int) (r1 : List Int) (r2 : Int) (r3 : List Flt) (ha : BoxAt w ga A ca la ka) (hb : BoxAt w gb B cb lb kb) (h : addE la ka lb kb = some (r1, r2, r3)) :
  Calls Tryd.prog 44 #[.int .i64 (la.length : Int), .func (.func 50) #[] #[.pointer (some ⟨ga, 0, none⟩), .pointer (some ⟨gb, 0, none⟩)]] w fun e w' => ∃ v0_ v2_ : Value, e = .returned (.tuple #[.agg #[v0_, .int .i64 r2], errV v2_]) ∧ Kd.R (Kd.int .i64) 2 w' w.heap.size (fun _ => True) v0_ r1 ∧ Kd.R fltK 62 w' w.heap.size (fun _ => True) v2_ r3 ∧ Below w.heap.size w w' := by
 refine lin_each.calls (addG la ka lb kb) (la.length + 3) (la.length : Int) r1 r2 r3 w 50 _ (enters_of Tryd.func50 (by kernel_rfl) rfl) ?_ h
 intro a0 x1 x2 W hW hf
 obtain ⟨x, hx, hf⟩ := Option.bind_eq_some_iff.1 hf
 obtain ⟨y, hy, hf⟩ := Option.bind_eq_some_iff.1 hf
 exact lin_Add_1.calls a0 ga gb A B ca cb la lb ka kb x y x1 x2 W (ha.below hW) (hb.below hW) hx hy hf
/-- What lin.Scale hands to lin.each. -/
abbrev scaleG (l0 : List Int) (a0 : Int) (kk : Int) : CloA := ⟨fun i => (lin_Form_part.f l0 a0 i).bind fun x => num_Mul.f 3 x kk⟩
def scaleE (l0 : List Int) (a0 : Int) (kk : Int) : Option (List Int × Int × List Flt) := lin_each.f (scaleG l0 a0 kk) (l0.length + 3) (l0.length : Int)
theorem scaleE_calls (w : World) (ga gb : Nat) (A : Option Addr) (ca : Nat) (la : List Int) (ka kk : Int) (r1 : List Int) (r2 : Int) (r3 : List Flt) (ha : BoxAt w ga A ca la ka) (hb : w.cell? ⟨gb, 0, none⟩ = some (.int .i64 kk) ∧ gb < w.heap.size) (h : scaleE la ka kk = some (r1, r2, r3)) :
  Calls Tryd.prog 44 #[.int .i64 (la.length : Int), .func (.func 45) #[] #[.pointer (some ⟨ga, 0, none⟩), .pointer (some ⟨gb, 0, none⟩)]] w fun e w' => ∃ v0_ v2_ : Value, e = .returned (.tuple #[.agg #[v0_, .int .i64 r2], errV v2_]) ∧ Kd.R (Kd.int .i64) 2 w' w.heap.size (fun _ => True) v0_ r1 ∧ Kd.R fltK 62 w' w.heap.size (fun _ => True) v2_ r3 ∧ Below w.heap.size w w' := by
 refine lin_each.calls (scaleG la ka kk) (la.length + 3) (la.length : Int) r1 r2 r3 w 45 _ (enters_of Tryd.func45 (by kernel_rfl) rfl) ?_ h
 intro a0 x1 x2 W hW hf
 obtain ⟨x, hx, hf⟩ := Option.bind_eq_some_iff.1 hf
 exact lin_Scale_1.calls a0 ga gb A ca la ka kk x x1 x2 W (ha.below hW) ⟨(hW.cell (p := ⟨gb, 0, none⟩) hb.2).trans hb.1, Nat.lt_of_lt_of_le hb.2 hW.size⟩ hx hf
def lin_Add.f (l0_0 : List Int) (a0_1 : Int) (l1_0 : List Int) (a1_1 : Int) : Option (List Int × Int × (List (Flt))) := if (l0_0.length : Int) = (l1_0.length : Int) then ((addE l0_0 a0_1 l1_0 a1_1).bind fun bt104 => (some (bt104.1, bt104.2.1, bt104.2.2))) else ((lin_fault.f 1).bind fun t111 => (some (([] : List Int), 0, t111)))
set_option maxHeartbeats 8000000 in
set_option maxRecDepth 100000 in
theorem lin_Add.calls (A0_0 : Option Addr) (c0_0 : Nat) (l0_0 : List Int) (a0_1 : Int) (A1_0 : Option Addr) (c1_0 : Nat) (l1_0 : List Int) (a1_1 : Int) (r1 : List Int) (r2 : Int) (r3 : List (Flt)) (w : World) (hr0_0 : Kd.C (Kd.int .i64) w A0_0 l0_0.length l0_0) (hc0_0 : l0_0.length ≤ c0_0) (hr1_0 : Kd.C (Kd.int .i64) w A1_0 l1_0.length l1_0) (hc1_0 : l1_0.length ≤ c1_0) (h : lin_Add.f l0_0 a0_1 l1_0 a1_1 = some (r1, r2, r3)) :
  Calls Tryd.prog 32 #[.agg #[.slice A0_0 l0_0.length c0_0, .int .i64 a0_1], .agg #[.slice A1_0 l1_0.length c1_0, .int .i64 a1_1]] w fun e w' => ∃ v0_ v2_ : Value, e = .returned (.tuple #[.agg #[v0_, .int .i64 r2], errV v2_]) ∧ Kd.R (Kd.int .i64) 2 w' w.heap.size (fun _ => True) v0_ r1 ∧ Kd.R fltK 62 w' w.heap.size (fun _ => True) v2_ r3 ∧ Below w.heap.size w w' := by
 have hu32 := Tryd.underlying32
 have HR0_0 := mk0 hr0_0
 have HC0_0 := mk0 hc0_0
 clear hr0_0 hc0_0
 have HR1_0 := mk0 hr1_0
 have HC1_0 := mk0 hc1_0
 clear hr1_0 hc1_0
 have HB := mk0 (Below.refl w.heap.size w)
 have H : (if (l0_0.length : Int) = (l1_0.length : Int) then ((addE l0_0 a0_1 l1_0 a1_1).bind fun bt104 => (some (bt104.1, bt104.2.1, bt104.2.2))) else ((lin_fault.f 1).bind fun t111 => (some (([] : List Int), 0, t111)))) = some (r1, r2, r3) := h
 clear h
 by_cases c3 : (l0_0.length : Int) = (l1_0.length : Int)
 ·rw [if_pos c3] at H
  have c3b0 : ((l0_0.length : Int) == (l1_0.length : Int)) = true := beq_iff_eq.mpr c3; have c3b1 : ((l0_0.length : Int) != (l1_0.length : Int)) = false := bne_eq_false_iff_eq.mpr c3; (have c3b2 : (l0_0.length == l1_0.length) = true := by first | simpa using c3 | (simp at c3 ⊢; omega)); clear c3; replace H := Option.bind_eq_some_iff.mp H; obtain ⟨⟨t104, t107, t108⟩, A40, H⟩ := H; replace H : (some (t104, t107, t108)) = some (r1, r2, r3) := H; have A4 := mk0 A40; clear A40; simp only [Option.some.injEq, Prod.mk.injEq] at H; obtain ⟨rfl, rfl, rfl⟩ := H; go_enter Tryd.func32, Tryd.ntmps32
  go_wp2_with (first | ((with_reducible refine gate_dst (N := 2) rfl ?_); refine bxE 2 #[.slice A0_0 l0_0.length c0_0, .int .i64 a0_1] 32 ?_; intro gb101 hg w5 hbox hb; have n0_ := hbB (uL HB.out) hb; have n1_ := mk0 (hbox); have n2_ := gE (uL HB.out) hg; have n3_ := gE (uL HB.out) hg; clear HB; have HB := n0_; have BK101 := n1_; have GW101 := n2_; have GE101 := n3_; clear n0_ n1_ n2_ n3_; clear hb hbox hg) | ((with_reducible refine gate_dst (N := 3) rfl ?_); refine bxE 3 #[.slice A1_0 l1_0.length c1_0, .int .i64 a1_1] 32 ?_; intro gb102 hg w6 hbox hb; have n0_ := bB BK101 hb; have n1_ := hbB bH hb; have n2_ := mk0 (hbox); have n3_ := gE bH hg; have n4_ := gE bH hg; have n5_ := nL BK101 hg; have n6_ := nG BK101 hg; clear BK101 HB; have BK101 := n0_; have HB := n1_; have BK102 := n2_; have GW102 := n3_; have GE102 := n4_; have NB101_102 := n5_; have NB102_101 := n6_; clear n0_ n1_ n2_ n3_ n4_ n5_ n6_; clear hb hbox hg) | ((with_reducible refine gate_dst (N := 4) rfl ?_); refine bxE 4 #[.slice none 0 0, .int .i64 0] 32 ?_; intro gb103 hg w7 hbox hb; have n0_ := bB BK101 hb; have n1_ := bB BK102 hb; have n2_ := hbB bH hb; have n3_ := mk0 (hbox); have n4_ := gE bH hg; have n5_ := gE bH hg; have n6_ := nL BK101 hg; have n7_ := nG BK101 hg; have n8_ := nL BK102 hg; have n9_ := nG BK102 hg; clear BK101 BK102 HB; have BK101 := n0_; have BK102 := n1_; have HB := n2_; have BK103 := n3_; have GW103 := n4_; have GE103 := n5_; have NB101_103 := n6_; have NB103_101 := n7_; have NB102_103 := n8_; have NB103_102 := n9_; clear n0_ n1_ n2_ n3_ n4_ n5_ n6_ n7_ n8_ n9_; clear hb hbox hg; have hnb8 := NB101_102.out; have hnc8 := NB102_101.out; have hnb9 := NB101_103.out; have hnc9 := NB103_101.out; obtain ⟨hcz10_0, hcz10_1, hfz10_0, hfz10_1⟩ := cL2 BK101; have hnb11 := NB102_103.out; have hnc11 := NB103_102.out; obtain ⟨hcz12_0, hcz12_1, hfz12_0, hfz12_1⟩ := cL2 BK102) | (go_at_call 44; (refine (addE_calls _ gb101 gb102 A0_0 A1_0 c0_0 c1_0 l0_0 l1_0 a0_1 a1_1 t104 t107 t108 (BoxAt.of_blk (uB BK101.out) (Kd.C_below HR0_0.out bH) HC0_0.out) (BoxAt.of_blk (uB BK102.out) (Kd.C_below HR1_0.out bH) HC1_0.out) A4.out).mono ?_); rintro e w13 ⟨v105, v109, rfl, ho0, ho1, hb⟩; have n0_ := mk0 (Kd.R_lower ho0 (below_size bH)); have n1_ := mk0 (Kd.R_lower ho1 (below_size bH)); have n2_ := bB BK101 hb; have n3_ := bB BK102 hb; have n4_ := bB BK103 hb; have n5_ := hbB bH hb; clear BK101 BK102 BK103 HB; have HO106 := n0_; have HO110 := n1_; have BK101 := n2_; have BK102 := n3_; have BK103 := n4_; have HB := n5_; clear n0_ n1_ n2_ n3_ n4_ n5_; (try clear hb ho0 ho1); (first | (have EHO110 := cmpV_no HO110.out (by with_reducible assumption)) | (have EHO110 := cmpV_yes HO110.out (by with_reducible assumption)) | skip); obtain ⟨Ao14, co14, eo14⟩ := Kd.R_slice HO106.out; subst eo14; obtain ⟨hcz15_0, hcz15_1, hfz15_0, hfz15_1⟩ := cL2 BK103))
  refine bodyPost_ret (results_ct rfl _ _ gb103 32 #[.slice Ao14 t104.length co14, .int .i64 t107] (0, 0) _ rfl (kB) Tryd.underlying32 rfl (by kernel_rfl)) rfl ?_; exact ⟨_, (v109), rE, uR (Kd.R_mono (Kd.R_far (p := ⟨gb103, 1, none⟩) (Kd.R_far (p := ⟨gb103, 0, none⟩) (Kd.R_types HO106.out BK103.out (by decide)) (fun _ hk => hk.2) (.slice Ao14 t104.length co14)) (fun _ hk => hk.2) (.int .i64 t107)) (fun _ hk => trivial)), uR (Kd.R_mono (Kd.R_far (p := ⟨gb103, 1, none⟩) (Kd.R_far (p := ⟨gb103, 0, none⟩) (Kd.R_types HO110.out BK103.out (by decide)) (fun _ hk => hk.2) (.slice Ao14 t104.length co14)) (fun _ hk => hk.2) (.int .i64 t107)) (fun _ hk => trivial)), bH⟩
 ·rw [if_neg c3] at H
  have c3b0 : ((l0_0.length : Int) == (l1_0.length : Int)) = false := beq_eq_false_iff_ne.mpr c3; have c3b1 : ((l0_0.length : Int) != (l1_0.length : Int)) = true := bne_iff_ne.mpr c3; (have c3b2 : (l0_0.length == l1_0.length) = false := by first | simpa using c3 | (simp at c3 ⊢; omega)); replace H := Option.bind_eq_some_iff.mp H; obtain ⟨t111, A160, H⟩ := H; replace H : (some (([] : List Int), 0, t111)) = some (r1, r2, r3) := H; have A16 := mk0 A160; clear A160; simp only [Option.some.injEq, Prod.mk.injEq] at H; obtain ⟨rfl, rfl, rfl⟩ := H; go_enter Tryd.func32, Tryd.ntmps32
  go_wp2_with (first | ((with_reducible refine gate_dst (N := 2) rfl ?_); refine bxE 2 #[.slice A0_0 l0_0.length c0_0, .int .i64 a0_1] 32 ?_; intro gb101 hg w17 hbox hb; have n0_ := hbB (uL HB.out) hb; have n1_ := mk0 (hbox); have n2_ := gE (uL HB.out) hg; have n3_ := gE (uL HB.out) hg; clear HB; have HB := n0_; have BK101 := n1_; have GW101 := n2_; have GE101 := n3_; clear n0_ n1_ n2_ n3_; clear hb hbox hg) | ((with_reducible refine gate_dst (N := 3) rfl ?_); refine bxE 3 #[.slice A1_0 l1_0.length c1_0, .int .i64 a1_1] 32 ?_; intro gb102 hg w18 hbox hb; have n0_ := bB BK101 hb; have n1_ := hbB bH hb; have n2_ := mk0 (hbox); have n3_ := gE bH hg; have n4_ := gE bH hg; have n5_ := nL BK101 hg; have n6_ := nG BK101 hg; clear BK101 HB; have BK101 := n0_; have HB := n1_; have BK102 := n2_; have GW102 := n3_; have GE102 := n4_; have NB101_102 := n5_; have NB102_101 := n6_; clear n0_ n1_ n2_ n3_ n4_ n5_ n6_; clear hb hbox hg) | ((with_reducible refine gate_dst (N := 4) rfl ?_); refine bxE 4 #[.slice none 0 0, .int .i64 0] 32 ?_; intro gb103 hg w19 hbox hb; have n0_ := bB BK101 hb; have n1_ := bB BK102 hb; have n2_ := hbB bH hb; have n3_ := mk0 (hbox); have n4_ := gE bH hg; have n5_ := gE bH hg; have n6_ := nL BK101 hg; have n7_ := nG BK101 hg; have n8_ := nL BK102 hg; have n9_ := nG BK102 hg; clear BK101 BK102 HB; have BK101 := n0_; have BK102 := n1_; have HB := n2_; have BK103 := n3_; have GW103 := n4_; have GE103 := n5_; have NB101_103 := n6_; have NB103_101 := n7_; have NB102_103 := n8_; have NB103_102 := n9_; clear n0_ n1_ n2_ n3_ n4_ n5_ n6_ n7_ n8_ n9_; clear hb hbox hg; have hnb20 := NB101_102.out; have hnc20 := NB102_101.out; have hnb21 := NB101_103.out; have hnc21 := NB103_101.out; obtain ⟨hcz22_0, hcz22_1, hfz22_0, hfz22_1⟩ := cL2 BK101; have hnb23 := NB102_103.out; have hnc23 := NB103_102.out; obtain ⟨hcz24_0, hcz24_1, hfz24_0, hfz24_1⟩ := cL2 BK102) | ((with_reducible refine gate_dst (N := 14) rfl ?_); refine gsM (some 14) Tryd.func49 #[.int .i64 1] ?_; (with_reducible refine (lin_fault.calls 1 t111 _ A16.out).mono ?_); rintro e w25 ⟨v112, rfl, ho0, hb⟩; refine ⟨_, rfl, ?_⟩; have n0_ := mk0 (Kd.R_lower ho0 (below_size bH)); have n1_ := bB BK101 hb; have n2_ := bB BK102 hb; have n3_ := bB BK103 hb; have n4_ := hbB bH hb; clear BK101 BK102 BK103 HB; have HO113 := n0_; have BK101 := n1_; have BK102 := n2_; have BK103 := n3_; have HB := n4_; clear n0_ n1_ n2_ n3_ n4_; (try clear hb ho0); (first | (have EHO113 := cmpV_no HO113.out (by with_reducible assumption)) | (have EHO113 := cmpV_yes HO113.out (by with_reducible assumption)) | skip); obtain ⟨hcz26_0, hcz26_1, hfz26_0, hfz26_1⟩ := cL2 BK103))
  refine bodyPost_ret (results_ct rfl _ _ gb103 32 #[.slice none 0 0, .int .i64 0] (0, 0) _ rfl (kB) Tryd.underlying32 rfl (by kernel_rfl)) rfl ?_; exact ⟨_, (v112), rE, nK, uR (Kd.R_mono (Kd.R_far (p := ⟨gb103, 1, none⟩) (Kd.R_far (p := ⟨gb103, 0, none⟩) (Kd.R_types HO113.out BK103.out (by decide)) (fun _ hk => hk.2) (.slice none 0 0)) (fun _ hk => hk.2) (.int .i64 0)) (fun _ hk => trivial)), bH⟩

def lin_Scale.f (l0_0 : List Int) (a0_1 : Int) (a1 : Int) : Option (List Int × Int × (List (Flt))) := (scaleE l0_0 a0_1 a1).bind fun bt116 => (some (bt116.1, bt116.2.1, bt116.2.2))
set_option maxHeartbeats 8000000 in
set_option maxRecDepth 100000 in
theorem lin_Scale.calls (A0_0 : Option Addr) (c0_0 : Nat) (l0_0 : List Int) (a0_1 : Int) (a1 : Int) (r1 : List Int) (r2 : Int) (r3 : List (Flt)) (w : World) (hr0_0 : Kd.C (Kd.int .i64) w A0_0 l0_0.length l0_0) (hc0_0 : l0_0.length ≤ c0_0) (h : lin_Scale.f l0_0 a0_1 a1 = some (r1, r2, r3)) :
  Calls Tryd.prog 30 #[.agg #[.slice A0_0 l0_0.length c0_0, .int .i64 a0_1], .int .i64 a1] w fun e w' => ∃ v0_ v2_ : Value, e = .returned (.tuple #[.agg #[v0_, .int .i64 r2], errV v2_]) ∧ Kd.R (Kd.int .i64) 2 w' w.heap.size (fun _ => True) v0_ r1 ∧ Kd.R fltK 62 w' w.heap.size (fun _ => True) v2_ r3 ∧ Below w.heap.size w w' := by
 have hu32 := Tryd.underlying32
 have HR0_0 := mk0 hr0_0
 have HC0_0 := mk0 hc0_0
 clear hr0_0 hc0_0
 have HB := mk0 (Below.refl w.heap.size w)
 have H : ((scaleE l0_0 a0_1 a1).bind fun bt116 => (some (bt116.1, bt116.2.1, bt116.2.2))) = some (r1, r2, r3) := h
 clear h
 replace H := Option.bind_eq_some_iff.mp H
 obtain ⟨⟨t116, t119, t120⟩, A30, H⟩ := H
 replace H : (some (t116, t119, t120)) = some (r1, r2, r3) := H
 have A3 := mk0 A30
 clear A30
 simp only [Option.some.injEq, Prod.mk.injEq] at H
 obtain ⟨rfl, rfl, rfl⟩ := H
 go_enter Tryd.func30, Tryd.ntmps30
 go_wp2_with (first | ((with_reducible refine gate_dst (N := 2) rfl ?_); refine bxE 2 #[.slice A0_0 l0_0.length c0_0, .int .i64 a0_1] 32 ?_; intro gb114 hg w4 hbox hb; have n0_ := hbB (uL HB.out) hb; have n1_ := mk0 (hbox); have n2_ := gE (uL HB.out) hg; have n3_ := gE (uL HB.out) hg; clear HB; have HB := n0_; have BK114 := n1_; have GW114 := n2_; have GE114 := n3_; clear n0_ n1_ n2_ n3_; clear hb hbox hg) | ((with_reducible refine gate_dst (N := 4) rfl ?_); refine bxE 4 #[.slice none 0 0, .int .i64 0] 32 ?_; intro gb115 hg w5 hbox hb; have KC : Aside0 (w5.cell? ⟨w4.heap.size, 0, none⟩ = some (.int .i64 a1) ∧ w4.heap.size < w5.heap.size) := mk0 ⟨(hb.cell (p := ⟨w4.heap.size, 0, none⟩) (by simp)).trans (by simp), Nat.lt_of_lt_of_le (by simp) hb.size⟩; have n0_ := bB BK114 hb; have n1_ := hbB bH hb; have n2_ := mk0 (hbox); have n3_ := gE bH hg; have n4_ := gE bH hg; have n5_ := nL BK114 hg; have n6_ := nG BK114 hg; clear BK114 HB; have BK114 := n0_; have HB := n1_; have BK115 := n2_; have GW115 := n3_; have GE115 := n4_; have NB114_115 := n5_; have NB115_114 := n6_; clear n0_ n1_ n2_ n3_ n4_ n5_ n6_; clear hb hbox hg; have hnb6 := NB114_115.out; have hnc6 := NB115_114.out; obtain ⟨hcz7_0, hcz7_1, hfz7_0, hfz7_1⟩ := cL2 BK114) | (go_at_call 44; (refine (scaleE_calls _ gb114 w4.heap.size A0_0 c0_0 l0_0 a0_1 a1 t116 t119 t120 (BoxAt.of_blk (uB BK114.out) (Kd.C_below HR0_0.out bH) HC0_0.out) KC.out A3.out).mono ?_); rintro e w8 ⟨v117, v121, rfl, ho0, ho1, hb⟩; have n0_ := mk0 (Kd.R_lower ho0 (below_size bH)); have n1_ := mk0 (Kd.R_lower ho1 (below_size bH)); have n2_ := bB BK114 hb; have n3_ := bB BK115 hb; have n4_ := hbB bH hb; clear BK114 BK115 HB; have HO118 := n0_; have HO122 := n1_; have BK114 := n2_; have BK115 := n3_; have HB := n4_; clear n0_ n1_ n2_ n3_ n4_; (try clear hb ho0 ho1); (first | (have EHO122 := cmpV_no HO122.out (by with_reducible assumption)) | (have EHO122 := cmpV_yes HO122.out (by with_reducible assumption)) | skip); obtain ⟨Ao9, co9, eo9⟩ := Kd.R_slice HO118.out; subst eo9; obtain ⟨hcz10_0, hcz10_1, hfz10_0, hfz10_1⟩ := cL2 BK115))
 refine bodyPost_ret (results_ct rfl _ _ gb115 32 #[.slice Ao9 t116.length co9, .int .i64 t119] (0, 0) _ rfl (kB) Tryd.underlying32 rfl (by kernel_rfl)) rfl ?_
 exact ⟨_, (v121), rE, uR (Kd.R_mono (Kd.R_far (p := ⟨gb115, 1, none⟩) (Kd.R_far (p := ⟨gb115, 0, none⟩) (Kd.R_types HO118.out BK115.out (by decide)) (fun _ hk => hk.2) (.slice Ao9 t116.length co9)) (fun _ hk => hk.2) (.int .i64 t119)) (fun _ hk => trivial)), uR (Kd.R_mono (Kd.R_far (p := ⟨gb115, 1, none⟩) (Kd.R_far (p := ⟨gb115, 0, none⟩) (Kd.R_types HO122.out BK115.out (by decide)) (fun _ hk => hk.2) (.slice Ao9 t116.length co9)) (fun _ hk => hk.2) (.int .i64 t119)) (fun _ hk => trivial)), bH⟩

end Go.Proofs.YtnkckdbjeemjeaaDoor.H
