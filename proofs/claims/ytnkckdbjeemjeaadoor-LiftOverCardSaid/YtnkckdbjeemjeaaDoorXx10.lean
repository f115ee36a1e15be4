-- PRINTED by print.py (a twelfth state) out of the translation. Not trusted: Lean checks it.
import Derived.Test.YtnkckdbjeemjeaaDoorXx0
import Derived.Test.YtnkckdbjeemjeaaDoorXx9
import Derived.Test.YtnkckdbjeemjeaaDoorHandF
import Derived.Test.YtnkckdbjeemjeaaDoorHandS
namespace Go.Proofs.YtnkckdbjeemjeaaDoor.X
open Go.Proofs.YtnkckdbjeemjeaaDoor.Flt Go.Proofs.YtnkckdbjeemjeaaDoor.H Go.RowKit Go.Proofs.YtnkckdbjeemjeaaDoorW.PrintWords Go.Proofs.YtnkckdbjeemjeaaDoorW.PrintLast Go.Proofs.YtnkckdbjeemjeaaDoorW.PrintMore
attribute [local go_sem] max2_int min2_int max_two min_two max_three min_three max_four min_four   -- for this text's walks alone
set_option linter.unusedVariables false
set_option linter.unusedSimpArgs false

/-! ### lift_Of: function 9 -/
def lift_Of.f (k : Nat) (a0_0 : Int) (a0_1 : Int) (a0_2 : ByteArray) (l0_3 : List (S26)) (l1 : List ByteArray) : Option (List Int × Int × (List (Flt))) := (lift_of.f k a0_0 a0_1 a0_2 l0_3 l1).bind fun bt225 => (if bt225.2.2.isNone = true then (some (bt225.1, bt225.2.1, ([] : List (Flt)))) else ((lift_fault.f (some (bt225.2.2.getD 0))).bind fun t232 => (some (([] : List Int), 0, t232))))
theorem lift_Of.mono : ∀ a0 a1 a2 a3 a4 k, LeO (lift_Of.f k a0 a1 a2 a3 a4) (lift_Of.f (k + 1) a0 a1 a2 a3 a4) := by
 intro a0 a1 a2 a3 a4 k
 have m0_ := @lift_of.mono; unfold lift_Of.f; exact lO_
set_option maxHeartbeats 8000000 in
set_option maxRecDepth 100000 in
theorem lift_Of.calls (k : Nat) (a0_0 : Int) (a0_1 : Int) (a0_2 : ByteArray) (A0_3 : Option Addr) (c0_3 : Nat) (l0_3 : List (S26)) (A1 : Option Addr) (c1 : Nat) (l1 : List ByteArray) (r1 : List Int) (r2 : Int) (r3 : List (Flt)) (w : World) (hr0_3 : Kd.C k26 w A0_3 l0_3.length l0_3) (hc0_3 : l0_3.length ≤ c0_3) (hr1 : Kd.C Kd.string w A1 l1.length l1) (hc1 : l1.length ≤ c1) (h : lift_Of.f k a0_0 a0_1 a0_2 l0_3 l1 = some (r1, r2, r3)) :
  Calls Tryd.prog 9 #[.agg #[.int .i64 a0_0, .int .i64 a0_1, .string a0_2, .slice A0_3 l0_3.length c0_3], .slice A1 l1.length c1] w fun e w' => ∃ v0_ v2_ : Value, e = .returned (.tuple #[.agg #[v0_, .int .i64 r2], errV v2_]) ∧ Kd.R (Kd.int .i64) 2 w' w.heap.size (fun _ => True) v0_ r1 ∧ Kd.R fltK 62 w' w.heap.size (fun _ => True) v2_ r3 ∧ Below w.heap.size w w' := by
 have hu26 := Tryd.underlying26
 have hu32 := Tryd.underlying32
 have ay := mk0 hr0_3
 have az := mk0 hc0_3
 clear hr0_3 hc0_3
 have aA := mk0 hr1
 have aC := mk0 hc1
 clear hr1 hc1
 have HB := mk0 (Below.refl w.heap.size w)
 have H : ((lift_of.f k a0_0 a0_1 a0_2 l0_3 l1).bind fun ai => (if ai.2.2.isNone = true then (some (ai.1, ai.2.1, ([] : List (Flt)))) else ((lift_fault.f (some (ai.2.2.getD 0))).bind fun ah => (some (([] : List Int), 0, ah))))) = some (r1, r2, r3) := h
 clear h
 replace H := Option.bind_eq_some_iff.mp H
 obtain ⟨⟨af, ag, aE⟩, aD, H⟩ := H
 dsimp only at H
 have A3 := mk0 aD
 clear aD
 rcases aE with _ | aj
 ·have H1 : (some (af, ag, ([] : List (Flt)))) = some (r1, r2, r3) := by rw [if_pos (show (none : Option Int).isNone = true by rfl)] at H; exact H
  clear H; have H := H1; clear H1; (try simp only [errW_none, errW_some]); simp only [Option.some.injEq, Prod.mk.injEq] at H; obtain ⟨rfl, rfl, rfl⟩ := H; go_enter Tryd.func9, Tryd.ntmps9
  go_wp2_with (first | ((with_reducible refine gate_dst (N := 2) rfl ?_); refine bxE 2 #[.int .i64 a0_0, .int .i64 a0_1, .string a0_2, .slice A0_3 l0_3.length c0_3] 26 ?_; intro aG hg w4 hbox hb; have aa := mk0 (hbox); have aH := gE (uL HB.out) hg; replace HB := hbB (uL HB.out) hb; clear hb hbox hg) | ((with_reducible refine gate_dst (N := 4) rfl ?_); refine bxE 4 #[.slice none 0 0, .int .i64 0] 32 ?_; intro ac hg w5 hbox hb; have ab := mk0 (hbox); have aI := gE bH hg; replace HB := hbB bH hb; have al := nL aa hg; have am := nG aa hg; replace aa := bB aa hb; clear hb hbox hg; have aV := al.out; have aW := am.out; obtain ⟨aX, aY, aZ, a_, bf, bg, bh, bi⟩ := cL4 aa) | ((with_reducible refine gate_dst (N := 11) rfl ?_); refine gsM (some 11) Tryd.func18 #[.agg #[.int .i64 a0_0, .int .i64 a0_1, .string a0_2, .slice A0_3 l0_3.length c0_3], .slice A1 l1.length c1] ?_; (with_reducible refine (lift_of.calls k a0_0 a0_1 a0_2 _ _ l0_3 _ _ l1 af ag none _ ?side1 ?side2 ?side3 ?side4 A3.out).mono ?_); (case side1 => exact uC (Kd.C_below ay.out HB.out)); (case side2 => exact az.out); (case side3 => exact uC (Kd.C_below aA.out HB.out)); (case side4 => exact aC.out); rintro e w8 ⟨aJ, rfl, ho0, hb⟩; refine ⟨_, rfl, ?_⟩; have ae := mk0 (Kd.R_lower ho0 (below_size bH)); replace aa := bB aa hb; replace ab := bB ab hb; replace HB := hbB bH hb; (try clear hb ho0); (try simp only [errW_none, errW_some])) | ((with_reducible refine gate_dst (N := 6) rfl ?_); refine bxE 6 #[.slice none 0 0, .int .i64 0] 32 ?_; intro ao hg w9 hbox hb; replace ae := rB ae hb; have ak := mk0 (hbox); have aK := gE bH hg; replace HB := hbB bH hb; have ap := nL aa hg; have aq := nG aa hg; have ar := nL ab hg; have au := nG ab hg; replace ab := bB ab hb; clear hb hbox hg; obtain ⟨av, aw, aM⟩ := Kd.R_slice ae.out; subst aM; have bj := aq.out; have bk := ap.out; have bl := au.out; have bm := ar.out; obtain ⟨bn, bo, bp, bq⟩ := cL2 ak; obtain ⟨br, bs, bu, bv⟩ := cL2 ab))
  refine bodyPost_ret (results_ct rfl _ _ ac 32 #[.slice av af.length aw, .int .i64 ag] (0, 0) _ rfl (kB) Tryd.underlying32 rfl (by kernel_rfl)) rfl ?_; exact ⟨_, (.slice none 0 0), rE, uR (Kd.R_mono (Kd.R_far (p := ⟨ac, 1, none⟩) (Kd.R_far (p := ⟨ac, 0, none⟩) (Kd.R_far (p := ⟨ao, 1, none⟩) (Kd.R_far (p := ⟨ao, 0, none⟩) (Kd.R_types (Kd.R_types ae.out ak.out (by decide)) ab.out (by decide)) (fun _ hk => hk.1.2) (.slice av af.length aw)) (fun _ hk => hk.1.2) (.int .i64 ag)) (fun _ hk => hk.2) (.slice av af.length aw)) (fun _ hk => hk.2) (.int .i64 ag)) (fun _ hk => trivial)), nK, bH⟩
 ·have H1 : ((lift_fault.f (some aj)).bind fun ah => (some (([] : List Int), 0, ah))) = some (r1, r2, r3) := by rw [if_neg (show ¬ (some aj).isNone = true by simp)] at H; exact H
  clear H; have H := H1; clear H1; (try simp only [errW_none, errW_some]); obtain ⟨ah, aN, H⟩ := oB H; simp only [Option.some.injEq, Prod.mk.injEq] at H; obtain ⟨rfl, rfl, rfl⟩ := H; go_enter Tryd.func9, Tryd.ntmps9
  go_wp2_with (first | ((with_reducible refine gate_dst (N := 2) rfl ?_); refine bxE 2 #[.int .i64 a0_0, .int .i64 a0_1, .string a0_2, .slice A0_3 l0_3.length c0_3] 26 ?_; intro aG hg bw hbox hb; have aa := mk0 (hbox); have aH := gE (uL HB.out) hg; replace HB := hbB (uL HB.out) hb; clear hb hbox hg) | ((with_reducible refine gate_dst (N := 4) rfl ?_); refine bxE 4 #[.slice none 0 0, .int .i64 0] 32 ?_; intro ac hg bx hbox hb; have ab := mk0 (hbox); have aI := gE bH hg; replace HB := hbB bH hb; have al := nL aa hg; have am := nG aa hg; replace aa := bB aa hb; clear hb hbox hg; have bz := al.out; have bC := am.out; obtain ⟨bE, bF, bG, bI, bJ, bK, bL, bM⟩ := cL4 aa) | ((with_reducible refine gate_dst (N := 11) rfl ?_); refine gsM (some 11) Tryd.func18 #[.agg #[.int .i64 a0_0, .int .i64 a0_1, .string a0_2, .slice A0_3 l0_3.length c0_3], .slice A1 l1.length c1] ?_; (with_reducible refine (lift_of.calls k a0_0 a0_1 a0_2 _ _ l0_3 _ _ l1 af ag (some aj) _ ?side1 ?side2 ?side3 ?side4 A3.out).mono ?_); (case side1 => exact uC (Kd.C_below ay.out HB.out)); (case side2 => exact az.out); (case side3 => exact uC (Kd.C_below aA.out HB.out)); (case side4 => exact aC.out); rintro e bO ⟨aJ, rfl, ho0, hb⟩; refine ⟨_, rfl, ?_⟩; have ae := mk0 (Kd.R_lower ho0 (below_size bH)); replace aa := bB aa hb; replace ab := bB ab hb; replace HB := hbB bH hb; (try clear hb hk ho0); (try simp only [errW_none, errW_some])) | ((with_reducible refine gate_dst (N := 6) rfl ?_); refine bxE 6 #[.slice none 0 0, .int .i64 0] 32 ?_; intro ao hg bP hbox hb; replace ae := rB ae hb; have ak := mk0 (hbox); have aK := gE bH hg; replace HB := hbB bH hb; have ap := nL aa hg; have aq := nG aa hg; have ar := nL ab hg; have au := nG ab hg; replace ab := bB ab hb; clear hb hbox hg; obtain ⟨bQ, bR, aQ⟩ := Kd.R_slice ae.out; subst aQ; have bT := aq.out; have bU := ap.out; have bV := au.out; have bW := ar.out; obtain ⟨bX, bY, bZ, b3⟩ := cL2 ak; have CA15 := fun W => lift_fault.calls (some aj) ah W aN.out; try simp only [errW_none, errW_some] at CA15) | (go_at_call 19; (with_reducible refine (CA15 _).mono ?_); rintro e b4 ⟨aT, rfl, ho0, hb⟩; have ax := mk0 (Kd.R_lower ho0 (below_size bH)); replace ab := mk0 (blk_below (g := ac) (o := .cells #[.slice none 0 0, .int .i64 0] 32 (0, 0)) (kB) hb); replace HB := hbB bH hb; (try clear hb hk ho0); (first | (have aU := cmpV_no ax.out (by with_reducible assumption)) | (have aU := cmpV_yes ax.out (by with_reducible assumption)) | skip); obtain ⟨b5, b6, b7, b8⟩ := cL2 ab))
  refine bodyPost_ret (results_ct rfl _ _ ac 32 #[.slice none 0 0, .int .i64 0] (0, 0) _ rfl (kB) Tryd.underlying32 rfl (by kernel_rfl)) rfl ?_; exact ⟨_, (aT), rE, nK, uR (Kd.R_mono (Kd.R_far (p := ⟨ac, 1, none⟩) (Kd.R_far (p := ⟨ac, 0, none⟩) (Kd.R_types ax.out ab.out (by decide)) (fun _ hk => hk.2) (.slice none 0 0)) (fun _ hk => hk.2) (.int .i64 0)) (fun _ hk => trivial)), bH⟩

/-! ### lift_Value: function 11 -/
def lift_Value.f (k : Nat) (a0_0 : Int) (a0_1 : Int) (a0_2 : ByteArray) (l0_3 : List (S26)) : Option (Int × (List (Flt))) := (lift_Of.f k a0_0 a0_1 a0_2 l0_3 ([] : List ByteArray)).bind fun bt236 => (some (bt236.2.1, bt236.2.2))
theorem lift_Value.mono : ∀ a0 a1 a2 a3 k, LeO (lift_Value.f k a0 a1 a2 a3) (lift_Value.f (k + 1) a0 a1 a2 a3) := by
 intro a0 a1 a2 a3 k
 have m0_ := @lift_Of.mono; unfold lift_Value.f; exact lO_
set_option maxHeartbeats 8000000 in
set_option maxRecDepth 100000 in
theorem lift_Value.calls (k : Nat) (a0_0 : Int) (a0_1 : Int) (a0_2 : ByteArray) (A0_3 : Option Addr) (c0_3 : Nat) (l0_3 : List (S26)) (r1 : Int) (r2 : List (Flt)) (w : World) (hr0_3 : Kd.C k26 w A0_3 l0_3.length l0_3) (hc0_3 : l0_3.length ≤ c0_3) (h : lift_Value.f k a0_0 a0_1 a0_2 l0_3 = some (r1, r2)) :
  Calls Tryd.prog 11 #[.agg #[.int .i64 a0_0, .int .i64 a0_1, .string a0_2, .slice A0_3 l0_3.length c0_3]] w fun e w' => ∃ v1_ : Value, e = .returned (.tuple #[.int .i64 r1, errV v1_]) ∧ Kd.R fltK 62 w' w.heap.size (fun _ => True) v1_ r2 ∧ Below w.heap.size w w' := by
 have hu26 := Tryd.underlying26
 have hu32 := Tryd.underlying32
 have ak := mk0 hr0_3
 have al := mk0 hc0_3
 clear hr0_3 hc0_3
 have HB := mk0 (Below.refl w.heap.size w)
 have H : ((lift_Of.f k a0_0 a0_1 a0_2 l0_3 ([] : List ByteArray)).bind fun ae => (some (ae.2.1, ae.2.2))) = some (r1, r2) := h
 clear h
 replace H := Option.bind_eq_some_iff.mp H
 obtain ⟨⟨af, ag, am⟩, ah, H⟩ := H
 dsimp only at H
 have A2 := mk0 ah
 clear ah
 simp only [Option.some.injEq, Prod.mk.injEq] at H
 obtain ⟨rfl, rfl⟩ := H
 go_enter Tryd.func11, Tryd.ntmps11
 go_wp2_with (first | ((with_reducible refine gate_dst (N := 1) rfl ?_); refine bxE 1 #[.int .i64 a0_0, .int .i64 a0_1, .string a0_2, .slice A0_3 l0_3.length c0_3] 26 ?_; intro ax hg w3 hbox hb; have aa := mk0 (hbox); have ay := gE (uL HB.out) hg; replace HB := hbB (uL HB.out) hb; clear hb hbox hg; obtain ⟨az, aA, aC, aD, aE, aG, aH, aI⟩ := cL4 aa) | ((with_reducible refine gate_dst (N := 8) rfl ?_); refine gsM (some 8) Tryd.func9 #[.agg #[.int .i64 a0_0, .int .i64 a0_1, .string a0_2, .slice A0_3 l0_3.length c0_3], .slice none 0 0] ?_; (refine (lift_Of.calls k a0_0 a0_1 a0_2 _ _ l0_3 _ _ ([] : List ByteArray) af ag am _ ?side1 ?side2 ?side3 ?side4 A2.out).mono ?_); (case side1 => exact uC (Kd.C_below ak.out HB.out)); (case side2 => exact al.out); (case side3 => exact Kd.C_nil _ _); (case side4 => exact Nat.le_refl _); rintro e w5 ⟨aJ, ao, rfl, ho0, ho1, hb⟩; refine ⟨_, rfl, ?_⟩; have ac := mk0 (Kd.R_lower ho0 (below_size bH)); have ab := mk0 (Kd.R_lower ho1 (below_size bH)); replace aa := bB aa hb; replace HB := hbB bH hb; (try clear hb ho0 ho1); (first | (have ap := cmpV_no ab.out (by with_reducible assumption)) | (have ap := cmpV_yes ab.out (by with_reducible assumption)) | skip)) | ((with_reducible refine gate_dst (N := 4) rfl ?_); refine bxE 4 #[.slice none 0 0, .int .i64 0] 32 ?_; intro ai hg w6 hbox hb; replace ac := rB ac hb; replace ab := rB ab hb; have aj := mk0 (hbox); have aK := gE bH hg; replace HB := hbB bH hb; have aq := nL aa hg; have ar := nG aa hg; clear hb hbox hg; obtain ⟨au, av, aw⟩ := Kd.R_slice ac.out; subst aw; have aM := ar.out; have aN := aq.out; obtain ⟨aQ, aT, aU, aV⟩ := cL2 aj))
 go_ret2
 exact ⟨(ao), rE, uR (Kd.R_mono (Kd.R_far (p := ⟨ai, 1, none⟩) (Kd.R_far (p := ⟨ai, 0, none⟩) (Kd.R_types ab.out aj.out (by decide)) (fun _ hk => hk.2) (.slice au af.length av)) (fun _ hk => hk.2) (.int .i64 ag)) (fun _ hk => trivial)), bH⟩

/-! ### expr_number: function 23 -/
def expr_number.f (a0 : Int) : Option (ByteArray) := if a0 = (-9223372036854775808) then (some (⟨#[40, 45, 57, 50, 50, 51, 51, 55, 50, 48, 51, 54, 56, 53, 52, 55, 55, 53, 56, 48, 55, 32, 45, 32, 49, 41]⟩ : ByteArray)) else (if a0 < 0 then ((strconv_FormatInt.f a0 10).bind fun t278 => (if 1 + t278.size ≤ 9223372036854775807 then (if ((⟨#[40]⟩ : ByteArray) ++ t278).size + 1 ≤ 9223372036854775807 then (some (((⟨#[40]⟩ : ByteArray) ++ t278) ++ (⟨#[41]⟩ : ByteArray))) else (none)) else (none))) else ((strconv_FormatInt.f a0 10).bind fun t279 => (some t279)))
set_option maxHeartbeats 8000000 in
set_option maxRecDepth 100000 in
theorem expr_number.calls (a0 : Int) (r : ByteArray) (w : World) (hG : Glob w) (h : expr_number.f a0 = some r) :
  Calls Tryd.prog 23 #[.int .i64 a0] w fun e w' => e = .returned (.string r) ∧ Below w.heap.size w w' := by
 have HG := mk0 hG
 clear hG
 have HB := mk0 (Below.refl w.heap.size w)
 have H : (if a0 = (-9223372036854775808) then (some (⟨#[40, 45, 57, 50, 50, 51, 51, 55, 50, 48, 51, 54, 56, 53, 52, 55, 55, 53, 56, 48, 55, 32, 45, 32, 49, 41]⟩ : ByteArray)) else (if a0 < 0 then ((strconv_FormatInt.f a0 10).bind fun t278 => (if 1 + t278.size ≤ 9223372036854775807 then (if ((⟨#[40]⟩ : ByteArray) ++ t278).size + 1 ≤ 9223372036854775807 then (some (((⟨#[40]⟩ : ByteArray) ++ t278) ++ (⟨#[41]⟩ : ByteArray))) else (none)) else (none))) else ((strconv_FormatInt.f a0 10).bind fun t279 => (some t279)))) = some r := h
 clear h
 by_cases c2 : a0 = (-9223372036854775808)
 ·rw [if_pos c2] at H
  obtain ⟨c2b0, c2b1⟩ := yQ c2; clear c2; obtain rfl := Option.some.inj H; go_enter Tryd.func23, Tryd.ntmps23; go_wp2; go_ret; exact ⟨rE, uL HB.out⟩
 ·rw [if_neg c2] at H
  obtain ⟨c2b0, c2b1⟩ := nQ c2
  by_cases c3 : a0 < 0
  ·rw [if_pos c3] at H
   have c3b0 := decide_eq_true c3; clear c3; obtain ⟨t278, A4, H⟩ := oB H
   by_cases c5 : 1 + t278.size ≤ 9223372036854775807
   ·rw [if_pos c5] at H
    have c5b0 := eq_true c5; have c5b1 := decide_eq_true c5; (try have c5b2 : (9223372036854775807 < 1 + t278.size) = False := eq_false (Nat.not_lt.2 c5))
    by_cases c6 : ((⟨#[40]⟩ : ByteArray) ++ t278).size + 1 ≤ 9223372036854775807
    ·rw [if_pos c6] at H
     have c6b0 := eq_true c6; have c6b1 := decide_eq_true c6; (try have c6b2 : (9223372036854775807 < ((⟨#[40]⟩ : ByteArray) ++ t278).size + 1) = False := eq_false (Nat.not_lt.2 c6)); have c6s := c6; simp only [ByteArray.size_append, show (⟨#[40]⟩ : ByteArray).size = 1 from rfl] at c6s; have c6b3 := eq_true c6s; have c6b4 := decide_eq_true c6s; have c6b5 := eq_false (Nat.not_lt.2 c6s); clear c6s; obtain rfl := Option.some.inj H; go_enter Tryd.func23, Tryd.ntmps23
     go_wp2_with (first | ((with_reducible refine gate_dst (N := 10) rfl ?_); refine gsM (some 10) Tryd.func40 #[.int .i64 a0, .int .i64 10] ?_; (with_reducible refine (strconv_FormatInt.calls a0 10 t278 _ ?side1 A4.out).mono ?_); (case side1 => exact Glob.below HG.out (uL HB.out)); rintro e w7 ⟨rfl, hb⟩; refine ⟨_, rfl, ?_⟩; replace HB := hbB (uL HB.out) hb; (try clear hb); ))
     go_ret; exact ⟨rE, uL HB.out⟩
    ·exact nO H c6
   ·exact nO H c5
  ·rw [if_neg c3] at H
   have c3b0 := decide_eq_false c3; clear c3; obtain ⟨t279, A8, H⟩ := oB H; obtain rfl := Option.some.inj H; go_enter Tryd.func23, Tryd.ntmps23
   go_wp2_with (first | ((with_reducible refine gate_dst (N := 14) rfl ?_); refine gsM (some 14) Tryd.func40 #[.int .i64 a0, .int .i64 10] ?_; (with_reducible refine (strconv_FormatInt.calls a0 10 t279 _ ?side1 A8.out).mono ?_); (case side1 => exact Glob.below HG.out (uL HB.out)); rintro e w9 ⟨rfl, hb⟩; refine ⟨_, rfl, ?_⟩; replace HB := hbB (uL HB.out) hb; (try clear hb); ))
   go_ret; exact ⟨rE, uL HB.out⟩

end Go.Proofs.YtnkckdbjeemjeaaDoor.X
