/- fm.Drop's closure take: what it appends, and which box is written; no conditions. -/
import Derived.Test.YtmglfimdhbooeaaXx1
namespace Go.Proofs.Ytmglfimdhbooeaa.H
open Go.Proofs.Ytmglfimdhbooeaa.Flt Go.Proofs.Ytmglfimdhbooeaa.X Go.RowKit Go.Proofs.YtmglfimdhbooeaaW.PrintWords Go.Proofs.YtmglfimdhbooeaaW.PrintLast Go.Proofs.YtmglfimdhbooeaaW.PrintMore
set_option linter.unusedVariables false
set_option linter.unusedSimpArgs false
theorem grown_trans {w w1 w2 : World} {row : Option Nat} (h1 : w.grownBy w1 row) (h2 : w1.grownBy w2 row) : w.grownBy w2 row :=
  ⟨h2.os.trans h1.os, h2.tape.trans h1.tape, h2.output.trans h1.output, Nat.le_trans h1.size h2.size, fun k hk hr => (h2.block k (Nat.lt_of_lt_of_le hk h1.size) hr).trans (h1.block k hk hr)⟩
set_option maxHeartbeats 8000000 in
set_option maxRecDepth 100000 in
theorem take_up {w0 w : World} (base gi gu gd gg : Nat) (i : Int) (f0 : List Int) (f1 : Int) (A0 : Option Addr) (c0 : Nat) (v : Value) (xs : List S45) (ok : Nat → Prop) 
    (hbi : w.heap[gi]? = some (.cells #[.int .i64 i] 3 (0, 0))) (hbu : w.heap[gu]? = some (.cells #[v] 22 (0, 0)))
    (p0 : 0 ≤ i) (q0 : i < (f0.length : Int)) (hs : 0 < rd f0 i)
    (HL : Kd.V (Kd.int .i64) 2 w base (fun k => ok k ∧ some k ≠ v.ownBlock) (.slice A0 f0.length c0) f0) (hfresh : ∀ k, w.heap.size ≤ k → ok k)
    (HO : Kd.N k45 45 w base ok v xs) (HB : Below base w0 w) (hbase : base ≤ w.heap.size) (hl : xs.length < 4398046511104) :
    Calls Try.prog 20 #[.agg #[.slice A0 f0.length c0, .int .i64 f1], .pointer (some ⟨gi, 0, none⟩), .pointer (some ⟨gu, 0, none⟩), .pointer (some ⟨gd, 0, none⟩), .pointer (some ⟨gg, 0, none⟩)] w fun e w' => ∃ v1 w2, e = .returned (.tuple #[]) ∧ Kd.N k45 45 w2 base ok v1 (xs ++ [(⟨f0, f1⟩ : S45)]) ∧ Below base w0 w2 ∧ w.grownBy w2 v.ownBlock ∧ (v1.ownBlock = v.ownBlock ∨ ∃ b, v1.ownBlock = some b ∧ w.heap.size ≤ b) ∧ w' = w2.setCell ⟨gu, 0, none⟩ v1 := by
  have hu45 := Try.underlying45
  have hu22 := Try.underlying22
  have hu24 := Try.underlying24
  have HS := mk0 (show fm_side.f (rd f0 i) = some (0 + 1) from by unfold fm_side.f; rw [if_neg (by omega), if_pos hs])
  have b0_ : ((0 + 1 : Int) == 1) = true := (by decide)
  have BI := mk0 hbi
  have BU := mk0 hbu
  have HLA := mk0 HL
  have HOA := mk0 HO
  have HW := mk0 (Below.refl w.heap.size w)
  have HZ := mk0 hs
  have HBA := mk0 HB
  clear hbi hbu HL HO hs HB
  go_enter Try.func20, Try.ntmps20
  go_wp2_with (first | ((with_reducible refine gate_dst (N := 5) rfl ?_); refine bxE 5 #[.slice A0 f0.length c0, .int .i64 f1] 45 ?_; intro gF hg w1 hbox hb; have BF := mk0 hbox; have NI := nL BI hg; have NI' := nG BI hg; have NU := nL BU hg; have NU' := nG BU hg; replace BI := bB BI hb; replace BU := bB BU hb; replace HLA := vB HLA hb; replace HOA := nB HOA hb; replace HW := hbB HW.out hb; clear hb hbox hg; obtain ⟨ff0, ff1, zf0, zf1⟩ := cL2 BF; obtain ⟨fi0, zi0⟩ := cL1 BI; have n1 := NI.out; have n2 := NI'.out; have hR := (Kd.V_reads' HLA.out).2.2; obtain ⟨ad, e9, hx9⟩ := Kd.at_int hR i p0 q0; cases e9; replace p0 := eq_true p0; replace q0 := eq_true q0) | ((with_reducible refine gate_dst (N := 11) rfl ?_); refine gsM (some 11) Try.func21 #[.int .i64 (rd f0 i)] ?_; (with_reducible refine (fm_side.calls (rd f0 i) (0 + 1) _ HS.out).mono ?_); rintro e w' ⟨rfl, ⟨nd, rfl⟩⟩; refine ⟨_, rfl, ?_⟩; have hb := pw_below_drewN (Below.refl w1.heap.size w1) nd; generalize w1.drewN nd = w2 at hb ⊢; replace BI := bB BI hb; replace BU := bB BU hb; replace BF := bB BF hb; replace HLA := vB HLA hb; replace HOA := nB HOA hb; replace HW := hbB HW.out hb; clear hb ff0 ff1 zf0 zf1 fi0 zi0 hx9 hR; obtain ⟨ff0, ff1, zf0, zf1⟩ := cL2 BF; obtain ⟨fu0, zu0⟩ := cL1 BU; have n3 := NU.out; have n4 := NU'.out) | ((with_reducible refine gate_builtin (b := .append) (xs := #[.tmp 20, .tmp 22]) rfl ?_); at_builtin; refine Kd.N_append k45 (w0 := w0) base rfl (.tmp 20) (.tmp 22) 22 45 (.agg #[(.slice none 0 0), (.int .i64 0)]) 32 rfl Try.underlying22 info45 rfl (by decide) (by omega) v xs (⟨f0, f1⟩ : S45) [.slice (some ad) f0.length c0, .int .i64 f1] ok (fun k => ok k ∧ some k ≠ v.ownBlock) rfl rfl ?aP (fun _ h => h) ?aF ?aO ?aB ?aS ?aL ?_; (case aP => exact (k45_mkF _ _ (⟨f0, f1⟩ : S45) (Kd.V_reads' HLA.out).2.1 (Kd.V_F HLA.out))); (case aF => exact fun k_ hk => hfresh k_ (Nat.le_trans HW.out.size hk)); (case aO => exact HOA.out); (case aB => exact HBA.out.trans (HW.out.mono hbase)); (case aS => exact Nat.le_trans hbase HW.out.size); (case aL => omega); intro v1 w3 ho hb hg3 hat; have BU3 := mk0 (blk_grown BU.out hg3 (Kd.N_ne HOA.out BU.out (by decide))); have HF := mk0 (show _ ∧ _ ∧ _ ∧ _ from ⟨ho, hb, grown_trans (grown_of_below HW.out _) hg3, (hat.imp id (fun ⟨b, hb1, hb2⟩ => ⟨b, hb1, Nat.le_trans HW.out.size hb2⟩) : _ ∨ ∃ b, v1.ownBlock = some b ∧ w.heap.size ≤ b)⟩); obtain ⟨Ao, co, eo⟩ := Kd.N_slice ho; subst eo; clear ho hb hg3 hat; obtain ⟨fv0, zv0⟩ := cL1 BU3))
  refine bodyPost_end (results_none rfl _ _ _) rfl ?_
  exact ⟨_, _, rfl, HF.out.1, HF.out.2.1, HF.out.2.2.1, HF.out.2.2.2, by rw [List.length_append]; rfl⟩
set_option maxHeartbeats 8000000 in
set_option maxRecDepth 100000 in
theorem take_down {w0 w : World} (base gi gu gd gg : Nat) (i : Int) (f0 : List Int) (f1 : Int) (A0 : Option Addr) (c0 : Nat) (v : Value) (xs : List S45) (ok : Nat → Prop) 
    (hbi : w.heap[gi]? = some (.cells #[.int .i64 i] 3 (0, 0))) (hbu : w.heap[gd]? = some (.cells #[v] 22 (0, 0)))
    (p0 : 0 ≤ i) (q0 : i < (f0.length : Int)) (hs : rd f0 i < 0)
    (HL : Kd.V (Kd.int .i64) 2 w base (fun k => ok k ∧ some k ≠ v.ownBlock) (.slice A0 f0.length c0) f0) (hfresh : ∀ k, w.heap.size ≤ k → ok k)
    (HO : Kd.N k45 45 w base ok v xs) (HB : Below base w0 w) (hbase : base ≤ w.heap.size) (hl : xs.length < 4398046511104) :
    Calls Try.prog 20 #[.agg #[.slice A0 f0.length c0, .int .i64 f1], .pointer (some ⟨gi, 0, none⟩), .pointer (some ⟨gu, 0, none⟩), .pointer (some ⟨gd, 0, none⟩), .pointer (some ⟨gg, 0, none⟩)] w fun e w' => ∃ v1 w2, e = .returned (.tuple #[]) ∧ Kd.N k45 45 w2 base ok v1 (xs ++ [(⟨f0, f1⟩ : S45)]) ∧ Below base w0 w2 ∧ w.grownBy w2 v.ownBlock ∧ (v1.ownBlock = v.ownBlock ∨ ∃ b, v1.ownBlock = some b ∧ w.heap.size ≤ b) ∧ w' = w2.setCell ⟨gd, 0, none⟩ v1 := by
  have hu45 := Try.underlying45
  have hu22 := Try.underlying22
  have hu24 := Try.underlying24
  have HS := mk0 (show fm_side.f (rd f0 i) = some ((-2) + 1) from by unfold fm_side.f; rw [if_pos hs])
  have b0_ : (((-2) + 1 : Int) == 1) = false := (by decide); have b1_ : (((-2) + 1 : Int) == -1) = true := (by decide)
  have BI := mk0 hbi
  have BU := mk0 hbu
  have HLA := mk0 HL
  have HOA := mk0 HO
  have HW := mk0 (Below.refl w.heap.size w)
  have HZ := mk0 hs
  have HBA := mk0 HB
  clear hbi hbu HL HO hs HB
  go_enter Try.func20, Try.ntmps20
  go_wp2_with (first | ((with_reducible refine gate_dst (N := 5) rfl ?_); refine bxE 5 #[.slice A0 f0.length c0, .int .i64 f1] 45 ?_; intro gF hg w1 hbox hb; have BF := mk0 hbox; have NI := nL BI hg; have NI' := nG BI hg; have NU := nL BU hg; have NU' := nG BU hg; replace BI := bB BI hb; replace BU := bB BU hb; replace HLA := vB HLA hb; replace HOA := nB HOA hb; replace HW := hbB HW.out hb; clear hb hbox hg; obtain ⟨ff0, ff1, zf0, zf1⟩ := cL2 BF; obtain ⟨fi0, zi0⟩ := cL1 BI; have n1 := NI.out; have n2 := NI'.out; have hR := (Kd.V_reads' HLA.out).2.2; obtain ⟨ad, e9, hx9⟩ := Kd.at_int hR i p0 q0; cases e9; replace p0 := eq_true p0; replace q0 := eq_true q0) | ((with_reducible refine gate_dst (N := 11) rfl ?_); refine gsM (some 11) Try.func21 #[.int .i64 (rd f0 i)] ?_; (with_reducible refine (fm_side.calls (rd f0 i) ((-2) + 1) _ HS.out).mono ?_); rintro e w' ⟨rfl, ⟨nd, rfl⟩⟩; refine ⟨_, rfl, ?_⟩; have hb := pw_below_drewN (Below.refl w1.heap.size w1) nd; generalize w1.drewN nd = w2 at hb ⊢; replace BI := bB BI hb; replace BU := bB BU hb; replace BF := bB BF hb; replace HLA := vB HLA hb; replace HOA := nB HOA hb; replace HW := hbB HW.out hb; clear hb ff0 ff1 zf0 zf1 fi0 zi0 hx9 hR; obtain ⟨ff0, ff1, zf0, zf1⟩ := cL2 BF; obtain ⟨fu0, zu0⟩ := cL1 BU; have n3 := NU.out; have n4 := NU'.out) | ((with_reducible refine gate_builtin (b := .append) (xs := #[.tmp 26, .tmp 28]) rfl ?_); at_builtin; refine Kd.N_append k45 (w0 := w0) base rfl (.tmp 26) (.tmp 28) 22 45 (.agg #[(.slice none 0 0), (.int .i64 0)]) 32 rfl Try.underlying22 info45 rfl (by decide) (by omega) v xs (⟨f0, f1⟩ : S45) [.slice (some ad) f0.length c0, .int .i64 f1] ok (fun k => ok k ∧ some k ≠ v.ownBlock) rfl rfl ?aP (fun _ h => h) ?aF ?aO ?aB ?aS ?aL ?_; (case aP => exact (k45_mkF _ _ (⟨f0, f1⟩ : S45) (Kd.V_reads' HLA.out).2.1 (Kd.V_F HLA.out))); (case aF => exact fun k_ hk => hfresh k_ (Nat.le_trans HW.out.size hk)); (case aO => exact HOA.out); (case aB => exact HBA.out.trans (HW.out.mono hbase)); (case aS => exact Nat.le_trans hbase HW.out.size); (case aL => omega); intro v1 w3 ho hb hg3 hat; have BU3 := mk0 (blk_grown BU.out hg3 (Kd.N_ne HOA.out BU.out (by decide))); have HF := mk0 (show _ ∧ _ ∧ _ ∧ _ from ⟨ho, hb, grown_trans (grown_of_below HW.out _) hg3, (hat.imp id (fun ⟨b, hb1, hb2⟩ => ⟨b, hb1, Nat.le_trans HW.out.size hb2⟩) : _ ∨ ∃ b, v1.ownBlock = some b ∧ w.heap.size ≤ b)⟩); obtain ⟨Ao, co, eo⟩ := Kd.N_slice ho; subst eo; clear ho hb hg3 hat; obtain ⟨fv0, zv0⟩ := cL1 BU3))
  refine bodyPost_end (results_none rfl _ _ _) rfl ?_
  exact ⟨_, _, rfl, HF.out.1, HF.out.2.1, HF.out.2.2.1, HF.out.2.2.2, by rw [List.length_append]; rfl⟩
set_option maxHeartbeats 8000000 in
set_option maxRecDepth 100000 in
theorem take_out {w0 w : World} (base gi gu gd gg : Nat) (i : Int) (f0 : List Int) (f1 : Int) (A0 : Option Addr) (c0 : Nat) (v : Value) (xs : List S45) (ok : Nat → Prop) (n0 : Int) (ve : Value)
    (hbi : w.heap[gi]? = some (.cells #[.int .i64 i] 3 (0, 0))) (hbu : w.heap[gg]? = some (.cells #[.int .i64 n0, ve, v] 24 (0, 0)))
    (p0 : 0 ≤ i) (q0 : i < (f0.length : Int)) (hs : rd f0 i = 0)
    (HL : Kd.V (Kd.int .i64) 2 w base (fun k => ok k ∧ some k ≠ v.ownBlock) (.slice A0 f0.length c0) f0) (hfresh : ∀ k, w.heap.size ≤ k → ok k)
    (HO : Kd.N k45 45 w base ok v xs) (HB : Below base w0 w) (hbase : base ≤ w.heap.size) (hl : xs.length < 4398046511104) :
    Calls Try.prog 20 #[.agg #[.slice A0 f0.length c0, .int .i64 f1], .pointer (some ⟨gi, 0, none⟩), .pointer (some ⟨gu, 0, none⟩), .pointer (some ⟨gd, 0, none⟩), .pointer (some ⟨gg, 0, none⟩)] w fun e w' => ∃ v1 w2, e = .returned (.tuple #[]) ∧ Kd.N k45 45 w2 base ok v1 (xs ++ [(⟨f0, f1⟩ : S45)]) ∧ Below base w0 w2 ∧ w.grownBy w2 v.ownBlock ∧ (v1.ownBlock = v.ownBlock ∨ ∃ b, v1.ownBlock = some b ∧ w.heap.size ≤ b) ∧ w' = w2.setCell ⟨gg, 2, none⟩ v1 := by
  have hu45 := Try.underlying45
  have hu22 := Try.underlying22
  have hu24 := Try.underlying24
  have HS := mk0 (show fm_side.f (rd f0 i) = some (0) from by unfold fm_side.f; rw [if_neg (by omega), if_neg (by omega)])
  have b0_ : ((0 : Int) == 1) = false := (by decide); have b1_ : ((0 : Int) == -1) = false := (by decide)
  have BI := mk0 hbi
  have BU := mk0 hbu
  have HLA := mk0 HL
  have HOA := mk0 HO
  have HW := mk0 (Below.refl w.heap.size w)
  have HZ := mk0 hs
  have HBA := mk0 HB
  clear hbi hbu HL HO hs HB
  go_enter Try.func20, Try.ntmps20
  go_wp2_with (first | ((with_reducible refine gate_dst (N := 5) rfl ?_); refine bxE 5 #[.slice A0 f0.length c0, .int .i64 f1] 45 ?_; intro gF hg w1 hbox hb; have BF := mk0 hbox; have NI := nL BI hg; have NI' := nG BI hg; have NU := nL BU hg; have NU' := nG BU hg; replace BI := bB BI hb; replace BU := bB BU hb; replace HLA := vB HLA hb; replace HOA := nB HOA hb; replace HW := hbB HW.out hb; clear hb hbox hg; obtain ⟨ff0, ff1, zf0, zf1⟩ := cL2 BF; obtain ⟨fi0, zi0⟩ := cL1 BI; have n1 := NI.out; have n2 := NI'.out; have hR := (Kd.V_reads' HLA.out).2.2; obtain ⟨ad, e9, hx9⟩ := Kd.at_int hR i p0 q0; cases e9; replace p0 := eq_true p0; replace q0 := eq_true q0) | ((with_reducible refine gate_dst (N := 11) rfl ?_); refine gsM (some 11) Try.func21 #[.int .i64 (rd f0 i)] ?_; (with_reducible refine (fm_side.calls (rd f0 i) (0) _ HS.out).mono ?_); rintro e w' ⟨rfl, ⟨nd, rfl⟩⟩; refine ⟨_, rfl, ?_⟩; have hb := pw_below_drewN (Below.refl w1.heap.size w1) nd; generalize w1.drewN nd = w2 at hb ⊢; replace BI := bB BI hb; replace BU := bB BU hb; replace BF := bB BF hb; replace HLA := vB HLA hb; replace HOA := nB HOA hb; replace HW := hbB HW.out hb; clear hb ff0 ff1 zf0 zf1 fi0 zi0 hx9 hR; obtain ⟨ff0, ff1, zf0, zf1⟩ := cL2 BF; obtain ⟨fu0, fu1, fu2, zu0, zu1, zu2⟩ := cL3 BU; have n3 := NU.out; have n4 := NU'.out) | ((with_reducible refine gate_builtin (b := .append) (xs := #[.tmp 13, .tmp 15]) rfl ?_); at_builtin; refine Kd.N_append k45 (w0 := w0) base rfl (.tmp 13) (.tmp 15) 22 45 (.agg #[(.slice none 0 0), (.int .i64 0)]) 32 rfl Try.underlying22 info45 rfl (by decide) (by omega) v xs (⟨f0, f1⟩ : S45) [.slice (some ad) f0.length c0, .int .i64 f1] ok (fun k => ok k ∧ some k ≠ v.ownBlock) rfl rfl ?aP (fun _ h => h) ?aF ?aO ?aB ?aS ?aL ?_; (case aP => exact (k45_mkF _ _ (⟨f0, f1⟩ : S45) (Kd.V_reads' HLA.out).2.1 (Kd.V_F HLA.out))); (case aF => exact fun k_ hk => hfresh k_ (Nat.le_trans HW.out.size hk)); (case aO => exact HOA.out); (case aB => exact HBA.out.trans (HW.out.mono hbase)); (case aS => exact Nat.le_trans hbase HW.out.size); (case aL => omega); intro v1 w3 ho hb hg3 hat; have BU3 := mk0 (blk_grown BU.out hg3 (Kd.N_ne HOA.out BU.out (by decide))); have HF := mk0 (show _ ∧ _ ∧ _ ∧ _ from ⟨ho, hb, grown_trans (grown_of_below HW.out _) hg3, (hat.imp id (fun ⟨b, hb1, hb2⟩ => ⟨b, hb1, Nat.le_trans HW.out.size hb2⟩) : _ ∨ ∃ b, v1.ownBlock = some b ∧ w.heap.size ≤ b)⟩); obtain ⟨Ao, co, eo⟩ := Kd.N_slice ho; subst eo; clear ho hb hg3 hat; obtain ⟨fv0, fv1, fv2, zv0, zv1, zv2⟩ := cL3 BU3))
  refine bodyPost_end (results_none rfl _ _ _) rfl ?_
  exact ⟨_, _, rfl, HF.out.1, HF.out.2.1, HF.out.2.2.1, HF.out.2.2.2, by rw [List.length_append]; rfl⟩
end Go.Proofs.Ytmglfimdhbooeaa.H
