/- Plain lemmas: a system without a variable. -/
import Derived.Test.YtmglfimdhbooeaaPureFm4
import Derived.Test.YtmglfimdhbooeaaXx25
import Derived.Laws.Bits64
namespace Go.Proofs.Ytmglfimdhbooeaa.Pure
open Go.RowKit Go.Proofs.Ytmglfimdhbooeaa.X Go.Proofs.Ytmglfimdhbooeaa.Flt Go.Proofs.Ytmglfimdhbooeaa.H Go.Proofs.YtmglfimdhbooeaaW.PrintWords Go.Proofs.YtmglfimdhbooeaaW.PrintLast Go.Proofs.YtmglfimdhbooeaaW.PrintMore
set_option linter.unusedVariables false
set_option linter.unusedSimpArgs false
/-! a system without a variable -/
/-- Of which forms the rows are made: the bounds, the equations and their other sides. -/
def Gs (eq ge : List S45) (f : S45) : Prop := f ∈ ge ∨ ∃ e ∈ eq, f = e ∨ (f.f0 = e.f0.map (fun z => z * (-1)) ∧ f.f1 = e.f1 * (-1))
def Rs (N : Nat) (i : Int) (eq ge : List S45) (f : S45) : Prop := (okB N f ∧ rd f.f0 i = 0 ∧ Gs eq ge f) ∨ ∃ p q, okB N p ∧ okB N q ∧ Gs eq ge p ∧ Gs eq ge q ∧ 0 < rd p.f0 i ∧ rd q.f0 i < 0 ∧ RowR i p q f
def PostD (N : Nat) (n i : Int) (eq ge : List S45) (o : Option (Int × List S45 × List S45 × Bool)) : Prop :=
  ∃ a b c e, o = some (a, b, c, e) ∧ (e = true → a = n ∧ (∀ f ∈ b, f ∈ eq ∧ rd f.f0 i = 0) ∧ b.length ≤ eq.length ∧ (∀ f ∈ c, Rs N i eq ge f) ∧ c.length ≤ 512)
theorem post_no {N : Nat} {n i : Int} {eq ge : List S45} : PostD N n i eq ge (some (0, [], [], false)) := ⟨_, _, _, _, rfl, fun h => by cases h⟩
theorem ws (i : Nat) (h : i < 1000000) : wrap64 ((i : Int) + 1) = ((i + 1 : Nat) : Int) := by unfold wrap64; omega
section
variable {N : Nat} {n i : Int} {eq ge : List S45}
theorem drop_l3 (B : Nat) (hB : 73786976294838300000 ≤ B) (hN : N ≤ 16) (h0 : 0 ≤ i) (hi : i < N) (up down eqo : List S45) (j : Nat) (p : S45) (hp : okB N p ∧ 0 < rd p.f0 i ∧ Gs eq ge p) (hd : ∀ f ∈ down, okB N f ∧ rd f.f0 i < 0 ∧ Gs eq ge f) (ld : down.length ≤ 5000) (M : Nat) (hM : B ≤ M) (Z : Nat) (hZ : Z ≤ 512)
    (hc : ∀ k' zero, M ≤ k' → (∀ f ∈ zero, Rs N i eq ge f) → zero.length + 0 = Z → PostD N n i eq ge (fm_Drop.l2 k' up (up.length : Int) (wrap64 ((j : Int) + 1)) i n eqo zero down)) :
    ∀ (d j2 k : Nat) (zero : List S45), j2 + d = down.length → M + d < k → (∀ f ∈ zero, Rs N i eq ge f) → zero.length + d = Z →
      PostD N n i eq ge (fm_Drop.l3 k up (up.length : Int) (j : Int) down (down.length : Int) (j2 : Int) i n eqo zero down p.f0 p.f1) := by
  intro d
  induction d with
  | zero =>
    intro j2 k zero hj hk hz hl
    obtain ⟨k, rfl⟩ : ∃ m, k = m + 1 := ⟨k - 1, by omega⟩
    simp only [fm_Drop.l3]
    rw [if_neg (by omega)]
    exact hc k zero (by omega) hz hl
  | succ d ih =>
    intro j2 k zero hj hk hz hl
    obtain ⟨k, rfl⟩ : ∃ m, k = m + 1 := ⟨k - 1, by omega⟩
    have hlt : j2 < down.length := by omega
    obtain ⟨q1, q2, q3⟩ := hd _ (List.getElem_mem hlt)
    simp only [fm_Drop.l3]
    rw [if_pos (by omega), if_pos (by omega), if_pos (by omega), rd45_at down j2 hlt]
    obtain ⟨l, s, b, hr, hb⟩ := row_gen (k := k) hp.1 q1 hN h0 hi hp.2.1 q2 (by omega)
    rw [hr, Option.bind_some]
    dsimp only
    cases b with
    | false => rw [if_neg (by simp)]; exact post_no
    | true =>
      rw [if_pos rfl, if_pos (by omega), ws j2 (by omega)]
      refine ih (j2 + 1) k _ (by omega) (by omega) ?_ (by simp; omega)
      intro f hf
      rcases List.mem_append.1 hf with hf | hf
      · exact hz f hf
      · rcases List.mem_cons.1 hf with rfl | hf
        · exact .inr ⟨p, _, hp.1, q1, hp.2.2, q3, hp.2.1, q2, hb rfl⟩
        · cases hf
theorem drop_l2 (B : Nat) (hB : 73786976294838300000 ≤ B) (hN : N ≤ 16) (h0 : 0 ≤ i) (hi : i < N) (up down eqo : List S45) (hu : ∀ f ∈ up, okB N f ∧ 0 < rd f.f0 i ∧ Gs eq ge f) (hd : ∀ f ∈ down, okB N f ∧ rd f.f0 i < 0 ∧ Gs eq ge f) (lu : up.length ≤ 5000) (ld : down.length ≤ 5000) (he : (∀ f ∈ eqo, f ∈ eq ∧ rd f.f0 i = 0) ∧ eqo.length ≤ eq.length) :
    ∀ (d j k : Nat) (zero : List S45), j + d = up.length → B + d * (down.length + 2) < k → (∀ f ∈ zero, Rs N i eq ge f) → zero.length + d * down.length ≤ 512 →
      PostD N n i eq ge (fm_Drop.l2 k up (up.length : Int) (j : Int) i n eqo zero down) := by
  intro d
  induction d with
  | zero =>
    intro j k zero hj hk hz hl
    obtain ⟨k, rfl⟩ : ∃ m, k = m + 1 := ⟨k - 1, by omega⟩
    simp only [fm_Drop.l2]
    rw [if_neg (by omega)]
    exact ⟨_, _, _, _, rfl, fun _ => ⟨rfl, he.1, he.2, hz, by omega⟩⟩
  | succ d ih =>
    intro j k zero hj hk hz hl
    obtain ⟨k, rfl⟩ : ∃ m, k = m + 1 := ⟨k - 1, by omega⟩
    have hlt : j < up.length := by omega
    have e1 : (d + 1) * (down.length + 2) = d * (down.length + 2) + (down.length + 2) := Nat.succ_mul _ _
    have e2 : (d + 1) * down.length = d * down.length + down.length := Nat.succ_mul _ _
    rw [e1] at hk
    rw [e2] at hl
    simp only [fm_Drop.l2]
    rw [if_pos (by omega), if_pos (by omega), if_pos (by omega), rd45_at up j hlt]
    have h := drop_l3 B hB hN h0 hi (n := n) up down eqo j up[j] (hu _ (List.getElem_mem hlt)) hd ld (B + d * (down.length + 2) + 1) (by omega) (zero.length + down.length) (by omega)
      (fun k' z' hk' hz' hl' => by rw [ws j (by omega)]; exact ih (j + 1) k' z' (by omega) (by omega) hz' (by omega)) down.length 0 k zero (by omega) (by omega) hz rfl
    exact h
theorem neg_ok {f : S45} (hf : okB N f) : okB N (⟨f.f0.map (fun z => z * (-1)), f.f1 * (-1)⟩ : S45) := by
  obtain ⟨h1, h2, h3⟩ := hf
  refine ⟨by simp [h1], fun c hc => ?_, by unfold inB at h3 ⊢; show -4611686018427387904 ≤ f.f1 * (-1) ∧ f.f1 * (-1) ≤ 4611686018427387904; omega⟩
  obtain ⟨x, hx, rfl⟩ := List.mem_map.1 hc
  have := h2 x hx
  unfold inB at this ⊢; omega
/-- What has been taken so far. -/
structure InvD (N : Nat) (i : Int) (eq ge : List S45) (c : Nat) (zero up down : List S45) : Prop where
  z : ∀ f ∈ zero, okB N f ∧ rd f.f0 i = 0 ∧ Gs eq ge f
  u : ∀ f ∈ up, okB N f ∧ 0 < rd f.f0 i ∧ Gs eq ge f
  d : ∀ f ∈ down, okB N f ∧ rd f.f0 i < 0 ∧ Gs eq ge f
  l : zero.length + up.length + down.length ≤ c
theorem mem_snoc {P : S45 → Prop} {l : List S45} {f : S45} (h : ∀ g ∈ l, P g) (hf : P f) : ∀ g ∈ l ++ [f], P g := by
  intro g hg
  rcases List.mem_append.1 hg with hg | hg
  · exact h g hg
  · rcases List.mem_cons.1 hg with rfl | hg
    · exact hf
    · cases hg
theorem InvD.up {c : Nat} {zero up down : List S45} (h : InvD N i eq ge c zero up down) {f : S45} (ho : okB N f) (hs : 0 < rd f.f0 i) (hg : Gs eq ge f) : InvD N i eq ge (c + 1) zero (up ++ [f]) down :=
  ⟨h.z, mem_snoc h.u ⟨ho, hs, hg⟩, h.d, by have := h.l; simp; omega⟩
theorem InvD.down {c : Nat} {zero up down : List S45} (h : InvD N i eq ge c zero up down) {f : S45} (ho : okB N f) (hs : rd f.f0 i < 0) (hg : Gs eq ge f) : InvD N i eq ge (c + 1) zero up (down ++ [f]) :=
  ⟨h.z, h.u, mem_snoc h.d ⟨ho, hs, hg⟩, by have := h.l; simp; omega⟩
theorem InvD.zero {c : Nat} {zero up down : List S45} (h : InvD N i eq ge c zero up down) {f : S45} (ho : okB N f) (hs : rd f.f0 i = 0) (hg : Gs eq ge f) : InvD N i eq ge (c + 1) (zero ++ [f]) up down :=
  ⟨mem_snoc h.z ⟨ho, hs, hg⟩, h.u, h.d, by have := h.l; simp; omega⟩
theorem InvD.le {c : Nat} {zero up down : List S45} (h : InvD N i eq ge c zero up down) : zero.length ≤ c ∧ up.length ≤ c ∧ down.length ≤ c := by have := h.l; omega
theorem drop_l1 (B : Nat) (hB : 73786976294838300000 ≤ B) (hN : N ≤ 16) (h0 : 0 ≤ i) (hi : i < N) (heq : ∀ f ∈ eq, okB N f) (le : eq.length ≤ 600) : ∀ (d j k c : Nat) (eqo zero up down : List S45), j + d = eq.length → B + 30000000 + 4 * d < k → InvD N i eq ge c zero up down → c + 2 * d ≤ 2000 → (∀ f ∈ eqo, f ∈ eq ∧ rd f.f0 i = 0) → eqo.length ≤ j →
    PostD N n i eq ge (fm_Drop.l1 k eq (eq.length : Int) (j : Int) i n eqo zero up down) := by
  intro d
  induction d with
  | zero =>
    intro j k c eqo zero up down hj hk hI hc he hl
    obtain ⟨k, rfl⟩ : ∃ m, k = m + 1 := ⟨k - 1, by omega⟩
    obtain ⟨b1, b2, b3⟩ := hI.le
    simp only [fm_Drop.l1]
    rw [if_neg (by omega)]
    have hm : ((up.length * down.length : Nat) : Int) = (up.length : Int) * (down.length : Int) := Int.natCast_mul _ _
    have hm2 : up.length * down.length ≤ 2000 * 2000 := Nat.mul_le_mul (by omega) (by omega)
    rw [← hm, w64 (a := ((up.length * down.length : Nat) : Int)) (by omega), w64 (by omega)]
    by_cases h : (zero.length : Int) + ((up.length * down.length : Nat) : Int) > 512
    · rw [if_pos h]; exact post_no
    · rw [if_neg h]
      have hm3 : up.length * (down.length + 2) ≤ 2000 * 2002 := Nat.mul_le_mul (by omega) (by omega)
      exact drop_l2 B hB hN h0 hi (n := n) up down eqo hI.u hI.d (by omega) (by omega) ⟨he, by omega⟩ up.length 0 k zero (by omega) (by omega) (fun f hf => .inl (hI.z f hf)) (by omega)
  | succ d ih =>
    intro j k c eqo zero up down hj hk hI hc he hl
    obtain ⟨k, rfl⟩ : ∃ m, k = m + 2 := ⟨k - 2, by omega⟩
    obtain ⟨b1, b2, b3⟩ := hI.le
    have hlt : j < eq.length := by omega
    have hmem := List.getElem_mem hlt
    have hok := heq _ hmem
    have hG : Gs eq ge eq[j] := .inr ⟨_, hmem, .inl rfl⟩
    simp only [fm_Drop.l1]
    rw [if_pos (by omega), if_pos (by omega), if_pos (by omega), if_pos h0, rd45_at eq j hlt, if_pos (by rw [hok.1]; exact hi), ws j (by omega)]
    by_cases hz : rd eq[j].f0 i = 0
    · rw [if_pos hz, if_pos (by omega)]
      exact ih (j + 1) (k + 1) c _ zero up down (by omega) (by omega) hI (by omega) (mem_snoc he ⟨hmem, hz⟩) (by simp; omega)
    · rw [if_neg hz]
      obtain ⟨l', a', e, hs, hs2⟩ := scale_gen (l := eq[j].f0) (a := eq[j].f1) (c := -1) (fun z hz => inB_R (hok.2.1 z hz)) (inB_R hok.2.2) (by unfold inR; omega) (by rw [hok.1]; omega)
      rw [hs, Option.bind_some]
      dsimp only
      by_cases ce : (e.length : Int) = 0
      · rw [if_pos ce]
        obtain ⟨rfl, rfl, _, _⟩ := hs2 ce
        have hno := neg_ok hok
        have hnG : Gs eq ge (⟨eq[j].f0.map (fun z => z * (-1)), eq[j].f1 * (-1)⟩ : S45) := .inr ⟨_, hmem, .inr ⟨rfl, rfl⟩⟩
        have j3 : ∀ (c' : Nat) (zero up down : List S45), InvD N i eq ge c' zero up down → c' ≤ c + 1 → PostD N n i eq ge (fm_Drop.j3 (k + 1) eq (eq.length : Int) (j : Int) i n eqo zero up down (eq[j].f0.map (fun z => z * (-1))) (eq[j].f1 * (-1))) := by
          intro c' zero up down hI' hc'
          obtain ⟨b1, b2, b3⟩ := hI'.le
          simp only [fm_Drop.j3]
          rw [if_pos h0, if_pos (by rw [hno.1]; exact hi), ws j (by omega)]
          by_cases g1 : rd (eq[j].f0.map (fun z => z * (-1))) i > 0
          · rw [if_pos g1, if_pos (by omega)]
            exact ih (j + 1) k (c' + 1) eqo _ _ _ (by omega) (by omega) (hI'.up hno g1 hnG) (by omega) he (by omega)
          · rw [if_neg g1]
            by_cases g2 : rd (eq[j].f0.map (fun z => z * (-1))) i < 0
            · rw [if_pos g2, if_pos (by omega)]
              exact ih (j + 1) k (c' + 1) eqo _ _ _ (by omega) (by omega) (hI'.down hno g2 hnG) (by omega) he (by omega)
            · rw [if_neg g2, if_pos (by omega)]
              exact ih (j + 1) k (c' + 1) eqo _ _ _ (by omega) (by omega) (hI'.zero hno (by show rd (eq[j].f0.map (fun z => z * (-1))) i = 0; omega) hnG) (by omega) he (by omega)
        by_cases g1 : rd eq[j].f0 i > 0
        · rw [if_pos g1, if_pos (by omega)]
          exact j3 (c + 1) _ _ _ (hI.up hok g1 hG) (by omega)
        · rw [if_neg g1, if_pos (by omega), if_pos (by omega)]
          exact j3 (c + 1) _ _ _ (hI.down hok (by show rd eq[j].f0 i < 0; omega) hG) (by omega)
      · rw [if_neg ce]; exact post_no
theorem drop_l0 (B : Nat) (hB : 73786976294838300000 ≤ B) (hN : N ≤ 16) (h0 : 0 ≤ i) (hi : i < N) (heq : ∀ f ∈ eq, okB N f) (le : eq.length ≤ 600) (hge : ∀ f ∈ ge, okB N f) (lg : ge.length ≤ 600) (g0 : List S45) : ∀ (d j k : Nat) (zero up down : List S45), j + d = ge.length → B + 40000000 + d < k → InvD N i eq ge j zero up down →
    PostD N n i eq ge (fm_Drop.l0 k ge (ge.length : Int) (j : Int) n eq g0 i n zero up down) := by
  intro d
  induction d with
  | zero =>
    intro j k zero up down hj hk hI
    obtain ⟨k, rfl⟩ : ∃ m, k = m + 1 := ⟨k - 1, by omega⟩
    simp only [fm_Drop.l0]
    rw [if_neg (by omega)]
    exact drop_l1 B hB hN h0 hi heq le eq.length 0 k j [] zero up down (by omega) (by omega) hI (by omega) (fun f hf => nomatch hf) (by simp)
  | succ d ih =>
    intro j k zero up down hj hk hI
    obtain ⟨k, rfl⟩ : ∃ m, k = m + 1 := ⟨k - 1, by omega⟩
    obtain ⟨b1, b2, b3⟩ := hI.le
    have hlt : j < ge.length := by omega
    have hmem := List.getElem_mem hlt
    have hok := hge _ hmem
    have hG : Gs eq ge ge[j] := .inl hmem
    simp only [fm_Drop.l0]
    rw [if_pos (by omega), if_pos (by omega), if_pos (by omega), if_pos h0, rd45_at ge j hlt, if_pos (by rw [hok.1]; exact hi), ws j (by omega)]
    by_cases g1 : rd ge[j].f0 i > 0
    · rw [if_pos g1, if_pos (by omega)]
      exact ih (j + 1) k _ _ _ (by omega) (by omega) (hI.up hok g1 hG)
    · rw [if_neg g1]
      by_cases g2 : rd ge[j].f0 i < 0
      · rw [if_pos g2, if_pos (by omega)]
        exact ih (j + 1) k _ _ _ (by omega) (by omega) (hI.down hok g2 hG)
      · rw [if_neg g2, if_pos (by omega)]
        exact ih (j + 1) k _ _ _ (by omega) (by omega) (hI.zero hok (by show rd ge[j].f0 i = 0; omega) hG)
theorem drop_spec (B : Nat) (hB : 73786976294838300000 ≤ B) (hN : N ≤ 16) (h0 : 0 ≤ i) (hi : i < N) (hn : i < n) (heq : ∀ f ∈ eq, okB N f) (le : eq.length ≤ 600) (hge : ∀ f ∈ ge, okB N f) (lg : ge.length ≤ 600) {k : Nat} (hk : B + 50000000 ≤ k) : PostD N n i eq ge (fm_Drop.f k n eq ge i) := by
  obtain ⟨k, rfl⟩ : ∃ m, k = m + 1 := ⟨k - 1, by omega⟩
  unfold fm_Drop.f
  rw [if_neg (by omega), decide_eq_false (by omega), fm_Drop.j0, if_neg (by simp)]
  exact drop_l0 B hB hN h0 hi heq le hge lg ge ge.length 0 k [] [] [] (by omega) (by omega) ⟨(fun f hf => nomatch hf), (fun f hf => nomatch hf), (fun f hf => nomatch hf), by simp⟩
end

end Go.Proofs.Ytmglfimdhbooeaa.Pure
