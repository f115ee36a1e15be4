/- Every event; an operation's own contract. -/
import Derived.Test.YtaoanbebgeeicaaGreatDoorG6
namespace Go.Proofs.YtaoanbebgeeicaaGreatDoor.G
open Go Go.RowKit
set_option linter.unusedVariables false
set_option linter.unusedSimpArgs false

theorem RV.undef (r : Rho) : RV r (.tup []) undef := ⟨#[], rfl, by simp [RVs]⟩
theorem step_does {P : Program} {r : Rho} {H : Hp} {n : Nat} {w : World} {g : HI} (hg : g.Ok H) (h : Rel P r H w) {ev : Ev} {v : AV} {d : Dl} {s : Sem Next} (hs : Sim P r s ev) (he : ev.step g n = some (v, d))
    (hf : Fresh r H n (d.next n)) : Does P r H n w s v (d.app H n) (d.next n) := by
  cases ev with
  | app sz by_ s1 x => exact app_does hg h hs he hf
  | val x => simp only [Ev.step, Option.some.injEq, Prod.mk.injEq] at he; obtain ⟨rfl, rfl⟩ := he; obtain ⟨v', hr, hrun⟩ := hs; exact .pure h hr (hrun w)
  | call f args => simp [Ev.step] at he
  | bad => simp [Ev.step] at he
  | load m o k agg =>
    obtain ⟨p, hp, hk, hrun⟩ := hs
    simp only [Ev.step] at he
    split at he
    · rename_i l hl
      obtain ⟨k1, k2, l', k3, k4⟩ := hg.reads h hl hp
      have hrun := hrun w l' (by rw [k3.length, k1]) k4
      split at he
      · cases he
        exact .pure h ⟨l'.toArray, rfl, by simpa using k3⟩ (by simpa using hrun)
      · cases he
        rw [RVs] at k3; obtain ⟨y, ys, rfl, k3, _⟩ := k3
        exact .pure h k3 (by simpa using hrun)
      · cases he
    · cases he
  | bytes m o len =>
    obtain ⟨p, hp, hrun⟩ := hs
    simp only [Ev.step] at he
    split at he
    · rename_i l hl
      split at he
      · rename_i s0 hs0
        cases he
        obtain ⟨k1, k2, l', k3, k4⟩ := hg.reads h hl hp
        obtain ⟨b1, b2, b3⟩ := bytesAV_ok hs0
        refine .pure h ⟨rfl, b2⟩ (hrun w s0 (by rw [b1, k1]) b2 fun j b hj => ?_)
        obtain ⟨y, hy, hr⟩ := k3.get (b3 j b hj)
        rw [RV] at hr; subst hr
        exact k4 j _ hy
      · cases he
    · cases he
  | store m o vs =>
    obtain ⟨p, vs', hp, hr, hrun⟩ := hs
    simp only [Ev.step] at he
    split at he
    · rename_i hb; cases he
      simp only [Bool.and_eq_true] at hb
      have hrw := hg.rw _ _ _ hb.1
      have h1 := allOne_ok hb.2
      obtain ⟨k1, k2⟩ := h.stores hp n vs vs' _ _ _ hrw h1 hr
      obtain ⟨a1, a2⟩ := h.storable hp hrw
      have := hrun w (fun j hj => a1 j (by rw [← hr.length]; exact hj)) (fun j hj => a2 j (by rw [← hr.length]; exact hj)) (oneCells hr h1)
      exact ⟨_, _, r, _, this, .inr ⟨rfl, rfl⟩, .undef r, k1, k2⟩
    · cases he
  | newP vs =>
    obtain ⟨vs', ty, hr, hrun⟩ := hs
    simp only [Ev.step] at he
    split at he
    · rename_i hb; cases he
      have h1 := allOne_ok hb
      have hn := (hf n (Nat.le_refl _) (Nat.lt_succ_self _)).1
      refine ⟨_, _, r.set n ⟨w.heap.size, 0, 0, 0⟩, _, hrun w, .inl rfl, ⟨⟨w.heap.size, 0, 0, 0⟩, by simp [Rho.set], rfl⟩, h.alloc hn _ _ ty 0 0 fun o c ec => .inl (row_ok (H := H) h1 hr o c ec), Adv.alloc h hn _ _ ty _ rfl⟩
    · cases he
  | newS vs len =>
    obtain ⟨vs', ty, hr, hrun⟩ := hs
    simp only [Ev.step] at he
    split at he
    · rename_i hb; cases he
      have h1 := allOne_ok hb
      have hn := (hf n (Nat.le_refl _) (Nat.lt_succ_self _)).1
      refine ⟨_, _, r.set n ⟨w.heap.size, 0, 0, 0⟩, _, hrun w, .inl rfl, ⟨⟨w.heap.size, 0, 0, 0⟩, len, by simp [Rho.set], rfl, Nat.le_refl _, rfl⟩, h.alloc hn _ _ ty 0 0 fun o c ec => .inl (row_ok (H := H) h1 hr o c ec), Adv.alloc h hn _ _ ty _ rfl⟩
    · cases he
theorem Does.wp {P : Program} {r : Rho} {H H' : Hp} {n n' : Nat} {a : Act} {w : World} {o : Oper} {v : AV} {K : Act → World → Prop} {Q : Exit → Act → World → Prop} (h : Does P r H n w (execOp a.eval o) v H' n')
    (hk : ∀ r' w' v', RV r' v v' → Rel P r' H' w' → Adv n n' r H w r' H' w' → K (a.put o.dst v') w') : o.wp P a w K Q := by
  obtain ⟨nx, w', r', v', hrun, hnx, h1, h2, h3⟩ := h
  unfold Oper.wp
  rw [hrun]
  rcases hnx with rfl | ⟨rfl, rfl⟩
  · exact hk r' w' v' h1 h2 h3
  · exact hk r' w' undef h1 h2 h3

/-- What an operation does, told of the cells that it reads or writes alone. -/
structure OpOk (P : Program) (o : Oper) (e : Operand → AV) (F : Hp) (n : Nat) (v : AV) (F' : Hp) (n' : Nat) : Prop where
  le : n ≤ n'
  dom : ∀ m j c, F m j = some c → ∃ c', F' m j = some c'
  new : ∀ m j c, F' m j = some c → (∃ c', F m j = some c') ∨ (n ≤ m ∧ m < n')
  run : ∀ (H : Hp) (r : Rho) (w : World) (a : Act), (∀ x ∈ o.op.operands, RV r (e x) (a.eval x)) → F.sub H → Rel P r H w → Fresh r H n n' →
    ∀ (K : Act → World → Prop) (Q : Exit → Act → World → Prop), (∀ r' w' v', RV r' v v' → Rel P r' (F'.over H) w' → Adv n n' r H w r' (F'.over H) w' → K (a.put o.dst v') w') → o.wp P a w K Q

theorem sets_at : ∀ (vs : List AV) (H : Hp) (n o m j : Nat), H.sets n o vs m j = if m = n ∧ o ≤ j ∧ j < o + vs.length then (vs.map Cell.rw)[j - o]? else H m j
  | [], H, n, o, m, j => by rw [Hp.sets, if_neg (by simp <;> omega)]
  | v :: vs, H, n, o, m, j => by
    rw [Hp.sets, sets_at vs]
    simp only [List.length_cons, List.map_cons]
    by_cases h1 : m = n ∧ o + 1 ≤ j ∧ j < o + 1 + vs.length
    · rw [if_pos h1, if_pos (by omega)]
      obtain ⟨i, hi⟩ : ∃ i, j - o = i + 1 := ⟨j - o - 1, by omega⟩
      rw [hi, show j - (o + 1) = i by omega]; rfl
    · rw [if_neg h1]
      by_cases h2 : m = n ∧ j = o
      · obtain ⟨rfl, rfl⟩ := h2; rw [Hp.set_self, if_pos (by omega), Nat.sub_self]; rfl
      · rw [Hp.set_other h2, if_neg (by omega)]
def Dl.need (d : Dl) (F : Hp) : Prop :=
  match d with
  | .sets m o vs => ∀ j, j < vs.length → ∃ c, F m (o + j) = some c
  | .grow n0 off L sz vs => ∀ j, j ≤ L → ∃ c, F n0 (off + j) = some c
  | _ => True
theorem Dl.over_app {d : Dl} {F H : Hp} {n : Nat} (hs : F.sub H) (hn : d.need F) (hf : d.next n ≠ n → ∀ o, H n o = none) : (d.app F n).over H = d.app H n := by
  cases d with
  | id => exact Hp.over_of_sub hs
  | sets m o vs =>
    funext a b
    simp only [Dl.app, Hp.over, sets_at]
    by_cases h : a = m ∧ o ≤ b ∧ b < o + vs.length
    · rw [if_pos h, if_pos h]
      cases hx : (vs.map Cell.rw)[b - o]? with
      | some c => rfl
      | none => have := List.getElem?_eq_none_iff.mp hx; simp at this; omega
    · rw [if_neg h, if_neg h]
      cases hx : F a b with
      | some c => exact (hs _ _ _ hx).symm
      | none => rfl
  | row cells =>
    have hf := hf (by simp [Dl.next])
    funext a b
    simp only [Dl.app, Hp.over, Hp.row]
    by_cases h : a = n
    · subst h; simp only [if_true]
      cases hx : cells[b]? with
      | some c => rfl
      | none => exact hf b
    · simp only [if_neg h]
      cases hx : F a b with
      | some c => exact (hs _ _ _ hx).symm
      | none => rfl
  | grow n0 off L sz vs =>
    have hf := hf (by simp [Dl.next])
    funext a b
    simp only [Dl.app, Hp.over, Hp.grown]
    by_cases h : a = n
    · subst h; simp only [if_true]
      by_cases h1 : b < L
      · simp only [if_pos h1]
        obtain ⟨c, hc⟩ := hn b (by omega)
        rw [hc, hs _ _ _ hc]
      · simp only [if_neg h1]
        by_cases h2 : b = L + vs.length
        · simp only [if_pos h2]
        · simp only [if_neg h2]
          cases hx : (vs.map Cell.rw)[b - L]? with
          | some c => rfl
          | none => exact hf b
    · simp only [if_neg h]
      by_cases h1 : a = n0 ∧ off ≤ b ∧ b ≤ off + L
      · simp only [if_pos h1]
      · simp only [if_neg h1]
        cases hx : F a b with
        | some c => exact (hs _ _ _ hx).symm
        | none => rfl
theorem step_need {g : HI} {F : Hp} (hg : g.Ok F) {n : Nat} {ev : Ev} {v : AV} {d : Dl} (he : ev.step g n = some (v, d)) : d.need F := by
  cases ev with
  | val x => simp only [Ev.step, Option.some.injEq, Prod.mk.injEq] at he; obtain ⟨_, rfl⟩ := he; trivial
  | call f args => simp [Ev.step] at he
  | bad => simp [Ev.step] at he
  | load m o k agg =>
    simp only [Ev.step] at he
    split at he
    · split at he <;> first | (cases he; trivial) | cases he
    · cases he
  | bytes m o len =>
    simp only [Ev.step] at he
    split at he
    · split at he <;> first | (cases he; trivial) | cases he
    · cases he
  | store m o vs =>
    simp only [Ev.step] at he
    split at he
    · rename_i hb; cases he
      simp only [Bool.and_eq_true] at hb
      intro j hj
      obtain ⟨u, hu⟩ := hg.rw _ _ _ hb.1 j hj
      exact ⟨_, hu⟩
    · cases he
  | newP vs => simp only [Ev.step] at he; split at he <;> first | (cases he; trivial) | cases he
  | newS vs len => simp only [Ev.step] at he; split at he <;> first | (cases he; trivial) | cases he
  | app sz by_ s x =>
    simp only [Ev.step] at he
    split at he
    · rename_i m vs hsrc
      have hlen : vs.length = m * sz := by
        unfold srcAV at hsrc
        split at hsrc
        · split at hsrc
          · rename_i h1; cases hsrc; rw [(asBytes_ok _).1, Nat.eq_of_beq_eq_true h1, Nat.mul_one]
          · cases hsrc
        · cases hsrc; simp
        · split at hsrc
          · rename_i l hl; cases hsrc; exact (hg.rd _ _ _ _ hl).1
          · cases hsrc
        · cases hsrc
      split at he
      · unfold appStep at he
        split at he
        · split at he
          · cases he; trivial
          · split at he <;> first | (cases he; trivial) | cases he
        · split at he
          · cases he; trivial
          · split at he
            · split at he
              · split at he
                · split at he
                  · rename_i hrw; cases he
                    intro j hj
                    obtain ⟨u, hu⟩ := hg.rw _ _ _ hrw j (by rw [← hlen]; exact hj)
                    exact ⟨_, hu⟩
                  · cases he
                · split at he <;> first | (cases he; trivial) | cases he
              · split at he
                · rename_i hb; cases he
                  simp only [Bool.and_eq_true] at hb
                  intro j hj
                  have hrw2 := hg.rw _ _ _ hb.2.2
                  have htl := hg.tl _ _ _ hb.2.1
                  rcases Nat.lt_or_eq_of_le hj with hjl | hjl
                  · obtain ⟨u, hu⟩ := hrw2 j hjl; exact ⟨_, hu⟩
                  · subst hjl; exact ⟨_, htl⟩
                · cases he
            · cases he
        · cases he
      · cases he
    · cases he
theorem Dl.app_new {d : Dl} {F : Hp} {n m j : Nat} {c : Cell} (hn : d.need F) (h : d.app F n m j = some c) : (∃ c', F m j = some c') ∨ (n ≤ m ∧ m < d.next n) := by
  cases d with
  | id => exact .inl ⟨c, h⟩
  | sets m' o vs =>
    simp only [Dl.app, sets_at] at h
    split at h
    · rename_i hx; obtain ⟨rfl, h1, h2⟩ := hx
      obtain ⟨c', hc⟩ := hn (j - o) (by omega)
      rw [show o + (j - o) = j by omega] at hc; exact .inl ⟨c', hc⟩
    · exact .inl ⟨c, h⟩
  | row cells =>
    simp only [Dl.app, Hp.row] at h
    split at h
    · rename_i hx; subst hx; exact .inr ⟨Nat.le_refl _, Nat.lt_succ_self _⟩
    · exact .inl ⟨c, h⟩
  | grow n0 off L sz vs =>
    simp only [Dl.app, Hp.grown] at h
    split at h
    · rename_i hx; subst hx; exact .inr ⟨Nat.le_refl _, Nat.lt_succ_self _⟩
    · split at h
      · rename_i hx; obtain ⟨rfl, h1, h2⟩ := hx
        obtain ⟨c', hc⟩ := hn (j - off) (by omega)
        rw [show off + (j - off) = j by omega] at hc; exact .inl ⟨c', hc⟩
      · exact .inl ⟨c, h⟩
theorem Dl.app_dom {d : Dl} {F : Hp} {n m j : Nat} {c : Cell} (hf : d.next n ≠ n → ∀ o, F n o = none) (h : F m j = some c) : ∃ c', d.app F n m j = some c' := by
  cases d with
  | id => exact ⟨c, h⟩
  | sets m' o vs =>
    simp only [Dl.app, sets_at]
    split
    · rename_i hx
      exact ⟨_, List.getElem?_eq_getElem (by simp; omega)⟩
    · exact ⟨c, h⟩
  | row cells =>
    have hf := hf (by simp [Dl.next])
    simp only [Dl.app, Hp.row]
    split
    · rename_i hx; subst hx; rw [hf] at h; cases h
    · exact ⟨c, h⟩
  | grow n0 off L sz vs =>
    have hf := hf (by simp [Dl.next])
    simp only [Dl.app, Hp.grown]
    split
    · rename_i hx; subst hx; rw [hf] at h; cases h
    · split
      · exact ⟨_, rfl⟩
      · exact ⟨c, h⟩
/-- An operation that is no call, by its event. -/
theorem OpOk.of_step {P : Program} {o : Oper} {e : Operand → AV} {g : HI} {F : Hp} (hg : g.Ok F) {n : Nat} {v : AV} {d : Dl} (he : (evOp P e o.op).step g n = some (v, d)) (hf : d.next n ≠ n → ∀ o, F n o = none) :
    OpOk P o e F n v (d.app F n) (d.next n) := by
  have hn := step_need hg he
  refine ⟨d.le_next n, fun m j c h => Dl.app_dom hf h, fun m j c h => Dl.app_new hn h, fun H r w a hop hs h hfr K Q hk => ?_⟩
  have hov : (d.app F n).over H = d.app H n := Dl.over_app hs hn fun hne o => (hfr n (Nat.le_refl _) (by have := d.le_next n; omega)).2 o
  rw [hov] at hk
  exact (step_does (hg.sub hs) h (evOp_sim hop) he hfr).wp hk
end Go.Proofs.YtaoanbebgeeicaaGreatDoor.G
