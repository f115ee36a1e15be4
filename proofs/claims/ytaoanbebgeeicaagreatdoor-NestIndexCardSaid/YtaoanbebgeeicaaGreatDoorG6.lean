/- Each event does in the world what it does to the ghost heap. -/
import Derived.Test.YtaoanbebgeeicaaGreatDoorG5
namespace Go.Proofs.YtaoanbebgeeicaaGreatDoor.G
open Go Go.RowKit
set_option linter.unusedVariables false
set_option linter.unusedSimpArgs false

def Fresh (r : Rho) (H : Hp) (n n' : Nat) : Prop := ∀ m, n ≤ m → m < n' → r m = none ∧ ∀ o, H m o = none
/-- A step of the model that keeps the tie. -/
def Does (P : Program) (r : Rho) (H : Hp) (n : Nat) (w : World) (s : Sem Next) (v : AV) (H' : Hp) (n' : Nat) : Prop :=
  ∃ nx w' r' v', s.run P w = .ok nx w' ∧ (nx = .value v' ∨ nx = .skip ∧ v' = undef) ∧ RV r' v v' ∧ Rel P r' H' w' ∧ Adv n n' r H w r' H' w'

theorem row_ok {H : Hp} {r : Rho} {vs : List AV} {cs : List Value} (h1 : ∀ v ∈ vs, v.one = true) (hr : RVs r vs cs) : ∀ (o : Nat) c, (vs.map Cell.rw)[o]? = some c → ∃ v v', c = .rw v ∧ v.one = true ∧ cs.toArray[o]? = some v' ∧ RV r v v' := fun o c e => by
  rw [List.getElem?_map] at e
  cases hv : vs[o]? with
  | none => rw [hv] at e; cases e
  | some v =>
    rw [hv] at e; cases e
    obtain ⟨v', h2, h3⟩ := hr.get hv
    exact ⟨v, v', rfl, h1 v (List.mem_of_getElem? hv), by simpa using h2, h3⟩
theorem srcAV_ok {P : Program} {r : Rho} {H : Hp} {w : World} {g : HI} (hg : g.Ok H) (h : Rel P r H w) {sz m : Nat} {x : AV} {x' : Value} {vs : List AV} (e : srcAV g sz x = some (m, vs)) (hx : RV r x x') :
    vs.length = m * sz ∧ (∀ v ∈ vs, v.one = true) ∧ ∃ vs' : Array Value, RVs r vs vs'.toList ∧ (∀ w, (Builtin.lenOf x').run P w = .ok m w) ∧ (Builtin.firstCells sz m x').run P w = .ok vs' w ∧ (Builtin.firstCells sz m x').run P w.drew = .ok vs' w.drew := by
  unfold srcAV at e
  split at e
  · rename_i s
    split at e
    · rename_i h1
      have h1 := Nat.eq_of_beq_eq_true h1
      subst h1
      cases e
      simp only [RV] at hx; obtain ⟨rfl, hs⟩ := hx
      refine ⟨by rw [(asBytes_ok s).1, Nat.mul_one], asBytes_one s, (s.map fun (b : Nat) => Value.int .u8 (b : Int)).toArray, (asBytes_ok s).2 r, fun w => by simp [Builtin.lenOf, bytes_size], ?_, ?_⟩ <;>
      · have : ((bytesOf s).extract 0 s.length).data.map (fun b => Value.int .u8 b.toNat) = (s.map fun (b : Nat) => Value.int .u8 (b : Int)).toArray := by
          rw [bytes_extract]
          apply Array.ext'
          simp [bytesOf]
          intro b hb
          have := hs b hb; omega
        simp only [Builtin.firstCells, this, Sem.run_pure]
    · cases e
  · cases e
    simp only [RV] at hx; subst hx
    exact ⟨by simp, by simp, #[], by simp [RVs], fun w => by simp [Builtin.lenOf], by simp [Builtin.firstCells], by simp [Builtin.firstCells]⟩
  · rename_i n o len ex c
    split at e
    · rename_i l hl
      cases e
      simp only [RV] at hx; obtain ⟨p, c', hp, rfl, _⟩ := hx
      obtain ⟨k1, k2, l', k3, k4⟩ := hg.reads h hl hp
      have h1 := run_firstCells_some (P := P) w sz m ⟨p.b, p.d + o, none⟩ m c' l' (by rw [k3.length, k1]) (fun j v hj => by rw [addr_add]; exact k4 j v hj)
      have h2 := run_firstCells_some (P := P) w.drew sz m ⟨p.b, p.d + o, none⟩ m c' l' (by rw [k3.length, k1]) (fun j v hj => by rw [addr_add]; exact k4 j v hj)
      exact ⟨k1, k2, l'.toArray, by simpa using k3, fun w => by simp [Builtin.lenOf], h1, h2⟩
    · cases e
  · cases e

theorem Does.pure {P : Program} {r : Rho} {H : Hp} {n : Nat} {w : World} {s : Sem Next} {v : AV} {v' : Value} (h : Rel P r H w) (hr : RV r v v') (hs : s.run P w = .ok (.value v') w) : Does P r H n w s v H n :=
  ⟨_, w, r, v', hs, .inl rfl, hr, h, .refl _ _ _ _⟩

/-- A row that grows into a new block. -/
theorem grow_new {P : Program} {r : Rho} {H : Hp} {n : Nat} {w : World} (h : Rel P r H w) (hn : r n = none) {sz len cap : Nat} {vs : List AV} {vs' : Array Value} {z : Array Value} (e : TypeId) (hr : RVs r vs vs'.toList) (h1 : ∀ v ∈ vs, v.one = true)
    (hl : vs.length = len * sz) (hz : z.size = sz) (hpos : 0 < sz) (hcap : len ≤ cap) :
    ∃ r', RV r' (.slice n 0 len false sz) (.slice (some ⟨w.heap.size, 0, none⟩) len cap) ∧ r'  = r.set n ⟨w.heap.size, 0, sz, cap⟩ ∧
      Rel P r' (H.row n fun j => (vs.map Cell.rw ++ [.tail sz])[j]?) (w.drew.alloc (.cells (vs' ++ Builtin.zeroCells z (cap - len)) e)) ∧ Adv n (n + 1) r H w r' (H.row n fun j => (vs.map Cell.rw ++ [.tail sz])[j]?) (w.drew.alloc (.cells (vs' ++ Builtin.zeroCells z (cap - len)) e)) := by
  have hs : vs'.size = len * sz := by rw [← Array.length_toList, hr.length, hl]
  refine ⟨_, ⟨⟨w.heap.size, 0, sz, cap⟩, cap, by simp [Rho.set], rfl, hcap, rfl, by simp⟩, rfl, ?_, ?_⟩
  · refine h.drew.alloc hn _ _ e sz cap fun o c ec => ?_
    rw [List.getElem?_append] at ec
    split at ec
    · obtain ⟨v, v', q1, q2, q3, q4⟩ := row_ok (H := H) h1 hr o c ec
      refine .inl ⟨v, v', q1, q2, ?_, q4⟩
      have : vs'[o]? = some v' := by simpa using q3
      rw [Array.getElem?_append_left (by rw [Array.getElem?_eq_some_iff] at this; exact this.1)]; exact this
    · rename_i ho
      have h0 : o = len * sz ∧ c = .tail sz := by
        rw [List.length_map, hl] at ho
        rw [List.length_map, hl] at ec
        cases hk : o - len * sz with
        | zero => rw [hk] at ec; simp at ec; exact ⟨by omega, ec.symm⟩
        | succ k => rw [hk] at ec; simp at ec
      obtain ⟨rfl, rfl⟩ := h0
      refine .inr ⟨rfl, hpos, ?_, fun o' c' e' hle => ?_⟩
      · rw [Array.size_append, hs, Builtin.zeroCells, Array.size_map, Array.size_range, hz, ← Nat.add_mul]
        exact Nat.mul_le_mul_right _ (by omega)
      · have := (List.getElem?_eq_some_iff.mp e').1
        simp [hl] at this; omega
  · have := Adv.drew (n := n) (r := r) (H := H) (w := w)
    exact this.trans (Adv.alloc h.drew hn _ _ e _ rfl) (Nat.le_refl _) (Nat.le_succ _)

/-- What there is, is read out of the world. -/
theorem Rel.rows {P : Program} {r : Rho} {H : Hp} {w : World} (h : Rel P r H w) {n0 : Nat} {p : Pl} (hp : r n0 = some p) : ∀ (L o : Nat), (∀ j, j < L → ∃ u, H n0 (o + j) = some (.rw u)) →
    ∃ (old : List AV) (l' : List Value), (∀ j, j < L → H n0 (o + j) = (old[j]?).map Cell.rw) ∧ old.length = L ∧ (∀ v ∈ old, v.one = true) ∧ RVs r old l' ∧ (∀ j v, l'[j]? = some v → w.cell? ⟨p.b, p.d + o + j, none⟩ = some v)
  | 0, o, _ => ⟨[], [], fun j hj => by omega, rfl, by simp, by simp [RVs], by simp⟩
  | L + 1, o, hrw => by
    obtain ⟨v0, hv0⟩ := hrw 0 (by omega)
    obtain ⟨old, l', e1, e2, e3, e4, e5⟩ := Rel.rows h hp L (o + 1) (fun j hj => by obtain ⟨x, hx⟩ := hrw (j + 1) (by omega); exact ⟨x, by rw [show o + 1 + j = o + (j + 1) by omega]; exact hx⟩)
    obtain ⟨f1, q, v', hq, f2, f3⟩ := h.get hv0 rfl
    rw [hp] at hq; cases hq
    refine ⟨v0 :: old, v' :: l', fun j hj => ?_, by simp [e2], fun v hv => ?_, by rw [RVs]; exact ⟨v', l', rfl, f3, e4⟩, fun j v hj => ?_⟩
    · cases j with
      | zero => simpa using hv0
      | succ j => rw [show o + (j + 1) = o + 1 + j by omega, e1 j (by omega)]; simp
    · rcases List.mem_cons.mp hv with rfl | hv
      · exact f1
      · exact e3 v hv
    · cases j with
      | zero => simp at hj; subst hj; exact f2
      | succ j => simp at hj; rw [show p.d + o + (j + 1) = p.d + (o + 1) + j by omega]; exact e5 j v hj
theorem app_does {P : Program} {r : Rho} {H : Hp} {n : Nat} {w : World} {g : HI} (hg : g.Ok H) (h : Rel P r H w) {sz by_ : Nat} {s1 x v : AV} {d : Dl} {s : Sem Next} (hs : Sim P r s (.app sz by_ s1 x)) (he : Ev.step g n (.app sz by_ s1 x) = some (v, d))
    (hf : Fresh r H n (d.next n)) : Does P r H n w s v (d.app H n) (d.next n) := by
  obtain ⟨t, u, td, e, i, z, s', x', ty, ht, hu, hd, hi, rfl, rfl, hz, hzs, rs, rx, hrun⟩ := hs
  simp only [Ev.step] at he
  split at he
  · rename_i m vs hsrc
    split at he
    · rename_i hpos
      have hpos : 0 < i.size := Nat.le_of_ble_eq_true hpos
      obtain ⟨l1, one1, vs', rvs, hlen, hfc, hfc2⟩ := srcAV_ok hg h hsrc rx
      unfold appStep at he
      split at he
      · -- onto nil
        simp only [RV] at rs; subst rs
        split at he
        · cases he
          refine Does.pure h rfl ?_
          rw [hrun, run_app_room ht hu hd hi (hlen w) hfc (Nat.le_refl _)]; rfl
        · rename_i hm
          split at he
          · rename_i hb; cases he
            simp only [Bool.and_eq_true] at hb
            have b1 := Nat.le_of_ble_eq_true hb.1
            have b2 := Nat.le_of_ble_eq_true hb.2
            have hm0 : 0 < m := Nat.pos_of_ne_zero hm
            have hn := (hf n (Nat.le_refl _) (Nat.lt_succ_self _)).1
            have hgr := run_app_grow (P := P) (ty := ty) (base := none) (sLen := 0) (sCap := 0) (old := #[]) ht hu hd hi hz (hlen w) hfc2 (by simp [Builtin.firstCells]) (by omega) (by omega) (by simpa using b1)
            obtain ⟨r', q1, q2, q3, q4⟩ := grow_new (cap := grownCap w (0 + m) 0 e) h hn e rvs one1 l1 hzs hpos (by have := grownCap_ge w (0 + m) 0 e; omega)
            refine ⟨_, _, r', _, ?_, .inl rfl, q1, q3, q4⟩
            rw [hrun, hgr]; simp
          · cases he
      · rename_i n0 o len ex c
        have hrs := rs
        simp only [RV] at rs; obtain ⟨p, c', hp, rfl, hlc, hcap⟩ := rs
        split at he
        · cases he
          refine Does.pure h hrs ?_
          rw [hrun, run_app_room ht hu hd hi (hlen w) hfc (by omega)]
          have hv : vs'.toList = [] := by have := rvs.length; rw [l1, Nat.zero_mul] at this; exact List.length_eq_zero_iff.mp this
          rw [hv]; simp [storeCells]
        · rename_i hm
          have hm0 : 0 < m := Nat.pos_of_ne_zero hm
          split at he
          · rename_i hb
            simp only [Bool.and_eq_true] at hb
            have b1 := Nat.le_of_ble_eq_true hb.1
            have b2 := Nat.le_of_ble_eq_true hb.2
            split at he
            · -- what there is room for is told
              simp only [capOk] at hcap; subst hcap
              split at he
              · rename_i hroom
                have hroom := Nat.le_of_ble_eq_true hroom
                split at he
                · rename_i hrw; cases he
                  have hrw' := hg.rw _ _ _ hrw
                  rw [← l1] at hrw'
                  obtain ⟨k1, k2⟩ := h.stores hp n vs vs'.toList _ _ _ hrw' one1 rvs
                  obtain ⟨a1, a2⟩ := h.storable hp hrw'
                  have hst := run_sets (P := P) ⟨p.b, p.d + (o + len * i.size), none⟩ vs'.toList 0 w rfl (fun j hj => by simpa using a1 j (by rw [← rvs.length]; exact hj)) (fun j hj => by simpa using a2 j (by rw [← rvs.length]; exact hj)) (oneCells rvs one1)
                  refine ⟨_, _, r, _, ?_, .inl rfl, ⟨p, c', hp, rfl, hroom, rfl⟩, k1, k2⟩
                  rw [hrun, run_app_room ht hu hd hi (hlen w) hfc hroom]
                  simp only [addr_add, Nat.add_assoc] at hst ⊢
                  simp only [hst, Result.andThen_ok, Nat.add_zero]
                · cases he
              · rename_i hroom
                have hroom : c' < len + m := by
                  rcases Nat.lt_or_ge c' (len + m) with hh | hh
                  · exact hh
                  · exact absurd (Nat.ble_eq_true_of_le hh) hroom
                split at he
                · rename_i old hold; cases he
                  obtain ⟨k1, k2, l', k3, k4⟩ := hg.reads h hold hp
                  have hfo := run_firstCells_some (P := P) w.drew i.size len ⟨p.b, p.d + o, none⟩ len c' l' (by rw [k3.length, k1]) (fun j v hj => by rw [addr_add]; exact k4 j v hj)
                  have hn := (hf n (Nat.le_refl _) (Nat.lt_succ_self _)).1
                  have hgr := run_app_grow (P := P) (ty := ty) (w := w) ht hu hd hi hz (hlen w) hfc2 hfo hroom b2 b1
                  obtain ⟨r', q1, q2, q3, q4⟩ := grow_new (vs := old ++ vs) (vs' := l'.toArray ++ vs') (len := len + m) (cap := grownCap w (len + m) c' e) h hn e (by rw [Array.toList_append]; exact k3.append rvs)
                    (fun v hv => (List.mem_append.mp hv).elim (k2 v) (one1 v)) (by rw [List.length_append, k1, l1, ← Nat.add_mul]) hzs hpos (grownCap_ge w (len + m) c' e)
                  refine ⟨_, _, r', _, ?_, .inl rfl, q1, q3, q4⟩
                  rw [hrun, hgr]; simp
                · cases he
            · -- a row of one's own
              split at he
              · rename_i hb2; cases he
                simp only [Bool.and_eq_true] at hb2
                obtain ⟨c1, c2, c3⟩ := hb2
                have c1 := Nat.eq_of_beq_eq_true c1
                subst c1
                have ht1 := hg.tl _ _ _ c2
                have hrw1 := hg.rw _ _ _ c3
                obtain ⟨g1, g2⟩ := hcap
                have hn := (hf n (Nat.le_refl _) (Nat.lt_succ_self _)).1
                have hne : n0 ≠ n := fun e => by rw [e, hn] at hp; cases hp
                by_cases hroom : len + m ≤ c'
                · obtain ⟨m1, m2⟩ := h.move (sz := i.size) (cap := c') hp hn hrw1 ht1 (by rw [g1]; exact g2)
                  have hself : (r.set n ⟨p.b, p.d + o, i.size, c'⟩) n = some ⟨p.b, p.d + o, i.size, c'⟩ := by simp [Rho.set]
                  have hle := Rho.le_set (p := ⟨p.b, p.d + o, i.size, c'⟩) hn
                  obtain ⟨u1, u2, u3, u4⟩ := m1.pushes hself (n + 1) vs vs'.toList _ _ (len * i.size) (by unfold Hp.move; rw [if_pos rfl, if_pos (Nat.le_refl _)]; exact ht1) one1 (RVs.mono hle _ _ rvs)
                    (by rw [l1, ← Nat.add_mul]; exact Nat.mul_le_mul_right _ hroom)
                  have hst := run_sets (P := P) ⟨p.b, p.d + o + len * i.size, none⟩ vs'.toList 0 w rfl (fun j hj => by simpa using u3 j hj) (fun j hj => by simpa using u4 j hj) (oneCells rvs one1)
                  refine ⟨_, sets w p.b (p.d + o + len * i.size) vs'.toList, r.set n ⟨p.b, p.d + o, i.size, c'⟩, _, ?_, .inl rfl, ⟨_, c', hself, rfl, hroom, rfl, by simp⟩, ?_, ?_⟩
                  · rw [hrun, run_app_room ht hu hd hi (hlen w) hfc hroom]
                    simp only [addr_add, Nat.add_assoc] at hst ⊢
                    simp only [hst, Result.andThen_ok, Nat.add_zero]
                  · simp only [Dl.app]; rw [grown_eq ht1 hne]; exact u1
                  · simp only [Dl.app]; rw [grown_eq ht1 hne]; exact m2.trans u2 (Nat.le_succ _) (Nat.le_refl _)
                · have hroom : c' < len + m := by omega
                  -- what there was is read out of the world
                  obtain ⟨old, l', e1, e2, e3, e4, e5⟩ := h.rows hp (len * i.size) o hrw1
                  have hfo := run_firstCells_some (P := P) w.drew i.size len ⟨p.b, p.d + o, none⟩ len c' l' (by rw [e4.length, e2]) (fun j v hj => by rw [addr_add]; exact e5 j v hj)
                  have hgr := run_app_grow (P := P) (ty := ty) (w := w) ht hu hd hi hz (hlen w) hfc2 hfo hroom b2 b1
                  obtain ⟨r', q1, q2, q3, q4⟩ := grow_new (vs := old ++ vs) (vs' := l'.toArray ++ vs') (len := len + m) (cap := grownCap w (len + m) c' e) h hn e (by rw [Array.toList_append]; exact e4.append rvs)
                    (fun v hv => (List.mem_append.mp hv).elim (e3 v) (one1 v)) (by rw [List.length_append, e2, l1, ← Nat.add_mul]) hzs hpos (grownCap_ge w (len + m) c' e)
                  have hk : ∀ m' j c, H.grown n0 o (len * i.size) n i.size vs m' j = some c → c = .dead ∨ (H.row n fun j => ((old ++ vs).map Cell.rw ++ [.tail i.size])[j]?) m' j = some c := fun m' j c ec => by
                    unfold Hp.grown at ec
                    unfold Hp.row
                    split at ec
                    · rename_i hm'; rw [if_pos hm']
                      refine .inr ?_
                      show ((old ++ vs).map Cell.rw ++ [.tail i.size])[j]? = some c
                      split at ec
                      · rename_i hj
                        rw [List.getElem?_append_left (by simp [e2]; omega), List.map_append, List.getElem?_append_left (by simp [e2]; exact hj), List.getElem?_map, ← e1 j hj]; exact ec
                      · rename_i hj
                        split at ec
                        · rename_i hj2; cases ec
                          rw [List.getElem?_append_right (by simp [e2]; omega)]; simp [e2, hj2]
                        · rename_i hj2
                          have hlt : j - len * i.size < vs.length := by have := (List.getElem?_eq_some_iff.mp ec).1; simpa using this
                          rw [List.getElem?_append_left (by simp [e2]; omega), List.map_append, List.getElem?_append_right (by simp [e2]; omega)]
                          simp only [List.length_map, e2]; exact ec
                    · rename_i hm'; rw [if_neg hm']
                      split at ec
                      · cases ec; exact .inl rfl
                      · exact .inr ec
                  refine ⟨_, _, r', _, ?_, .inl rfl, q1, q3.kill hk, q4.kill hk⟩
                  rw [hrun, hgr]; simp
              · cases he
          · cases he
      · cases he
    · cases he
  · cases he
end Go.Proofs.YtaoanbebgeeicaaGreatDoor.G
