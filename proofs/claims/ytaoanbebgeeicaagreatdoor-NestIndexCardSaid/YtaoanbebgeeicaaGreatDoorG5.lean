/- What an event does to the heap. -/
import Derived.Test.YtaoanbebgeeicaaGreatDoorG4
namespace Go.Proofs.YtaoanbebgeeicaaGreatDoor.G
open Go Go.RowKit
set_option linter.unusedVariables false
set_option linter.unusedSimpArgs false

inductive Dl where
  | id | sets (n o : Nat) (vs : List AV) | row (cells : List Cell) | grow (n0 off L sz : Nat) (vs : List AV)
def Hp.pushes (H : Hp) (n L sz : Nat) : List AV → Hp
  | [] => H
  | v :: vs => Hp.pushes (H.push n L sz v) n (L + 1) sz vs
/-- A row under a new name, more behind it; under its old name it is given away. -/
def Hp.grown (H : Hp) (n0 off L n sz : Nat) (vs : List AV) : Hp := fun m j =>
  if m = n then (if j < L then H n0 (off + j) else if j = L + vs.length then some (.tail sz) else (vs.map Cell.rw)[j - L]?)
  else if m = n0 ∧ off ≤ j ∧ j ≤ off + L then some .dead else H m j
def Dl.app (d : Dl) (H : Hp) (n : Nat) : Hp :=
  match d with
  | .id => H
  | .sets m o vs => H.sets m o vs
  | .row cells => H.row n (fun j => cells[j]?)
  | .grow n0 off L sz vs => H.grown n0 off L n sz vs
def Dl.next (d : Dl) (n : Nat) : Nat :=
  match d with
  | .id | .sets _ _ _ => n
  | _ => n + 1
theorem Dl.le_next (d : Dl) (n : Nat) : n ≤ d.next n := by cases d <;> simp [Dl.next]

/-- What an event asks of a heap. -/
structure HI where
  rd : Nat → Nat → Nat → Option (List AV)
  rw : Nat → Nat → Nat → Bool
  tl : Nat → Nat → Nat → Bool
structure HI.Ok (g : HI) (H : Hp) : Prop where
  rd : ∀ n o k l, g.rd n o k = some l → l.length = k ∧ ∀ j v, l[j]? = some v → ∃ c, H n (o + j) = some c ∧ c.val? = some v
  rw : ∀ n o k, g.rw n o k = true → ∀ j, j < k → ∃ u, H n (o + j) = some (.rw u)
  tl : ∀ n o sz, g.tl n o sz = true → H n o = some (.tail sz)
theorem HI.Ok.sub {g : HI} {F H : Hp} (h : g.Ok F) (hs : F.sub H) : g.Ok H :=
  ⟨fun n o k l e => ⟨(h.rd n o k l e).1, fun j v ej => by obtain ⟨c, hc, hv⟩ := (h.rd n o k l e).2 j v ej; exact ⟨c, hs _ _ _ hc, hv⟩⟩,
   fun n o k e j hj => by obtain ⟨u, hu⟩ := h.rw n o k e j hj; exact ⟨u, hs _ _ _ hu⟩, fun n o sz e => hs _ _ _ (h.tl n o sz e)⟩

def allOne : List AV → Bool
  | [] => true
  | v :: vs => v.one && allOne vs
theorem allOne_ok : ∀ {l : List AV}, allOne l = true → ∀ v ∈ l, v.one = true
  | [], _, v, hv => by simp at hv
  | x :: xs, h, v, hv => by
    simp only [allOne, Bool.and_eq_true] at h
    rcases List.mem_cons.mp hv with rfl | hv
    · exact h.1
    · exact allOne_ok h.2 v hv
def bytesAV : List AV → Option (List Nat)
  | [] => some []
  | .int .u8 (.ofNat b) :: l => if Nat.blt b 256 then (match bytesAV l with | some s => some (b :: s) | none => none) else none
  | _ => none
def asBytes : List Nat → List AV
  | [] => []
  | b :: s => .int .u8 (.ofNat b) :: asBytes s
/-- What is appended: its elements' number, its cells. -/
def srcAV (g : HI) (sz : Nat) (x : AV) : Option (Nat × List AV) :=
  match x with
  | .str s => if Nat.beq sz 1 then some (s.length, asBytes s) else none
  | .nilSlice => some (0, [])
  | .slice n o len _ _ => (match g.rd n o (len * sz) with | some l => some (len, l) | none => none)
  | _ => none
def appStep (g : HI) (new sz by_ : Nat) (s : AV) (m : Nat) (vs : List AV) : Option (AV × Dl) :=
  match s with
  | .nilSlice => (match m with
    | 0 => some (.nilSlice, .id)
    | m => if Nat.ble (m * by_) 140737488355328 && Nat.ble m 140737488355328 then some (.slice new 0 m false sz, .row (vs.map .rw ++ [.tail sz])) else none)
  | .slice n o len ex c => (match m with
    | 0 => some (.slice n o len ex c, .id)
    | m => if Nat.ble ((len + m) * by_) 140737488355328 && Nat.ble (len + m) 140737488355328 then
        (match ex with
         | true => if Nat.ble (len + m) c then (if g.rw n (o + len * sz) (m * sz) then some (.slice n o (len + m) true c, .sets n (o + len * sz) vs) else none)
             else (match g.rd n o (len * sz) with | some old => some (.slice new 0 (len + m) false sz, .row ((old ++ vs).map .rw ++ [.tail sz])) | none => none)
         | false => if Nat.beq c sz && (g.tl n (o + len * sz) sz && g.rw n o (len * sz)) then some (.slice new 0 (len + m) false sz, .grow n o (len * sz) sz vs) else none)
      else none)
  | _ => none
def Ev.step (g : HI) (new : Nat) : Ev → Option (AV × Dl)
  | .val v => some (v, .id)
  | .load n o k agg => (match g.rd n o k with
    | some l => (match agg, l with | true, l => some (.agg l, .id) | false, v :: _ => some (v, .id) | false, [] => none)
    | none => none)
  | .store n o vs => if g.rw n o vs.length && allOne vs then some (.tup [], .sets n o vs) else none
  | .newP vs => if allOne vs then some (.ptr new 0, .row (vs.map .rw)) else none
  | .newS vs len => if allOne vs then some (.slice new 0 len true len, .row (vs.map .rw)) else none
  | .app sz by_ s x => (match srcAV g sz x with
    | some (m, vs) => if Nat.blt 0 sz then appStep g new sz by_ s m vs else none
    | none => none)
  | .bytes n o len => (match g.rd n o len with | some l => (match bytesAV l with | some s => some (.str s, .id) | none => none) | none => none)
  | _ => none

theorem bytesAV_ok : ∀ {l : List AV} {s : List Nat}, bytesAV l = some s → s.length = l.length ∧ (∀ x ∈ s, x < 256) ∧ ∀ (j : Nat) b, s[j]? = some b → l[j]? = some (.int .u8 (b : Int))
  | [], s, h => by simp only [bytesAV, Option.some.injEq] at h; subst h; simp
  | .int .u8 (.ofNat b) :: l, s, h => by
    simp only [bytesAV] at h
    split at h
    · rename_i hb
      have hb : b < 256 := Nat.le_of_ble_eq_true hb
      split at h
      · rename_i s' hs
        cases h
        obtain ⟨h1, h2, h3⟩ := bytesAV_ok hs
        refine ⟨by simp [h1], fun x hx => ?_, fun j c hj => ?_⟩
        · rcases List.mem_cons.mp hx with rfl | hx
          · exact hb
          · exact h2 x hx
        · cases j with
          | zero => simp at hj; subst hj; rfl
          | succ j => simp at hj; simpa using h3 j c hj
      · cases h
    · cases h
theorem asBytes_ok : ∀ (s : List Nat), (asBytes s).length = s.length ∧ ∀ r, RVs r (asBytes s) (s.map fun (b : Nat) => Value.int .u8 (b : Int))
  | [] => ⟨rfl, fun r => by simp [asBytes, RVs]⟩
  | b :: s => ⟨by simp [asBytes, (asBytes_ok s).1], fun r => by rw [asBytes, List.map_cons, RVs]; exact ⟨_, _, rfl, rfl, (asBytes_ok s).2 r⟩⟩
theorem asBytes_one : ∀ (s : List Nat), ∀ v ∈ asBytes s, v.one = true
  | [], v, h => by simp [asBytes] at h
  | b :: s, v, h => by
    rcases List.mem_cons.mp h with rfl | h
    · rfl
    · exact asBytes_one s v h

/-- What is read lies in the world. -/
theorem HI.Ok.reads {P : Program} {r : Rho} {H : Hp} {w : World} {g : HI} (hg : g.Ok H) (h : Rel P r H w) {n o k : Nat} {l : List AV} (e : g.rd n o k = some l) {p : Pl} (hp : r n = some p) :
    l.length = k ∧ (∀ v ∈ l, v.one = true) ∧ ∃ l', RVs r l l' ∧ ∀ j v, l'[j]? = some v → w.cell? ⟨p.b, p.d + o + j, none⟩ = some v := by
  obtain ⟨hl, hc⟩ := hg.rd n o k l e
  have key : ∀ j v, l[j]? = some v → v.one = true ∧ ∃ v', w.cell? ⟨p.b, p.d + o + j, none⟩ = some v' ∧ RV r v v' := fun j v hj => by
    obtain ⟨c, h1, h2⟩ := hc j v hj
    obtain ⟨k1, q, v', hq, k2, k3⟩ := h.get h1 h2
    rw [hp] at hq; cases hq
    exact ⟨k1, v', by rw [Nat.add_assoc]; exact k2, k3⟩
  refine ⟨hl, fun v hv => ?_, ?_⟩
  · obtain ⟨j, hj⟩ := List.mem_iff_getElem?.mp hv
    exact (key j v hj).1
  · clear hc hl e
    induction l generalizing o with
    | nil => exact ⟨[], by simp [RVs], by simp⟩
    | cons v l ih =>
      obtain ⟨_, v', h1, h2⟩ := key 0 v rfl
      obtain ⟨l', h3, h4⟩ := ih (o := o + 1) (fun j u hj => by have := key (j + 1) u (by simpa using hj); rwa [show p.d + o + (j + 1) = p.d + (o + 1) + j by omega] at this)
      refine ⟨v' :: l', by rw [RVs]; exact ⟨v', l', rfl, h2, h3⟩, fun j u hj => ?_⟩
      cases j with
      | zero => simp at hj; subst hj; exact h1
      | succ j => simp at hj; rw [show p.d + o + (j + 1) = p.d + (o + 1) + j by omega]; exact h4 j u hj
theorem oneCells {r : Rho} : ∀ {l : List AV} {l' : List Value}, RVs r l l' → (∀ v ∈ l, v.one = true) → ∀ v ∈ l', v.oneCell' = true
  | [], l', h, _, v, hv => by rw [RVs] at h; subst h; simp at hv
  | x :: xs, l', h, h1, v, hv => by
    rw [RVs] at h; obtain ⟨y, ys, rfl, h2, h3⟩ := h
    rcases List.mem_cons.mp hv with rfl | hv
    · exact h2.oneCell (h1 x (by simp))
    · exact oneCells h3 (fun z hz => h1 z (by simp [hz])) v hv

theorem Rel.pushes {P : Program} {r : Rho} {n sz : Nat} {p : Pl} (hp : r n = some p) (n0 : Nat) : ∀ (vs : List AV) (vs' : List Value) (H : Hp) (w : World) (L : Nat), Rel P r H w → H n L = some (.tail sz) →
    (∀ v ∈ vs, v.one = true) → RVs r vs vs' → L + vs.length ≤ p.cap * p.sz →
    Rel P r (H.pushes n L sz vs) (sets w p.b (p.d + L) vs') ∧ Adv n0 n0 r H w r (H.pushes n L sz vs) (sets w p.b (p.d + L) vs') ∧ (∀ j, j < vs'.length → (w.cell? ⟨p.b, p.d + L + j, none⟩).isSome = true) ∧
      (∀ j, j < vs'.length → w.frozen? ⟨p.b, p.d + L + j, none⟩ = false)
  | [], vs', H, w, L, h, _, _, hv, _ => by rw [RVs] at hv; subst hv; exact ⟨h, .refl _ _ _ _, fun j hj => by simp at hj, fun j hj => by simp at hj⟩
  | v :: vs, _, H, w, L, h, ht, h1, hv, hroom => by
    rw [RVs] at hv; obtain ⟨v', vs', rfl, hv, hvs⟩ := hv
    simp only [List.length_cons] at hroom
    obtain ⟨k1, k2, k3, k4⟩ := h.push hp ht (h1 v (by simp)) hv (by omega)
    obtain ⟨i1, i2, i3, i4⟩ := Rel.pushes hp n0 vs vs' (H.push n L sz v) _ (L + 1) k1 (by unfold Hp.push; exact Hp.set_self) (fun x hx => h1 x (by simp [hx])) hvs (by omega)
    rw [show p.d + (L + 1) = p.d + L + 1 by omega] at i1 i2 i3 i4
    refine ⟨i1, (k2 n0).trans i2 (Nat.le_refl _) (Nat.le_refl _), fun j hj => ?_, fun j hj => ?_⟩
    · cases j with
      | zero => simpa using k3
      | succ j =>
        have := i3 j (by simpa using hj)
        rw [show p.d + L + (j + 1) = p.d + L + 1 + j by omega]
        rwa [World.cell?_setCell_other] at this
        intro ea; have := congrArg Addr.off ea; simp at this; omega
    · cases j with
      | zero => simpa using k4
      | succ j =>
        have := i4 j (by simpa using hj)
        rw [show p.d + L + (j + 1) = p.d + L + 1 + j by omega]
        rwa [World.frozen?_setCell] at this

theorem pushes_other {n sz m : Nat} (hm : m ≠ n) : ∀ (vs : List AV) (H : Hp) (L j : Nat), H.pushes n L sz vs m j = H m j
  | [], H, L, j => rfl
  | v :: vs, H, L, j => by rw [Hp.pushes, pushes_other hm vs]; unfold Hp.push; rw [Hp.set_other (by omega), Hp.set_other (by omega)]
theorem pushes_lt {n sz : Nat} : ∀ (vs : List AV) (H : Hp) (L j : Nat), j < L → H.pushes n L sz vs n j = H n j
  | [], H, L, j, _ => rfl
  | v :: vs, H, L, j, h => by rw [Hp.pushes, pushes_lt vs _ _ _ (by omega)]; unfold Hp.push; rw [Hp.set_other (by omega), Hp.set_other (by omega)]
theorem pushes_ge {n sz : Nat} : ∀ (vs : List AV) (H : Hp) (L j : Nat), L ≤ j → H n L = some (.tail sz) → (∀ i, L < i → H n i = none) →
    H.pushes n L sz vs n j = if j = L + vs.length then some (.tail sz) else (vs.map Cell.rw)[j - L]?
  | [], H, L, j, h, ht, hno => by
    simp only [Hp.pushes, List.length_nil, Nat.add_zero, List.map_nil, List.getElem?_nil]
    split
    · rename_i e; subst e; exact ht
    · exact hno j (by omega)
  | v :: vs, H, L, j, h, ht, hno => by
    rw [Hp.pushes]
    by_cases hj : j = L
    · subst hj
      rw [pushes_lt vs _ _ _ (by omega)]; unfold Hp.push
      rw [Hp.set_other (by omega), Hp.set_self, if_neg (by simp)]; simp
    · rw [pushes_ge vs _ (L + 1) j (by omega) (by unfold Hp.push; exact Hp.set_self) (fun i hi => by unfold Hp.push; rw [Hp.set_other (by omega), Hp.set_other (by omega)]; exact hno i (by omega))]
      simp only [List.length_cons, List.map_cons]
      by_cases e : j = L + (vs.length + 1)
      · rw [if_pos e, if_pos (by omega)]
      · rw [if_neg e, if_neg (by omega)]
        obtain ⟨i, hi⟩ : ∃ i, j - L = i + 1 := ⟨j - L - 1, by omega⟩
        rw [hi, show j - (L + 1) = i by omega]; rfl
theorem grown_eq {H : Hp} {n0 off L n sz : Nat} {vs : List AV} (ht : H n0 (off + L) = some (.tail sz)) (hne : n0 ≠ n) : H.grown n0 off L n sz vs = (H.move n0 off L n).pushes n L sz vs := by
  funext m j
  unfold Hp.grown
  by_cases hm : m = n
  · subst hm
    rw [if_pos rfl]
    by_cases hj : j < L
    · rw [if_pos hj, pushes_lt vs _ _ _ hj]; unfold Hp.move; rw [if_pos rfl, if_pos (by omega)]
    · rw [if_neg hj, pushes_ge vs _ _ _ (by omega)]
      · unfold Hp.move; rw [if_pos rfl, if_pos (Nat.le_refl _)]; exact ht
      · intro i hi; unfold Hp.move; rw [if_pos rfl, if_neg (by omega)]
  · rw [if_neg hm, pushes_other hm]; unfold Hp.move; rw [if_neg hm]

/-- Given away: no more told. -/
theorem Rel.kill {P : Program} {r : Rho} {H H' : Hp} {w : World} (h : Rel P r H w) (hk : ∀ m j c, H' m j = some c → c = .dead ∨ H m j = some c) : Rel P r H' w := by
  refine ⟨fun n o c e => ?_, fun n1 o1 c1 n2 o2 c2 b j e1 e2 w1 a1 a2 => ?_, h.low, h.glob⟩
  · rcases hk n o c e with rfl | e
    · trivial
    · exact h.cell n o c e
  · rcases hk _ _ _ e1 with rfl | e1
    · cases w1
    · rcases hk _ _ _ e2 with rfl | e2
      · obtain ⟨_, _, _, hf⟩ := a2; exact hf.elim
      · exact h.sep n1 o1 c1 n2 o2 c2 b j e1 e2 w1 a1 a2
theorem Adv.kill {n n' : Nat} {r r' : Rho} {H H1 H' : Hp} {w w' : World} (h : Adv n n' r H w r' H1 w') (hk : ∀ m j c, H' m j = some c → c = .dead ∨ H1 m j = some c) : Adv n n' r H w r' H' w' :=
  ⟨h.le, h.only, h.os, h.tape, h.output, h.size, h.block, fun b hb ho => by
    obtain ⟨m, j, c, p, e, hw, hp⟩ := ho
    rcases hk _ _ _ e with rfl | e
    · cases hw
    · exact h.own b hb ⟨m, j, c, p, e, hw, hp⟩⟩

section
variable {P : Program} {t u ty e : TypeId} {d : TypeDesc} {i : TypeInfo} {z : Value}
set_option maxHeartbeats 4000000 in
theorem run_app_room (ht : P.underlying t = some (.slice e)) (hu : P.underlying u = some d) (hd : ∀ k, d ≠ .int k) (hi : P.info? e = some i) {base : Option Addr} {sLen sCap m : Nat} {x' : Value} {news : Array Value} {w : World}
    (hl : (Builtin.lenOf x').run P w = .ok m w) (hf : (Builtin.firstCells i.size m x').run P w = .ok news w) (hroom : sLen + m ≤ sCap) :
    (Builtin.append_ #[t, u] ty #[.slice base sLen sCap, x']).run P w = (match base with
      | none => .ok (.slice none (sLen + m) sCap) w
      | some a => ((storeCells (a.add (sLen * i.size)) news.toList).run P w).andThen fun _ w => .ok (.slice (some a) (sLen + m) sCap) w) := by
  cases base <;> cases d <;> first
    | exact absurd rfl (hd _)
    | simp [Builtin.append_, run_underlying ht, run_underlying hu, sizeOf, typeInfo, hi, hl, hroom, hf]
set_option maxHeartbeats 4000000 in
theorem run_app_grow (ht : P.underlying t = some (.slice e)) (hu : P.underlying u = some d) (hd : ∀ k, d ≠ .int k) (hi : P.info? e = some i) (hz : i.zero = some z) {base : Option Addr} {sLen sCap m : Nat} {x' : Value} {news old : Array Value} {w : World}
    (hl : (Builtin.lenOf x').run P w = .ok m w) (hf : (Builtin.firstCells i.size m x').run P w.drew = .ok news w.drew) (ho : (Builtin.firstCells i.size sLen (.slice base sLen sCap)).run P w.drew = .ok old w.drew)
    (hroom : sCap < sLen + m) (h63 : sLen + m ≤ 140737488355328) (hfit : (sLen + m) * i.bytes ≤ 140737488355328) :
    (Builtin.append_ #[t, u] ty #[.slice base sLen sCap, x']).run P w =
      .ok (.slice (some ⟨w.heap.size, 0, none⟩) (sLen + m) (grownCap w (sLen + m) sCap e)) (w.drew.alloc (.cells (old ++ news ++ Builtin.zeroCells z.cells (grownCap w (sLen + m) sCap e - (sLen + m))) e)) := by
  have hn : ¬ (sLen + m ≤ sCap) := by omega
  have h63' : ¬ (9223372036854775807 < ((sLen : Int) + (m : Int))) := by omega
  have h48 := growslice_fits hroom hfit
  have h48' : ¬ (281474976710656 < Builtin.nextslicecap (sLen + m) sCap * i.bytes) := by omega
  cases d <;> first
    | exact absurd rfl (hd _)
    | (simp [Builtin.append_, run_underlying ht, run_underlying hu, sizeOf, typeInfo, zeroValue, hi, hz, hl, hn, h63', h48', Question.forced, hf, ho, newRow, grownCap])
end
end Go.Proofs.YtaoanbebgeeicaaGreatDoor.G
