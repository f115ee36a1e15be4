/- The ghost machine as a function that the kernel runs. -/
import Derived.Test.YtaoanbebgeeicaaGreatDoorG10
namespace Go.Proofs.YtaoanbebgeeicaaGreatDoor.G
open Go Go.RowKit
set_option linter.unusedVariables false
set_option linter.unusedSimpArgs false

inductive Tr (α : Type) where
  | nil | node (l : Tr α) (v : α) (r : Tr α)
noncomputable def trGet {α : Type} (d : α) (t : Tr α) : Nat → α :=
  Tr.rec (fun _ => d) (fun _ v _ gl gr k => Nat.rec v (fun m _ => Bool.rec (gr (Nat.div m 2)) (gl (Nat.div m 2)) (Nat.beq (Nat.mod m 2) 0)) k) t
noncomputable def trMk {α β : Type} (d x : α) (f : Nat) : Nat → (Tr α → β) → β :=
  Nat.rec (motive := fun _ => Nat → (Tr α → β) → β) (fun _ c => c (.node .nil x .nil))
    (fun _ ih k c => Nat.rec (c (.node .nil x .nil)) (fun m _ => Bool.rec (ih (Nat.div m 2) (fun t => c (.node .nil d t))) (ih (Nat.div m 2) (fun t => c (.node t d .nil))) (Nat.beq (Nat.mod m 2) 0)) k) f
noncomputable def trSet {α β : Type} (d x : α) (t : Tr α) : Nat → (Tr α → β) → β :=
  Tr.rec (motive := fun _ => Nat → (Tr α → β) → β) (fun k c => trMk d x k k c)
    (fun l v r ihl ihr k c => Nat.rec (c (.node l x r)) (fun m _ => Bool.rec (ihr (Nat.div m 2) (fun r' => c (.node l v r'))) (ihl (Nat.div m 2) (fun l' => c (.node l' v r))) (Nat.beq (Nat.mod m 2) 0)) k) t
theorem trMk_ok {α : Type} (d x : α) : ∀ (f k : Nat), k ≤ f → ∃ t : Tr α, (∀ (β : Type) (c : Tr α → β), trMk d x f k c = c t) ∧ ∀ j, trGet d t j = if j = k then x else d := by
  intro f
  induction f with
  | zero =>
    intro k hk
    have : k = 0 := by omega
    subst this
    refine ⟨.node .nil x .nil, fun β c => rfl, fun j => ?_⟩
    cases j with
    | zero => rfl
    | succ j => rw [if_neg (by omega)]; show Bool.rec d d _ = d; cases (Nat.beq (Nat.mod j 2) 0) <;> rfl
  | succ f ih =>
    intro k hk
    cases k with
    | zero =>
      refine ⟨.node .nil x .nil, fun β c => rfl, fun j => ?_⟩
      cases j with
      | zero => rfl
      | succ j => rw [if_neg (by omega)]; show Bool.rec d d _ = d; cases (Nat.beq (Nat.mod j 2) 0) <;> rfl
    | succ m =>
      obtain ⟨t, h1, h2⟩ := ih (Nat.div m 2) (by have : Nat.div m 2 = m / 2 := rfl; omega)
      have hd : ∀ a, Nat.div a 2 = a / 2 := fun _ => rfl
      have hm : ∀ a, Nat.mod a 2 = a % 2 := fun _ => rfl
      cases hb : Nat.beq (Nat.mod m 2) 0 with
      | false =>
        refine ⟨.node .nil d t, fun β c => ?_, fun j => ?_⟩
        · show (Bool.rec (trMk d x f (Nat.div m 2) fun t => c (.node .nil d t)) (trMk d x f (Nat.div m 2) fun t => c (.node t d .nil)) (Nat.beq (Nat.mod m 2) 0) : β) = _
          rw [hb]; exact h1 β _
        · cases j with
          | zero => rw [if_neg (by omega)]; rfl
          | succ j =>
            show (Bool.rec (trGet d t (Nat.div j 2)) d (Nat.beq (Nat.mod j 2) 0) : α) = _
            cases hj : Nat.beq (Nat.mod j 2) 0 with
            | false =>
              simp only [h2]
              have e1 := Nat.ne_of_beq_eq_false hb
              have e2 := Nat.ne_of_beq_eq_false hj
              rw [hm] at e1 e2; simp only [hd]
              by_cases e : j = m
              · subst e; simp
              · rw [if_neg (by omega), if_neg (by omega)]
            | true =>
              have e1 := Nat.ne_of_beq_eq_false hb
              have e2 := Nat.eq_of_beq_eq_true hj
              rw [hm] at e1 e2
              simp only; rw [if_neg (by rintro e; have : j = m := by omega
                                        subst this; omega)]
      | true =>
        refine ⟨.node t d .nil, fun β c => ?_, fun j => ?_⟩
        · show (Bool.rec (trMk d x f (Nat.div m 2) fun t => c (.node .nil d t)) (trMk d x f (Nat.div m 2) fun t => c (.node t d .nil)) (Nat.beq (Nat.mod m 2) 0) : β) = _
          rw [hb]; exact h1 β _
        · cases j with
          | zero => rw [if_neg (by omega)]; rfl
          | succ j =>
            show (Bool.rec d (trGet d t (Nat.div j 2)) (Nat.beq (Nat.mod j 2) 0) : α) = _
            cases hj : Nat.beq (Nat.mod j 2) 0 with
            | true =>
              simp only [h2]
              have e1 := Nat.eq_of_beq_eq_true hb
              have e2 := Nat.eq_of_beq_eq_true hj
              rw [hm] at e1 e2; simp only [hd]
              by_cases e : j = m
              · subst e; simp
              · rw [if_neg (by omega), if_neg (by omega)]
            | false =>
              have e1 := Nat.eq_of_beq_eq_true hb
              have e2 := Nat.ne_of_beq_eq_false hj
              rw [hm] at e1 e2
              simp only; rw [if_neg (by rintro e; have : j = m := by omega
                                        subst this; omega)]
theorem trSet_ok {α : Type} (d x : α) (t : Tr α) : ∀ k, ∃ t' : Tr α, (∀ (β : Type) (c : Tr α → β), trSet d x t k c = c t') ∧ ∀ j, trGet d t' j = if j = k then x else trGet d t j := by
  have hd : ∀ a, Nat.div a 2 = a / 2 := fun _ => rfl
  have hm : ∀ a, Nat.mod a 2 = a % 2 := fun _ => rfl
  induction t with
  | nil => intro k; obtain ⟨t, h1, h2⟩ := trMk_ok d x k k (Nat.le_refl _); exact ⟨t, fun β c => h1 β c, fun j => h2 j⟩
  | node l v r ihl ihr =>
    intro k
    cases k with
    | zero =>
      refine ⟨.node l x r, fun β c => rfl, fun j => ?_⟩
      cases j with
      | zero => rfl
      | succ j => rw [if_neg (by omega)]; rfl
    | succ m =>
      cases hb : Nat.beq (Nat.mod m 2) 0 with
      | false =>
        obtain ⟨t, h1, h2⟩ := ihr (Nat.div m 2)
        refine ⟨.node l v t, fun β c => ?_, fun j => ?_⟩
        · show (Bool.rec (trSet d x r (Nat.div m 2) fun r' => c (.node l v r')) (trSet d x l (Nat.div m 2) fun l' => c (.node l' v r)) (Nat.beq (Nat.mod m 2) 0) : β) = _
          rw [hb]; exact h1 β _
        · cases j with
          | zero => rw [if_neg (by omega)]; rfl
          | succ j =>
            show (Bool.rec (trGet d t (Nat.div j 2)) (trGet d l (Nat.div j 2)) (Nat.beq (Nat.mod j 2) 0) : α) = if j + 1 = m + 1 then x else (Bool.rec (trGet d r (Nat.div j 2)) (trGet d l (Nat.div j 2)) (Nat.beq (Nat.mod j 2) 0) : α)
            have e1 := Nat.ne_of_beq_eq_false hb
            rw [hm] at e1
            cases hj : Nat.beq (Nat.mod j 2) 0 with
            | false =>
              have e2 := Nat.ne_of_beq_eq_false hj
              rw [hm] at e2
              simp only [h2, hd]
              by_cases e : j = m
              · subst e; simp
              · rw [if_neg (by omega), if_neg (by omega)]
            | true =>
              have e2 := Nat.eq_of_beq_eq_true hj
              rw [hm] at e2
              rw [if_neg (by rintro e; have : j = m := by omega
                             subst this; omega)]
      | true =>
        obtain ⟨t, h1, h2⟩ := ihl (Nat.div m 2)
        refine ⟨.node t v r, fun β c => ?_, fun j => ?_⟩
        · show (Bool.rec (trSet d x r (Nat.div m 2) fun r' => c (.node l v r')) (trSet d x l (Nat.div m 2) fun l' => c (.node l' v r)) (Nat.beq (Nat.mod m 2) 0) : β) = _
          rw [hb]; exact h1 β _
        · cases j with
          | zero => rw [if_neg (by omega)]; rfl
          | succ j =>
            show (Bool.rec (trGet d r (Nat.div j 2)) (trGet d t (Nat.div j 2)) (Nat.beq (Nat.mod j 2) 0) : α) = if j + 1 = m + 1 then x else (Bool.rec (trGet d r (Nat.div j 2)) (trGet d l (Nat.div j 2)) (Nat.beq (Nat.mod j 2) 0) : α)
            have e1 := Nat.eq_of_beq_eq_true hb
            rw [hm] at e1
            cases hj : Nat.beq (Nat.mod j 2) 0 with
            | true =>
              have e2 := Nat.eq_of_beq_eq_true hj
              rw [hm] at e2
              simp only [h2, hd]
              by_cases e : j = m
              · subst e; simp
              · rw [if_neg (by omega), if_neg (by omega)]
            | false =>
              have e2 := Nat.ne_of_beq_eq_false hj
              rw [hm] at e2
              rw [if_neg (by rintro e; have : j = m := by omega
                             subst this; omega)]

/-- Words that make the kernel reckon a thing out before it goes on. -/
noncomputable def fNat {β : Type} (n : Nat) (c : Nat → β) : β := Nat.rec (c 0) (fun m _ => c (Nat.succ m)) n
theorem fNat_ok {β : Type} (n : Nat) (c : Nat → β) : fNat n c = c n := by cases n <;> rfl
noncomputable def fInt {β : Type} (z : Int) (c : Int → β) : β := Int.rec (fun m => fNat m fun m => c (.ofNat m)) (fun m => fNat m fun m => c (.negSucc m)) z
theorem fInt_ok {β : Type} (z : Int) (c : Int → β) : fInt z c = c z := by cases z <;> simp only [fInt, fNat_ok]
noncomputable def fBool {β : Type} (b : Bool) (c : Bool → β) : β := Bool.rec (c false) (c true) b
theorem fBool_ok {β : Type} (b : Bool) (c : Bool → β) : fBool b c = c b := by cases b <;> rfl
noncomputable def fList {α β : Type} (l : List α) : (List α → β) → β := List.rec (motive := fun _ => (List α → β) → β) (fun c => c []) (fun x _ ih c => ih fun l => c (x :: l)) l
theorem fList_ok {α β : Type} (l : List α) (c : List α → β) : fList l c = c l := by
  induction l generalizing c with
  | nil => rfl
  | cons x l ih => exact ih _
noncomputable def fStr {β : Type} (l : List Nat) : (List Nat → β) → β := List.rec (motive := fun _ => (List Nat → β) → β) (fun c => c []) (fun x _ ih c => fNat x fun x => ih fun l => c (x :: l)) l
theorem fStr_ok {β : Type} (l : List Nat) (c : List Nat → β) : fStr l c = c l := by
  induction l generalizing c with
  | nil => rfl
  | cons x l ih =>
    have : fStr (x :: l) c = fNat x fun x => fStr l fun l => c (x :: l) := rfl
    rw [this, fNat_ok]; exact ih _
noncomputable def fAV {β : Type} (v : AV) (c : AV → β) : β :=
  AV.casesOn v (fun b => fBool b fun b => c (.bool b)) (fun k n => fInt n fun n => c (.int k n)) (fun s => fStr s fun s => c (.str s)) (c .nilPtr) (fun n o => fNat o fun o => c (.ptr n o)) (c .nilSlice)
    (fun n o len ex cap => fNat o fun o => fNat len fun len => fNat cap fun cap => c (.slice n o len ex cap)) (fun fn a b => fList a fun a => fList b fun b => c (.func fn a b)) (c .nilFunc) (fun t v => c (.iface t v)) (c .nilIface)
    (fun l => fList l fun l => c (.agg l)) (fun l => fList l fun l => c (.tup l)) (fun t g e => c (.rty t g e)) (fun k z m r => c (.sy k z m r))
theorem fAV_ok {β : Type} (v : AV) (c : AV → β) : fAV v c = c v := by
  cases v <;> simp only [fAV, fBool_ok, fInt_ok, fStr_ok, fNat_ok, fList_ok]
noncomputable def fAVs {β : Type} (l : List AV) : (List AV → β) → β := List.rec (motive := fun _ => (List AV → β) → β) (fun c => c []) (fun x _ ih c => fAV x fun x => ih fun l => c (x :: l)) l
theorem fAVs_ok {β : Type} (l : List AV) (c : List AV → β) : fAVs l c = c l := by
  induction l generalizing c with
  | nil => rfl
  | cons x l ih =>
    have : fAVs (x :: l) c = fAV x fun x => fAVs l fun l => c (x :: l) := rfl
    rw [this, fAV_ok]; exact ih _
/-- A value with all that lies in it. -/
noncomputable def fVal {β : Type} (v : AV) (c : AV → β) : β :=
  AV.casesOn v (fun b => fBool b fun b => c (.bool b)) (fun k n => fInt n fun n => c (.int k n)) (fun s => fStr s fun s => c (.str s)) (c .nilPtr) (fun n o => fNat o fun o => c (.ptr n o)) (c .nilSlice)
    (fun n o len ex cap => fNat o fun o => fNat len fun len => fNat cap fun cap => c (.slice n o len ex cap)) (fun fn a b => fAVs a fun a => fAVs b fun b => c (.func fn a b)) (c .nilFunc) (fun t v => fAV v fun v => c (.iface t v)) (c .nilIface)
    (fun l => fAVs l fun l => c (.agg l)) (fun l => fAVs l fun l => c (.tup l)) (fun t g e => c (.rty t g e)) (fun k z m r => c (.sy k z m r))
theorem fVal_ok {β : Type} (v : AV) (c : AV → β) : fVal v c = c v := by
  cases v <;> simp only [fVal, fBool_ok, fInt_ok, fStr_ok, fNat_ok, fAVs_ok, fAV_ok]

abbrev GH := Tr (List Cell)
structure St where
  t : Tr AV
  h : GH
  n : Nat
def nthC (l : List Cell) (o : Nat) : Option Cell := l[o]?
noncomputable def den (h : GH) : Hp := fun m o => (trGet [] h m)[o]?
noncomputable def denT (t : Tr AV) : Nat → AV := trGet (.tup []) t
noncomputable def dropL {α : Type} (k : Nat) : List α → List α := Nat.rec (motive := fun _ => List α → List α) (fun l => l) (fun _ ih l => List.rec [] (fun _ t _ => ih t) l) k
theorem dropL_ok {α : Type} (k : Nat) (l : List α) : dropL k l = l.drop k := by
  induction k generalizing l with
  | zero => rfl
  | succ k ih => cases l with
    | nil => rfl
    | cons x l => exact ih l
noncomputable def valsL (k : Nat) : List Cell → Option (List AV) := Nat.rec (motive := fun _ => List Cell → Option (List AV)) (fun _ => some [])
  (fun _ ih l => List.rec none (fun c t _ => Cell.rec (fun v => Option.rec none (fun vs => some (v :: vs)) (ih t)) (fun v => Option.rec none (fun vs => some (v :: vs)) (ih t)) (fun _ => none) none c) l) k
theorem valsL_ok : ∀ (k : Nat) (l : List Cell) (vs : List AV), valsL k l = some vs → vs.length = k ∧ ∀ (j : Nat) v, vs[j]? = some v → ∃ c : Cell, l[j]? = some c ∧ c.val? = some v
  | 0, l, vs, h => by
    have : vs = [] := (Option.some.inj (h : some [] = some vs)).symm
    subst this; simp
  | k + 1, l, vs, h => by
    cases l with
    | nil => cases h
    | cons c t =>
      have key : ∀ v, c.val? = some v → (Option.rec none (fun vs => some (v :: vs)) (valsL k t) : Option (List AV)) = some vs → vs.length = k + 1 ∧ ∀ (j : Nat) u, vs[j]? = some u → ∃ c' : Cell, (c :: t)[j]? = some c' ∧ c'.val? = some u := fun v hv h => by
        cases hq : valsL k t with
        | none => rw [hq] at h; cases h
        | some vs1 =>
          rw [hq] at h
          have : v :: vs1 = vs := Option.some.inj h
          subst this
          obtain ⟨h1, h2⟩ := valsL_ok k t vs1 hq
          refine ⟨by simp [h1], fun j u hj => ?_⟩
          cases j with
          | zero => simp at hj; subst hj; exact ⟨c, rfl, hv⟩
          | succ j => simp at hj; simpa using h2 j u hj
      cases c with
      | rw v => exact key v rfl h
      | ro v => exact key v rfl h
      | tail sz => cases h
      | dead => cases h
noncomputable def rwL (k : Nat) : List Cell → Bool := Nat.rec (motive := fun _ => List Cell → Bool) (fun _ => true) (fun _ ih l => List.rec false (fun c t _ => Cell.rec (fun _ => ih t) (fun _ => false) (fun _ => false) false c) l) k
theorem rwL_ok : ∀ (k : Nat) (l : List Cell), rwL k l = true → ∀ j, j < k → ∃ u, l[j]? = some (.rw u)
  | 0, l, _, j, hj => by omega
  | k + 1, l, h, j, hj => by
    cases l with
    | nil => cases h
    | cons c t =>
      cases c with
      | rw v =>
        cases j with
        | zero => exact ⟨v, rfl⟩
        | succ j => simpa using rwL_ok k t h j (by omega)
      | ro v => cases h
      | tail sz => cases h
      | dead => cases h
noncomputable def tlL (sz : Nat) (l : List Cell) : Bool := List.rec false (fun c _ _ => Cell.rec (fun _ => false) (fun _ => false) (fun s => Nat.beq s sz) false c) l
noncomputable def hiG (h : GH) : HI where
  rd n o k := valsL k (dropL o (trGet [] h n))
  rw n o k := rwL k (dropL o (trGet [] h n))
  tl n o sz := tlL sz (dropL o (trGet [] h n))
theorem hiG_ok (h : GH) : (hiG h).Ok (den h) := by
  refine ⟨fun n o k l e => ?_, fun n o k e j hj => ?_, fun n o sz e => ?_⟩
  · simp only [hiG, dropL_ok] at e
    obtain ⟨h1, h2⟩ := valsL_ok _ _ _ e
    refine ⟨h1, fun j v hj => ?_⟩
    obtain ⟨c, hc, hv⟩ := h2 j v hj
    rw [List.getElem?_drop] at hc; exact ⟨c, hc, hv⟩
  · simp only [hiG, dropL_ok] at e
    obtain ⟨u, hu⟩ := rwL_ok _ _ e j hj
    rw [List.getElem?_drop] at hu; exact ⟨u, hu⟩
  · simp only [hiG, dropL_ok] at e
    unfold den
    cases hl : (trGet [] h n).drop o with
    | nil => rw [hl] at e; cases e
    | cons c t =>
      have : (trGet [] h n)[o]? = some c := by
        have := List.getElem?_drop (xs := trGet [] h n) (i := o) (j := 0)
        rw [hl] at this; simpa using this.symm
      rw [this]
      rw [hl] at e
      cases c with
      | tail s => have := Nat.eq_of_beq_eq_true e; subst this; rfl
      | rw v => cases e
      | ro v => cases e
      | dead => cases e
end Go.Proofs.YtaoanbebgeeicaaGreatDoor.G
