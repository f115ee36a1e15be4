/- Code: rules. -/
import Derived.Test.YtaoanbebgeeicaaGreatDoorG9
namespace Go.Proofs.YtaoanbebgeeicaaGreatDoor.G
open Go Go.RowKit
set_option linter.unusedVariables false
set_option linter.unusedSimpArgs false

inductive Ex where
  | normal | exit (id : Nat) | ret
def Ex.real : Ex → Exit
  | .normal => .normal
  | .exit id => .exit id
  | .ret => .ret
/-- Code, or a loop that has begun. -/
inductive GC where
  | c (x : Code) | l (x : Code)
def wpG (P : Program) : GC → (Exit → Act → World → Prop) → Act → World → Prop
  | .c x, Q, a, w => x.wp P Q a w
  | .l x, Q, a, w => ∀ (b : Frame) (k : List Item) (cs : List Frame), ∃ e a' w', Q e a' w' ∧ Arrives P (lone (b.at a (.code x :: .inLoop x :: k)) cs w) b k cs e a' w'
structure CodeOk (P : Program) (N : Nat) (g : GC) (T : Nat → AV) (S : Hp) (n : Nat) (ex : Ex) (T' : Nat → AV) (S' : Hp) (n' : Nat) : Prop where
  ext : Ext S n S' n'
  run : ∀ (H : Hp) (r : Rho) (w : World) (a : Act), S.sub H → Rel P r H w → Fresh r H n n' → Tie r N T a → ∀ (Q : Exit → Act → World → Prop),
    (∀ r' w' a', Tie r' N T' a' → Rel P r' (S'.over H) w' → Adv n n' r H w r' (S'.over H) w' → Q ex.real a' w') → wpG P g Q a w
structure FunOk (P : Program) (f : FuncId) (args : List AV) (S : Hp) (n : Nat) (v : AV) (S' : Hp) (n' : Nat) : Prop where
  ext : Ext S n S' n'
  run : ∀ (H : Hp) (r : Rho) (w : World) (args' : Array Value), S.sub H → Rel P r H w → Fresh r H n n' → RVs r args args'.toList →
    Calls P f args' w fun e w' => ∃ v' r', e = .returned v' ∧ RV r' v v' ∧ Rel P r' (S'.over H) w' ∧ Adv n n' r H w r' (S'.over H) w'

section
variable {P : Program} {N : Nat}
theorem CodeOk.here {g : GC} {T : Nat → AV} {S : Hp} {n : Nat} {ex : Ex} (h : ∀ Q a w, Q ex.real a w → wpG P g Q a w) : CodeOk P N g T S n ex T S n :=
  ⟨.refl S n, fun H r w a hs hr hf ht Q hq => h Q a w (by have := hq r w a ht; rw [Hp.over_of_sub hs] at this; exact this hr (.refl _ _ _ _))⟩
theorem CodeOk.skip {T : Nat → AV} {S : Hp} {n : Nat} : CodeOk P N (.c .skip) T S n .normal T S n := .here fun _ _ _ h => wp_skip h
theorem CodeOk.label {l : Nat} {T : Nat → AV} {S : Hp} {n : Nat} : CodeOk P N (.c (.label l)) T S n .normal T S n := .here fun _ _ _ h => wp_label h
theorem CodeOk.exit {id : Nat} {T : Nat → AV} {S : Hp} {n : Nat} : CodeOk P N (.c (.exit id)) T S n (.exit id) T S n := .here fun _ _ _ h => wp_exit h
theorem CodeOk.ret {T : Nat → AV} {S : Hp} {n : Nat} : CodeOk P N (.c .ret) T S n .ret T S n := .here fun _ _ _ h => wp_ret h
theorem CodeOk.seq {x y : Code} {T T1 T2 : Nat → AV} {S S1 S2 : Hp} {n n1 n2 : Nat} {ex : Ex} (h : CodeOk P N (.c x) T S n .normal T1 S1 n1) (k : CodeOk P N (.c y) T1 S1 n1 ex T2 S2 n2) : CodeOk P N (.c (.seq x y)) T S n ex T2 S2 n2 :=
  ⟨h.ext.trans k.ext, fun H r w a hs hr hf ht Q hq => wp_seq (h.run H r w a hs hr (hf.le k.ext.le) ht _ fun r1 w1 a1 t1 h1 v1 =>
    k.run _ r1 w1 a1 (Hp.sub_over _ _) h1 (hf.next h.ext hs v1) t1 Q fun r2 w2 a2 t2 h2 v2 => by
      rw [Hp.over_over k.ext.dom] at h2 v2
      exact hq r2 w2 a2 t2 h2 (v1.trans v2 h.ext.le k.ext.le))⟩
theorem CodeOk.seq_out {x y : Code} {T T1 : Nat → AV} {S S1 : Hp} {n n1 : Nat} {ex : Ex} (h : CodeOk P N (.c x) T S n ex T1 S1 n1) (hn : ex ≠ .normal) : CodeOk P N (.c (.seq x y)) T S n ex T1 S1 n1 :=
  ⟨h.ext, fun H r w a hs hr hf ht Q hq => wp_seq (h.run H r w a hs hr hf ht _ fun r1 w1 a1 t1 h1 v1 => by
    have := hq r1 w1 a1 t1 h1 v1
    cases ex with
    | normal => exact absurd rfl hn
    | exit id => exact this
    | ret => exact this)⟩
theorem CodeOk.cond {c : Operand} {x y : Code} {t : Bool} {T T1 : Nat → AV} {S S1 : Hp} {n n1 : Nat} {ex : Ex} (hok : okOpd P c = true) (hc : evalAV T c = .bool t) (h : CodeOk P N (.c (if t then x else y)) T S n ex T1 S1 n1) :
    CodeOk P N (.c (.cond c x y)) T S n ex T1 S1 n1 :=
  ⟨h.ext, fun H r w a hs hr hf ht Q hq => by
    have := ht.eval hr hok
    rw [hc, RV] at this
    exact wp_cond this (h.run H r w a hs hr hf ht Q hq)⟩
def Ex.block (id : Nat) : Ex → Ex
  | .exit i => if Nat.beq i id then .normal else .exit i
  | e => e
theorem CodeOk.block {id : Nat} {x : Code} {T T1 : Nat → AV} {S S1 : Hp} {n n1 : Nat} {ex : Ex} (h : CodeOk P N (.c x) T S n ex T1 S1 n1) : CodeOk P N (.c (.block id x)) T S n (ex.block id) T1 S1 n1 :=
  ⟨h.ext, fun H r w a hs hr hf ht Q hq => wp_block (h.run H r w a hs hr hf ht _ fun r1 w1 a1 t1 h1 v1 => by
    have := hq r1 w1 a1 t1 h1 v1
    cases ex with
    | normal => exact this
    | ret => exact this
    | exit i =>
      simp only [Ex.real, Exit.inBlock]
      simp only [Ex.block] at this
      by_cases e : i = id
      · subst e; rw [if_pos rfl]; rw [Nat.beq_refl] at this; exact this
      · rw [if_neg e]
        have hb : Nat.beq i id = false := Bool.eq_false_iff.mpr fun hb => e (Nat.eq_of_beq_eq_true hb)
        rw [hb] at this; exact this)⟩
theorem CodeOk.loop {x : Code} {T T1 : Nat → AV} {S S1 : Hp} {n n1 : Nat} {ex : Ex} (h : CodeOk P N (.l x) T S n ex T1 S1 n1) : CodeOk P N (.c (.loop x)) T S n ex T1 S1 n1 :=
  ⟨h.ext, fun H r w a hs hr hf ht Q hq b k cs => by
    obtain ⟨e, a', w', q, ar⟩ := h.run H r w a hs hr hf ht Q hq b k cs
    exact ⟨e, a', w', q, .of_steps (.one step_loop) ar⟩⟩
theorem CodeOk.round {x : Code} {T T1 T2 : Nat → AV} {S S1 S2 : Hp} {n n1 n2 : Nat} {ex : Ex} (h : CodeOk P N (.c x) T S n .normal T1 S1 n1) (k : CodeOk P N (.l x) T1 S1 n1 ex T2 S2 n2) : CodeOk P N (.l x) T S n ex T2 S2 n2 :=
  ⟨h.ext.trans k.ext, fun H r w a hs hr hf ht Q hq b ks cs => by
    have hx := h.run H r w a hs hr (hf.le k.ext.le) ht (fun e a1 w1 => e = .normal ∧ wpG P (.l x) Q a1 w1) fun r1 w1 a1 t1 h1 v1 =>
      ⟨rfl, k.run _ r1 w1 a1 (Hp.sub_over _ _) h1 (hf.next h.ext hs v1) t1 Q fun r2 w2 a2 t2 h2 v2 => by
        rw [Hp.over_over k.ext.dom] at h2 v2
        exact hq r2 w2 a2 t2 h2 (v1.trans v2 h.ext.le k.ext.le)⟩
    obtain ⟨e, a1, w1, ⟨rfl, hl⟩, ar⟩ := hx b (.inLoop x :: ks) cs
    obtain ⟨e, a2, w2, q, ar2⟩ := hl b ks cs
    exact ⟨e, a2, w2, q, .of_steps (Steps.trans ar (.one step_inLoop)) ar2⟩⟩
theorem CodeOk.out {x : Code} {T T1 : Nat → AV} {S S1 : Hp} {n n1 : Nat} {ex : Ex} (h : CodeOk P N (.c x) T S n ex T1 S1 n1) (hn : ex ≠ .normal) : CodeOk P N (.l x) T S n ex T1 S1 n1 :=
  ⟨h.ext, fun H r w a hs hr hf ht Q hq b ks cs => by
    have hx := h.run H r w a hs hr hf ht (fun e a1 w1 => e = ex.real ∧ Q e a1 w1) fun r1 w1 a1 t1 h1 v1 => ⟨rfl, hq r1 w1 a1 t1 h1 v1⟩
    obtain ⟨e, a1, w1, ⟨rfl, q⟩, ar⟩ := hx b (.inLoop x :: ks) cs
    have hne : ex.real ≠ .normal := by cases ex <;> simp [Ex.real] at hn ⊢
    exact ⟨_, a1, w1, q, .pass (x := .inLoop x) rfl (fun _ _ => .inl hne) ar⟩⟩
theorem CodeOk.region {id : Nat} {ops : Array Oper} {T T' : Nat → AV} {S S' : Hp} {n n' : Nat} (h : RunOps P N ops (List.range ops.size) T S n T' S' n') : CodeOk P N (.c (.region id ops false)) T S n .normal T' S' n' :=
  ⟨h.ext, fun H r w a hs hr hf ht Q hq => wp_region (h.wp H r w a hs hr hf ht Q hq)⟩
theorem Parts.exts {ops : Array Oper} {T : Nat → Nat → AV} {S : Nat → Hp} {nn : Nat → Nat} {v : Nat → AV} {F F' : Nat → Hp} (h : Parts P N ops T S nn v F F') : ∀ m, m ≤ ops.size → Ext (S 0) (nn 0) (S m) (nn m)
  | 0, _ => .refl _ _
  | m + 1, hm => by
    refine (Parts.exts h m (by omega)).trans ?_
    have he := h.ext (show m < ops.size by omega)
    rw [h.heap m (by omega)]
    refine ⟨he.le, fun a b c e => ?_, fun a b c e => ?_⟩
    · unfold Hp.over; cases e2 : F' m a b with
      | some c' => exact ⟨c', rfl⟩
      | none => exact ⟨c, e⟩
    · unfold Hp.over at e
      cases e2 : F' m a b with
      | none => rw [e2] at e; exact .inl ⟨c, e⟩
      | some c' =>
        rcases he.new a b c' e2 with ⟨c2, h2⟩ | h2
        · exact .inl ⟨c2, h.sub m (by omega) _ _ _ h2⟩
        · exact .inr h2
theorem CodeOk.drawn (hm : P.follows .mixedOrders = true) {id : Nat} {ops : Array Oper} {T : Nat → Nat → AV} {S : Nat → Hp} {nn : Nat → Nat} {v : Nat → AV} {F F' : Nat → Hp} (h : Parts P N ops T S nn v F F') :
    CodeOk P N (.c (.region id ops true)) (T 0) (S 0) (nn 0) .normal (T ops.size) (S ops.size) (nn ops.size) :=
  ⟨h.exts _ (Nat.le_refl _), fun H r w a hs hr hf ht Q hq => by
    refine wp_region_any hm ?_
    have hno : ∀ i, ¬ Li (Array.replicate ops.size false) i := fun i => by unfold Li; simp [Array.getD]
    have hG : Gh F F' H (Li (Array.replicate ops.size false)) ops.size = H := by
      have : ∀ m, Gh F F' H (Li (Array.replicate ops.size false)) m = H := fun m => by
        induction m with
        | zero => rfl
        | succ m ih => funext x y; simp only [Gh, ih]; rw [if_neg (fun hx => hno m hx.1)]
      exact this _
    have hT : Tt ops v (T 0) (Li (Array.replicate ops.size false)) ops.size = T 0 := by
      have : ∀ m, Tt ops v (T 0) (Li (Array.replicate ops.size false)) m = T 0 := fun m => by
        induction m with
        | zero => rfl
        | succ m ih => funext x; simp only [Tt, ih]; rw [if_neg (fun hx => hno m hx.1)]
      exact this _
    have hd : Adv (nn 0) (nn ops.size) r H w r H w.drew := ⟨.refl r, fun _ _ => rfl, rfl, rfl, rfl, Nat.le_refl _, fun _ _ _ => rfl, fun _ _ h => h⟩
    refine h.any hs (r0 := r) (w0 := w) hq ops.size _ r w.drew a (by simp) (by simp) (fun i j _ hj => absurd hj (hno j)) (by rw [hT]; exact ht) (by rw [hG]; exact hr.drew) (by rw [hG]; exact hd) fun i hi _ => ?_
    rw [hG]
    intro m h1 h2
    have e1 := (h.exts i (by omega)).le
    have hle : ∀ j, i + 1 ≤ j → j ≤ ops.size → nn (i + 1) ≤ nn j := fun j => by
      induction j with
      | zero => intro x; omega
      | succ j ih =>
        intro x y
        by_cases e : i + 1 = j + 1
        · rw [e]; exact Nat.le_refl _
        · exact Nat.le_trans (ih (by omega) (by omega)) (h.ext (by omega)).le
    have e2 := hle ops.size (by omega) (Nat.le_refl _)
    exact hf m (by omega) (by omega)⟩

/-- A call within a region. -/
theorem OpOk.of_call {o : Oper} {e : Operand → AV} {f : FuncId} {args : List AV} {S S' : Hp} {n n' : Nat} {v : AV} (he : evOp P e o.op = .call f args) (hc : callable P f) (h : FunOk P f args S n v S' n') : OpOk P o e S n v S' n' :=
  ⟨h.ext.le, h.ext.dom, h.ext.new, fun H r w a hop hs hr hf K Q hk => by
    have hsim := evOp_sim (P := P) (r := r) (e := e) (e' := a.eval) (o := o) hop
    rw [he] at hsim
    obtain ⟨args', hra, hrun⟩ := hsim hc
    unfold Oper.wp
    rw [hrun w, Oper.upon_enter]
    refine (h.run H r w args' hs hr hf hra).mono fun e w' ⟨v', r', h1, h2, h3, h4⟩ => ?_
    subst h1
    exact hk r' w' v' h2 h3 h4⟩

/-- What a function hands back. -/
def resAV (P : Program) (g : HI) (T : Nat → AV) : List ResultVar → Option (List AV)
  | [] => some []
  | .tmp t :: l => (match resAV P g T l with | some vs => some (T t :: vs) | none => none)
  | .cell a t :: l => (match (loadEv P t (T a)) with
    | .load n o k agg => (match Ev.step g 0 (.load n o k agg), resAV P g T l with | some (v, _), some vs => some (v :: vs) | _, _ => none)
    | _ => none)
theorem resAV_ok {g : HI} {r : Rho} {H : Hp} {w : World} {T : Nat → AV} {a : Act} (hg : g.Ok H) (hr : Rel P r H w) (ht : Tie r N T a) : ∀ (l : List ResultVar) (vs : List AV), resAV P g T l = some vs →
    ∃ vs', RVs r vs vs' ∧ (l.mapM fun x => (match x with | .tmp t => pure (a.tmps.getD t Go.undef) | .cell b t => do loadVar t (← asAddr (a.tmps.getD b Go.undef)) : Sem Value)).run P w = .ok vs' w
  | [], vs, h => by simp only [resAV, Option.some.injEq] at h; subst h; exact ⟨[], by simp [RVs], rfl⟩
  | .tmp t :: l, vs, h => by
    simp only [resAV] at h
    split at h
    · rename_i vs1 h1; cases h
      obtain ⟨vs', h2, h3⟩ := resAV_ok hg hr ht l vs1 h1
      refine ⟨_ :: vs', by rw [RVs]; exact ⟨_, _, rfl, ht.val t, h2⟩, ?_⟩
      simp only [List.mapM_cons, Sem.run_bind, Sem.run_pure, Result.andThen_ok, h3]
    · cases h
  | .cell b t :: l, vs, h => by
    simp only [resAV] at h
    split at h
    · rename_i n o k agg hl
      split at h
      · rename_i v d vs1 hst h1
        cases h
        obtain ⟨vs', h2, h3⟩ := resAV_ok hg hr ht l vs1 h1
        have hb := ht.val b
        have hsim := loadEv_ok (P := P) (t := t) hb
        rw [hl] at hsim
        have hd : d = .id := by
          simp only [Ev.step] at hst
          split at hst
          · split at hst <;> first | (cases hst; rfl) | cases hst
          · cases hst
        subst hd
        -- a load leaves the world as it is
        unfold loadEv at hl
        split at hl
        · rename_i n0 o0 hp0
          rw [hp0, RV] at hb; obtain ⟨p, hp, hbv⟩ := hb
          obtain ⟨p', hp', hk, hrun⟩ := hsim
          simp only [Ev.step] at hst
          split at hst
          · rename_i l0 hrd
            obtain ⟨k1, k2, l', k3, k4⟩ := hg.reads hr hrd hp'
            have hrun := hrun w l' (by rw [k3.length, k1]) k4
            rw [hbv] at hrun
            have hload : (Instr.loadAt t (.pointer (some ⟨p.b, p.d + o0, none⟩))).run P w = .ok (if agg then .agg l'.toArray else l'.headD Go.undef) w := by
              simp only [Sem.run_bind, Sem.run_pure] at hrun
              cases hq : (Instr.loadAt t (.pointer (some ⟨p.b, p.d + o0, none⟩))).run P w with
              | ok x wx => rw [hq] at hrun; simp only [Result.andThen_ok] at hrun; cases hrun; rfl
              | halt x wx => rw [hq] at hrun; cases hrun
            have hv : RV r v (if agg then .agg l'.toArray else l'.headD Go.undef) := by
              split at hst
              · cases hst; exact ⟨l'.toArray, rfl, by simpa using k3⟩
              · cases hst; rw [RVs] at k3; obtain ⟨y, ys, rfl, k3, _⟩ := k3; exact k3
              · cases hst
            refine ⟨_ :: vs', by rw [RVs]; exact ⟨_, _, rfl, hv, h2⟩, ?_⟩
            simp only [Instr.loadAt, Instr.sureAddr, Sem.run_bind, Sem.run_pure, Result.andThen_ok] at hload
            have haddr : ∀ w, (asAddr (.pointer (some ⟨p.b, p.d + o0, none⟩))).run P w = .ok ⟨p.b, p.d + o0, none⟩ w := fun _ => rfl
            simp only [List.mapM_cons, Sem.run_bind, hbv, haddr, Sem.run_pure, Result.andThen_ok, hload, h3]
          · cases hst
        · cases hl
      · cases h
    · cases h
def oneAV : List AV → AV
  | [v] => v
  | l => .tup l
theorem results_ok {g : HI} {r : Rho} {H : Hp} {w : World} {T : Nat → AV} {a : Act} {fn : Func} {vs : List AV} (hg : g.Ok H) (hr : Rel P r H w) (ht : Tie r N T a) (h : resAV P g T fn.results.toList = some vs) :
    ∃ v', RV r (oneAV vs) v' ∧ (results fn a.tmps).run P w = .ok v' w := by
  obtain ⟨vs', h1, h2⟩ := resAV_ok hg hr ht _ _ h
  have hm : (fn.results.mapM fun x => (match x with | .tmp t => pure (a.tmps.getD t Go.undef) | .cell b t => do loadVar t (← asAddr (a.tmps.getD b Go.undef)) : Sem Value)).run P w = .ok vs'.toArray w := by
    rw [Array.mapM_eq_mapM_toList, Sem.run_map, h2]; rfl
  have hres : (results fn a.tmps).run P w = .ok (if h : vs'.toArray.size = 1 then vs'.toArray[0] else .tuple vs'.toArray) w := by
    show (Sem.bind _ _).run P w = _
    rw [Sem.run_bind']
    have : (fn.results.mapM fun x => (match x with | .tmp t => pure (a.tmps.getD t Go.undef) | .cell b t => do loadVar t (← asAddr (a.tmps.getD b Go.undef)) : Sem Value)).run P w = .ok vs'.toArray w := hm
    erw [this]; rfl
  refine ⟨_, ?_, hres⟩
  match vs, vs', h1 with
  | [], vs', h1 => rw [RVs] at h1; subst h1; exact ⟨#[], rfl, by simp [RVs]⟩
  | [v], vs', h1 =>
    rw [RVs] at h1; obtain ⟨y, ys, rfl, h3, h4⟩ := h1
    rw [RVs] at h4; subst h4
    exact h3
  | v :: u :: l, vs', h1 =>
    have hl := h1.length
    rw [dif_neg (by simp [hl])]
    exact ⟨vs'.toArray, rfl, by simpa using h1⟩

def argT (args : List AV) : Nat → AV := fun t => (args[t]?).getD (.tup [])
/-- A function, by its body. -/
theorem FunOk.of_body {f : FuncId} {fn : Func} {c : Code} {args : List AV} {S S' : Hp} {n n' : Nat} {ex : Ex} {T' : Nat → AV} {g : HI} {vs : List AV} (hf : P.funcs[f]? = some fn) (hb : fn.body = some c) (hlen : args.length ≤ fn.ntmps)
    (hex : ex = .normal ∨ ex = .ret) (h : CodeOk P fn.ntmps (.c c) (argT args) S n ex T' S' n') (hg : g.Ok S') (hres : resAV P g T' fn.results.toList = some vs) : FunOk P f args S n (oneAV vs) S' n' :=
  ⟨h.ext, fun H r w args' hs hr hfr hra => by
    refine calls_of_wp hf hb (h.run H r w _ hs hr hfr ?_ _ fun r1 w1 a1 t1 h1 v1 => ?_)
    · have hl : args'.size = args.length := by rw [← Array.length_toList]; exact hra.length
      refine ⟨by simp [hl]; omega, fun t => ?_, rfl⟩
      unfold argT
      cases ht : args[t]? with
      | some x =>
        obtain ⟨y, hy, hv⟩ := hra.get ht
        have : (args' ++ Array.replicate (fn.ntmps - args'.size) Go.undef).getD t Go.undef = y := by
          have hlt : t < args'.size := by rw [hl]; exact (List.getElem?_eq_some_iff.mp ht).1
          rw [Array.getElem?_toList] at hy
          simp only [Array.getD_eq_getD_getElem?, Array.getElem?_append_left hlt, hy, Option.getD_some]
        rw [this]; exact hv
      | none =>
        have hge : args'.size ≤ t := by rw [hl]; exact List.getElem?_eq_none_iff.mp ht
        have : (args' ++ Array.replicate (fn.ntmps - args'.size) Go.undef).getD t Go.undef = Go.undef := by
          simp only [Array.getD_eq_getD_getElem?, Array.getElem?_append_right hge, Array.getElem?_replicate]
          split <;> rfl
        rw [this]; exact .undef r
    · obtain ⟨v', k1, k2⟩ := results_ok (hg.sub (Hp.sub_over _ _)) h1 t1 hres
      have hq : t1.defers = t1.defers := rfl
      rcases hex with rfl | rfl
      · exact ⟨t1.defers, v', k2, v', r1, rfl, k1, h1, v1⟩
      · exact ⟨t1.defers, v', k2, v', r1, rfl, k1, h1, v1⟩⟩
end
end Go.Proofs.YtaoanbebgeeicaaGreatDoor.G
