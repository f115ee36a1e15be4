/- errors.Is and errors.As as the evaluator has them. -/
import Derived.Test.YtaoanbebgeeicaaGreatDoorG14
import Derived.Test.YtaoanbebgeeicaaGreatDoorGA
namespace Go.Proofs.YtaoanbebgeeicaaGreatDoor.G
open Go Go.RowKit
set_option linter.unusedVariables false
set_option linter.unusedSimpArgs false

theorem Rel.quiet {P : Program} {r : Rho} {H : Hp} {w : World} (h : Rel P r H w) (o : Obj) : Rel P r H (w.alloc o) :=
  ⟨fun n p c e => (h.cell n p c e).block fun q hq => Below.heap_alloc w _ _ (h.low n q hq), h.sep, fun n p hp => by rw [World.size_alloc]; exact Nat.lt_succ_of_lt (h.low n p hp), h.glob⟩
theorem Adv.quiet {n : Nat} {r : Rho} {H : Hp} {w : World} (o : Obj) : Adv n n r H w r H (w.alloc o) :=
  ⟨.refl r, fun _ _ => rfl, rfl, rfl, rfl, Nat.le_of_lt (by rw [World.size_alloc]; exact Nat.lt_succ_self _), fun b hb _ => Below.heap_alloc w _ _ hb, fun _ _ h => h⟩

/-- The one package variable that is laid. -/
noncomputable def baseH : GH := trSet [] [.ro (.rty 168 1 34)] .nil 0 fun t => t
noncomputable def errB (h : GH) : Bool := eqK 1 (trGet [] h 0) [.ro (.rty 168 1 34)]
theorem errB_ok {h : GH} (e : errB h = true) {H : Hp} (hs : (den h).sub H) {r : Rho} {w : World} (hr : Rel Tryz.prog r H w) : Go.Proofs.YtaoanbebgeeicaaGreatDoor.H.ErrTy w := by
  have := eqK_ok 1 _ _ e 0 (by omega)
  have hd : den h 0 0 = some (.ro (.rty 168 1 34)) := this
  obtain ⟨_, p, v', hp, hc, hv⟩ := hr.cell _ _ _ (hs _ _ _ hd)
  obtain ⟨q, hq, h1, h2⟩ := hr.glob 0 (of_decide_eq_true (by kernel_rfl))
  rw [hp] at hq; cases hq
  rw [RV] at hv; subst hv
  rw [h1, h2] at hc
  exact hc
noncomputable def isErrn : AV → Option (Option Int)
  | .nilIface => some none
  | .iface t (.int .i64 c) => if Nat.beq t 93 then some (some c) else none
  | _ => none
theorem isErrn_ok {x : AV} {no : Option Int} (h : isErrn x = some no) {r : Rho} {v : Value} (hv : RV r x v) : v = Go.Proofs.YtaoanbebgeeicaaGreatDoor.H.errn no := by
  unfold isErrn at h
  split at h
  · cases h; exact hv
  · rename_i t c
    split at h
    · rename_i e; cases h
      have := Nat.eq_of_beq_eq_true e; subst this
      rw [RV] at hv; obtain ⟨y, rfl, hy⟩ := hv
      rw [RV] at hy; subst hy; rfl
    · cases h
  · cases h
noncomputable def cellV (h : GH) (m o : Nat) : Option AV := Option.rec none (fun c => Cell.val? c) ((dropL o (trGet [] h m)).head?)
theorem cellV_ok {h : GH} {m o : Nat} {v : AV} (e : cellV h m o = some v) : ∃ c, den h m o = some c ∧ c.val? = some v := by
  unfold cellV at e
  rw [dropL_ok, List.head?_drop] at e
  cases hc : (trGet [] h m)[o]? with
  | none => rw [hc] at e; cases e
  | some c => rw [hc] at e; exact ⟨c, hc, e⟩
noncomputable def isO (args : List AV) (h : GH) (n : Nat) : Option (AV × GH × Nat) :=
  match args with
  | [.iface t (.ptr m o), .iface u (.int .i64 d)] => if Nat.beq t 97 && Nat.beq u 93 then
      (match cellV h m (o + 2) with | some x => (match isErrn x with | some no => some (.bool (no == some d), h, n) | none => none) | none => none) else none
  | _ => none
noncomputable def asO (args : List AV) (h : GH) (n : Nat) : Option (AV × GH × Nat) :=
  match args with
  | [.iface t x, .iface u (.ptr m o)] => if errB h then
      (match x with
       | .ptr a b => if Nat.beq t 97 && (Nat.beq u 99 && rwL 1 (dropL o (trGet [] h m))) then setsL [.ptr a b] o (trGet [] h m) (fun l => trSet [] l h m fun h' => some (.bool true, h', n)) else none
       | .int .i64 c => if Nat.beq t 93 then (if Nat.beq u 99 then some (.bool false, h, n)
           else if Nat.beq u 104 && rwL 1 (dropL o (trGet [] h m)) then setsL [.int .i64 c] o (trGet [] h m) (fun l => trSet [] l h m fun h' => some (.bool true, h', n)) else none) else none
       | _ => none) else none
  | _ => none
noncomputable def orc (f : FuncId) (args : List AV) (h : GH) (n : Nat) : Option (AV × GH × Nat) :=
  if Nat.beq f 29 then isO args h n else if Nat.beq f 30 then asO args h n else none

theorem callable_is : callable Tryz.prog 29 := ⟨_, Tryz.func29, by
  have : (Tryz.f29.name == "runtime.NumGoroutine") = false := by kernel_rfl
  simpa using this, by kernel_rfl⟩
theorem callable_as : callable Tryz.prog 30 := ⟨_, Tryz.func30, by
  have : (Tryz.f30.name == "runtime.NumGoroutine") = false := by kernel_rfl
  simpa using this, by kernel_rfl⟩
theorem rw_one {h : GH} {m o : Nat} (e : rwL 1 (dropL o (trGet [] h m)) = true) : ∃ u, den h m o = some (.rw u) := by
  obtain ⟨u, hu⟩ := rwL_ok _ _ e 0 (by omega)
  rw [dropL_ok, List.getElem?_drop] at hu; exact ⟨u, hu⟩
/-- One cell set. -/
theorem set_one {h : GH} {m o n : Nat} {x : AV} (hs : Supp h n) {u : AV} (hu : den h m o = some (.rw u)) {α : Type} (c : GH → α) : ∃ h', setsL [x] o (trGet [] h m) (fun l => trSet [] l h m c) = c h' ∧ den h' = (den h).set m o (.rw x) ∧ Supp h' n := by
  have hl : o + [x].length ≤ (trGet [] h m).length := (List.getElem?_eq_some_iff.mp hu).1
  obtain ⟨l', h1, h2, h3⟩ := setsL_ok [x] o _ hl
  obtain ⟨h', g1, g2⟩ := trSet_ok [] l' h m
  refine ⟨h', by rw [h1, g1], ?_, fun j hj => ?_⟩
  · funext a b
    simp only [den, Hp.set, g2]
    by_cases e : a = m
    · subst e; rw [if_pos rfl, h3]
      by_cases e2 : b = o
      · subst e2; simp
      · rw [if_neg (by simp; omega), if_neg (fun hx => e2 hx.2)]
    · rw [if_neg e, if_neg (fun hx => e hx.1)]
  · rw [g2]; split
    · rename_i e; subst e
      have := hs j hj; rw [this] at hl; simp at hl
    · exact hs j hj
theorem ext_set {F : Hp} {m o n : Nat} {u x : AV} (hu : F m o = some (.rw u)) : Ext F n (F.set m o (.rw x)) n :=
  ⟨Nat.le_refl _, fun a b c e => by
    unfold Hp.set; split
    · exact ⟨_, rfl⟩
    · exact ⟨c, e⟩, fun a b c e => by
    unfold Hp.set at e; split at e
    · rename_i hx; obtain ⟨rfl, rfl⟩ := hx; exact .inl ⟨_, hu⟩
    · exact .inl ⟨c, e⟩⟩
theorem over_set {F H : Hp} (hs : F.sub H) {m o : Nat} {c : Cell} : (F.set m o c).over H = H.set m o c := by
  funext a b
  simp only [Hp.over, Hp.set]
  by_cases e : a = m ∧ b = o
  · rw [if_pos e, if_pos e]
  · rw [if_neg e, if_neg e]
    cases hz : F a b with
    | none => rfl
    | some c => exact (hs _ _ _ hz).symm
theorem orc_ok : ∀ f args h n v h' n', orc f args h n = some (v, h', n') → Supp h n → callable Tryz.prog f ∧ FunOk Tryz.prog f args (den h) n v (den h') n' ∧ Supp h' n' := fun f args h n v h' n' e hs => by
  unfold orc at e
  split at e
  · rename_i hf
    have := Nat.eq_of_beq_eq_true hf; subst this
    unfold isO at e
    split at e
    · rename_i t m o u d
      split at e
      · rename_i hb
        rw [Bool.and_eq_true] at hb
        have e1 := Nat.eq_of_beq_eq_true hb.1
        have e2 := Nat.eq_of_beq_eq_true hb.2
        subst e1; subst e2
        split at e
        · rename_i x hx
          split at e
          · rename_i no hno
            cases e
            refine ⟨callable_is, ⟨.refl _ _, fun H r w args' hsub hr hfr hra => ?_⟩, hs⟩
            simp only [RVs, RV] at hra
            obtain ⟨_, _, hl, ⟨_, rfl, p, hp, rfl⟩, _, _, rfl, ⟨_, rfl, rfl⟩, rfl⟩ := hra
            have ha : args' = #[.iface 97 (.pointer (some ⟨p.b, p.d + o, none⟩)), .iface 93 (.int .i64 d)] := by apply Array.ext'; exact hl
            subst ha
            obtain ⟨c, hc, hv⟩ := cellV_ok hx
            obtain ⟨_, q, v', hq, hcell, hrv⟩ := hr.get (hsub _ _ _ hc) hv
            rw [hp] at hq; cases hq
            have hv' := isErrn_ok hno hrv
            subst hv'
            refine (Go.Proofs.YtaoanbebgeeicaaGreatDoor.H.is_fault ⟨p.b, p.d + o, none⟩ no d w (by rw [Nat.add_assoc]; exact hcell)).mono fun ev w' ⟨h1, h2⟩ => ?_
            subst h2
            rw [Hp.over_of_sub hsub]
            exact ⟨_, r, h1, rfl, hr, .refl _ _ _ _⟩
          · cases e
        · cases e
      · cases e
    · cases e
  · split at e
    · rename_i hf
      have := Nat.eq_of_beq_eq_true hf; subst this
      unfold asO at e
      split at e
      · rename_i t x u m o
        split at e
        · rename_i hB
          split at e
          · rename_i a b
            split at e
            · rename_i hb
              simp only [Bool.and_eq_true] at hb
              have e1 := Nat.eq_of_beq_eq_true hb.1
              have e2 := Nat.eq_of_beq_eq_true hb.2.1
              subst e1; subst e2
              obtain ⟨old, hu⟩ := rw_one hb.2.2
              obtain ⟨h1, k1, k2, k3⟩ := set_one (x := .ptr a b) hs hu (fun h' => some (AV.bool true, h', n))
              rw [k1] at e; cases e
              refine ⟨callable_as, ⟨by rw [k2]; exact ext_set hu, fun H r w args' hsub hr hfr hra => ?_⟩, k3⟩
              simp only [RVs, RV] at hra
              obtain ⟨_, _, hl, ⟨_, rfl, p, hp, rfl⟩, _, _, rfl, ⟨_, rfl, q, hq, rfl⟩, rfl⟩ := hra
              have ha : args' = #[.iface 97 (.pointer (some ⟨p.b, p.d + b, none⟩)), .iface 99 (.pointer (some ⟨q.b, q.d + o, none⟩))] := by apply Array.ext'; exact hl
              subst ha
              have hH := hsub _ _ _ hu
              obtain ⟨_, q', old', hq', hc, _, hfz⟩ := hr.cell _ _ _ hH
              rw [hq] at hq'; cases hq'
              refine (Go.Proofs.YtaoanbebgeeicaaGreatDoor.H.as_fault ⟨p.b, p.d + b, none⟩ ⟨q.b, q.d + o, none⟩ old' w (errB_ok hB hsub hr) hc hfz).mono fun ev w' ⟨h1, h2⟩ => ?_
              subst h2
              rw [k2, over_set hsub]
              refine ⟨_, r, h1, rfl, Rel.store ((((hr.quiet _).quiet _).quiet _).quiet _) hH (v := .ptr a b) rfl (show RV r (.ptr a b) (.pointer (some ⟨p.b, p.d + b, none⟩)) from ⟨p, hp, rfl⟩) hq, ?_⟩
              exact ((((Adv.quiet _).trans (Adv.quiet _) (Nat.le_refl _) (Nat.le_refl _)).trans (Adv.quiet _) (Nat.le_refl _) (Nat.le_refl _)).trans (Adv.quiet _) (Nat.le_refl _) (Nat.le_refl _)).trans (Adv.store hH hq) (Nat.le_refl _) (Nat.le_refl _)
            · cases e
          · rename_i c
            split at e
            · rename_i ht
              have e1 := Nat.eq_of_beq_eq_true ht
              subst e1
              split at e
              · rename_i hu
                have e2 := Nat.eq_of_beq_eq_true hu
                subst e2
                cases e
                refine ⟨callable_as, ⟨.refl _ _, fun H r w args' hsub hr hfr hra => ?_⟩, hs⟩
                simp only [RVs, RV] at hra
                obtain ⟨_, _, hl, ⟨_, rfl, rfl⟩, _, _, rfl, ⟨_, rfl, q, hq, rfl⟩, rfl⟩ := hra
                have ha : args' = #[.iface 93 (.int .i64 c), .iface 99 (.pointer (some ⟨q.b, q.d + o, none⟩))] := by apply Array.ext'; exact hl
                subst ha
                refine (Go.Proofs.YtaoanbebgeeicaaGreatDoor.H.as_miss c ⟨q.b, q.d + o, none⟩ w (errB_ok hB hsub hr)).mono fun ev w' ⟨h1, h2⟩ => ?_
                subst h2
                rw [Hp.over_of_sub hsub]
                exact ⟨_, r, h1, rfl, ((hr.quiet _).quiet _).quiet _, ((Adv.quiet _).trans (Adv.quiet _) (Nat.le_refl _) (Nat.le_refl _)).trans (Adv.quiet _) (Nat.le_refl _) (Nat.le_refl _)⟩
              · split at e
                · rename_i hb
                  rw [Bool.and_eq_true] at hb
                  have e2 := Nat.eq_of_beq_eq_true hb.1
                  subst e2
                  obtain ⟨old, hu⟩ := rw_one hb.2
                  obtain ⟨h1, k1, k2, k3⟩ := set_one (x := .int .i64 c) hs hu (fun h' => some (AV.bool true, h', n))
                  rw [k1] at e; cases e
                  refine ⟨callable_as, ⟨by rw [k2]; exact ext_set hu, fun H r w args' hsub hr hfr hra => ?_⟩, k3⟩
                  simp only [RVs, RV] at hra
                  obtain ⟨_, _, hl, ⟨_, rfl, rfl⟩, _, _, rfl, ⟨_, rfl, q, hq, rfl⟩, rfl⟩ := hra
                  have ha : args' = #[.iface 93 (.int .i64 c), .iface 104 (.pointer (some ⟨q.b, q.d + o, none⟩))] := by apply Array.ext'; exact hl
                  subst ha
                  have hH := hsub _ _ _ hu
                  obtain ⟨_, q', old', hq', hc, _, hfz⟩ := hr.cell _ _ _ hH
                  rw [hq] at hq'; cases hq'
                  refine (Go.Proofs.YtaoanbebgeeicaaGreatDoor.H.as_errno c ⟨q.b, q.d + o, none⟩ old' w (errB_ok hB hsub hr) hc hfz).mono fun ev w' ⟨h1, h2⟩ => ?_
                  subst h2
                  rw [k2, over_set hsub]
                  refine ⟨_, r, h1, rfl, Rel.store ((((hr.quiet _).quiet _).quiet _).quiet _) hH (v := .int .i64 c) rfl (show RV r (.int .i64 c) (.int .i64 c) from rfl) hq, ?_⟩
                  exact ((((Adv.quiet _).trans (Adv.quiet _) (Nat.le_refl _) (Nat.le_refl _)).trans (Adv.quiet _) (Nat.le_refl _) (Nat.le_refl _)).trans (Adv.quiet _) (Nat.le_refl _) (Nat.le_refl _)).trans (Adv.store hH hq) (Nat.le_refl _) (Nat.le_refl _)
                · cases e
            · cases e
          · cases e
        · cases e
      · cases e
    · cases e
end Go.Proofs.YtaoanbebgeeicaaGreatDoor.G
