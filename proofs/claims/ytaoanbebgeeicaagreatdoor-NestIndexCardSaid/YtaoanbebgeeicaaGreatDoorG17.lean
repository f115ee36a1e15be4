/- The law's own first look (known), run once by the kernel: from then on an oracle. -/
import Derived.Test.YtaoanbebgeeicaaGreatDoorG16
namespace Go.Proofs.YtaoanbebgeeicaaGreatDoor.G
open Go Go.RowKit
set_option linter.unusedVariables false
set_option maxRecDepth 1000000

theorem known_run : callF env (run env 1000000) 6 [] baseH 1 (fun v _ _ => beqAV v (.bool true)) = true := by kernel_rfl
theorem known_true {W : World} (hE : Go.Proofs.YtaoanbebgeeicaaGreatDoor.H.ErrTy W) (hsz : 1 ≤ W.heap.size) : Calls Tryz.prog 6 #[] W fun e W' => e = .returned (.bool true) ∧ Below W.heap.size W W' :=
  ran known_run hE hsz (fun r => by simp [RVs])
theorem Rel.below {P : Program} {r : Rho} {H : Hp} {w w' : World} (h : Rel P r H w) (b : Below w.heap.size w w') : Rel P r H w' :=
  ⟨fun n p c e => (h.cell n p c e).block fun q hq => b.block _ (h.low n q hq), h.sep, fun n p hp => Nat.lt_of_lt_of_le (h.low n p hp) b.size, h.glob⟩
theorem Adv.below {n : Nat} {r : Rho} {H : Hp} {w w' : World} (b : Below w.heap.size w w') : Adv n n r H w r H w' :=
  ⟨.refl r, fun _ _ => rfl, b.os, b.tape, b.output, b.size, fun j hj _ => b.block j hj, fun _ _ h => h⟩
noncomputable def orcK (f : FuncId) (args : List AV) (h : GH) (n : Nat) : Option (AV × GH × Nat) :=
  if Nat.beq f 6 then (match args with | [] => if errB h then some (.bool true, h, n) else none | _ => none) else orc f args h n
theorem callable_known : callable Tryz.prog 6 := ⟨_, Tryz.func6, by
  have : (Tryz.f6.name == "runtime.NumGoroutine") = false := by kernel_rfl
  simpa using this, by kernel_rfl⟩
noncomputable def envK : Env := ⟨Tryz.prog, ftab, orcK⟩
theorem envK_ok : EnvOk envK := by
  refine ⟨env_ok.mixed, env_ok.ft, fun f args h n v h' n' e0 hs => ?_⟩
  have e : orcK f args h n = some (v, h', n') := e0; clear e0
  unfold orcK at e
  split at e
  · rename_i hf
    have := Nat.eq_of_beq_eq_true hf; subst this
    split at e
    · split at e
      · rename_i hB; cases e
        refine ⟨callable_known, ⟨.refl _ _, fun H r w args' hsub hr hfr hra => ?_⟩, hs⟩
        obtain rfl : args' = #[] := by
          cases hl : args'.toList with
          | nil => exact Array.toList_eq_nil_iff.mp hl
          | cons a l => rw [hl] at hra; simp [RVs] at hra
        have hsz : 1 ≤ w.heap.size := by
          obtain ⟨q, hq, h1, _⟩ := hr.glob (1 - 1) (of_decide_eq_true (by kernel_rfl))
          have := hr.low _ _ hq
          rw [h1] at this; omega
        refine (known_true (errB_ok hB hsub hr) hsz).mono fun ev w' ⟨h1, h2⟩ => ?_
        rw [Hp.over_of_sub hsub]
        exact ⟨_, r, h1, rfl, hr.below h2, .below h2⟩
      · cases e
    · cases e
  · exact orc_ok f args h n v h' n' e hs
/-- A law that the kernel has run at given arguments, known being an oracle. -/
theorem ranK {f : FuncId} {args : List AV} {fuel : Nat} (hr : callF envK (run envK fuel) f args baseH 1 (fun v _ _ => beqAV v (.bool true)) = true) {W : World} (hE : Go.Proofs.YtaoanbebgeeicaaGreatDoor.H.ErrTy W) (hsz : 1 ≤ W.heap.size) {args' : Array Value} (ha : ∀ r, RVs r args args'.toList) :
    Calls Tryz.prog f args' W fun e W' => e = .returned (.bool true) ∧ Below W.heap.size W W' := by
  obtain ⟨v, h', n', h1, h2⟩ := call_ok envK_ok base_supp hr
  have := beqAV_eq _ _ h2
  subst this
  refine (h1.run (den baseH) rho0 W args' (fun _ _ _ e => e) (base_rel hE hsz) (fun m hm _ => ⟨by unfold rho0; rw [if_neg (by rw [globs]; omega)], fun o => base_supp.none hm o⟩) (ha _)).mono fun e W' ⟨v', r', e1, e2, e3, e4⟩ => ?_
  rw [RV] at e2; subst e2
  refine ⟨e1, ⟨e4.os, e4.tape, e4.output, e4.size, fun b hb => e4.block b hb fun ho => ?_⟩⟩
  obtain ⟨n, o, c, p, k1, k2, _⟩ := ho
  obtain ⟨_, _, rfl⟩ := base_at k1
  cases k2
end Go.Proofs.YtaoanbebgeeicaaGreatDoor.G
