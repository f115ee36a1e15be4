/- This program's evaluator. -/
import Derived.Test.YtaoanbebgeeicaaGreatDoorG15
namespace Go.Proofs.YtaoanbebgeeicaaGreatDoor.G
open Go Go.RowKit
set_option linter.unusedVariables false
set_option maxRecDepth 1000000

noncomputable def ftab (f : FuncId) : Option FI := Option.rec none (fun fn => Option.rec none (fun b => some ⟨fn.ntmps, b, fn.results.toList⟩) fn.body) (Tryz.prog.funcs[f]?)
noncomputable def env : Env := ⟨Tryz.prog, ftab, orc⟩
def goodF (P : Program) (fn : Func) : Bool := match fn.body with | none => true | some b => okCode P fn.ntmps b && (fn.name != "runtime.NumGoroutine")
theorem allGood : Tryz.prog.funcs.toList.all (goodF Tryz.prog) = true := by kernel_rfl
theorem env_ok : EnvOk env := by
  refine ⟨by kernel_rfl, fun f fi h => ?_, fun f args h n v h' n' => orc_ok f args h n v h' n'⟩
  have h : ftab f = some fi := h
  unfold ftab at h
  cases hf : Tryz.prog.funcs[f]? with
  | none => rw [hf] at h; cases h
  | some fn =>
    rw [hf] at h
    cases hbd : fn.body with
    | none => simp only [hbd] at h; cases h
    | some b =>
      simp only [hbd] at h
      cases h
      have hg := List.all_eq_true.mp allGood fn (by rw [← Array.getElem?_toList] at hf; exact List.mem_of_getElem? hf)
      unfold goodF at hg
      rw [hbd] at hg
      simp only [Bool.and_eq_true, bne_iff_ne, ne_eq] at hg
      exact ⟨fn, hf, hbd, rfl, rfl, hg.2, hg.1⟩
/-- The names that there are ahead of a run: the package variables'. -/
noncomputable def rho0 : Rho := fun m => if m < Tryz.prog.globals.size then some ⟨m, 0, 0, 0⟩ else none
theorem base_at {m o : Nat} {c : Cell} (h : den baseH m o = some c) : m = 0 ∧ o = 0 ∧ c = .ro (.rty 168 1 34) := by
  obtain ⟨t, h1, h2⟩ := trSet_ok [] [Cell.ro (.rty 168 1 34)] (.nil : GH) 0
  have hb : baseH = t := h1 _ _
  rw [hb] at h
  simp only [den, h2] at h
  split at h
  · rename_i hm
    cases o with
    | zero => simp at h; exact ⟨hm, rfl, h.symm⟩
    | succ o => simp at h
  · simp [trGet] at h
theorem base_supp : Supp baseH 1 := fun m hm => by
  obtain ⟨t, h1, h2⟩ := trSet_ok [] [Cell.ro (.rty 168 1 34)] (.nil : GH) 0
  have hb : baseH = t := h1 _ _
  rw [hb, h2, if_neg (by omega)]; rfl
theorem globs : Tryz.prog.globals.size = 1 := by kernel_rfl
theorem base_rel {W : World} (hE : Go.Proofs.YtaoanbebgeeicaaGreatDoor.H.ErrTy W) (hsz : 1 ≤ W.heap.size) : Rel Tryz.prog rho0 (den baseH) W := by
  refine ⟨fun n o c e => ?_, fun n1 o1 c1 n2 o2 c2 b j e1 e2 w1 _ _ => ?_, fun n p hp => ?_, fun g hg => ⟨⟨g, 0, 0, 0⟩, if_pos hg, rfl, rfl⟩⟩
  · obtain ⟨rfl, rfl, rfl⟩ := base_at e
    exact ⟨rfl, ⟨0, 0, 0, 0⟩, _, by unfold rho0; rw [globs]; rfl, hE, rfl⟩
  · obtain ⟨rfl, rfl, rfl⟩ := base_at e1
    cases w1
  · unfold rho0 at hp
    split at hp
    · rename_i hlt; cases hp; rw [globs] at hlt; exact Nat.lt_of_lt_of_le hlt hsz
    · cases hp
/-- A law that the kernel has run at given arguments. -/
theorem ran {f : FuncId} {args : List AV} {fuel : Nat} (hr : callF env (run env fuel) f args baseH 1 (fun v _ _ => beqAV v (.bool true)) = true) {W : World} (hE : Go.Proofs.YtaoanbebgeeicaaGreatDoor.H.ErrTy W) (hsz : 1 ≤ W.heap.size) {args' : Array Value} (ha : ∀ r, RVs r args args'.toList) :
    Calls Tryz.prog f args' W fun e W' => e = .returned (.bool true) ∧ Below W.heap.size W W' := by
  obtain ⟨v, h', n', h1, h2⟩ := call_ok env_ok base_supp hr
  have := beqAV_eq _ _ h2
  subst this
  refine (h1.run (den baseH) rho0 W args' (fun _ _ _ e => e) (base_rel hE hsz) (fun m hm _ => ⟨by unfold rho0; rw [if_neg (by rw [globs]; omega)], fun o => base_supp.none hm o⟩) (ha _)).mono fun e W' ⟨v', r', e1, e2, e3, e4⟩ => ?_
  rw [RV] at e2; subst e2
  refine ⟨e1, ⟨e4.os, e4.tape, e4.output, e4.size, fun b hb => e4.block b hb fun ho => ?_⟩⟩
  obtain ⟨n, o, c, p, k1, k2, _⟩ := ho
  obtain ⟨_, _, rfl⟩ := base_at k1
  cases k2
end Go.Proofs.YtaoanbebgeeicaaGreatDoor.G
