/- lift.fault over a Fault (form, 0, 5), and furrowlaw2.Tells of what it makes; no conditions. -/
import Derived.Test.YtnkckdbjeemjeaaDoorHandD
namespace Go.Proofs.YtnkckdbjeemjeaaDoor.H
open Go.Proofs.YtnkckdbjeemjeaaDoor.Flt Go.Proofs.YtnkckdbjeemjeaaDoor.X Go.RowKit Go.Proofs.YtnkckdbjeemjeaaDoorW.PrintWords
deriving instance DecidableEq for Flt
deriving instance DecidableEq for S55
theorem deep_of {w : World} {base : Nat} {ok : Nat → Prop} {v : Value} (h : Kd.R fltK 62 w base ok v [⟨formS, 0, some 5⟩]) : ∃ k, errV v = .iface 58 (.pointer (some ⟨k, 0, none⟩)) ∧ Deep w k ∧ base ≤ k := by
  obtain ⟨hok, inner, ⟨hl, ho⟩, hr⟩ := h
  rcases ho with ⟨rfl, h0⟩ | ⟨g, cap, cur, rfl, hg, hh, h1, h2, h3, h4⟩
  · cases h0
  · have hm := hr.2 0 _ rfl
    have hi : inner.length = 3 := hl
    rw [Nat.zero_mul, List.drop_zero, List.take_of_length_le (by show inner.length ≤ 3; omega)] at hm
    rcases hm with ⟨_, hc⟩ | ⟨he, _⟩
    · have h4 : cur.toList.take 3 = fltC ⟨formS, 0, some 5⟩ := h4.trans hc
      have hj : ∀ j, j < 3 → cur[j]? = (fltC ⟨formS, 0, some 5⟩)[j]? := fun j hj => by rw [← h4, List.getElem?_take_of_lt hj, Array.getElem?_toList]
      exact ⟨g, rfl, ⟨cur, hh, hj 0 (by omega), hj 1 (by omega), hj 2 (by omega)⟩, hg⟩
    · exact absurd he (by decide)
theorem errR_deep (w : World) (p : ByteArray) (k base : Nat) (hd : Deep w k) (hb : base ≤ w.heap.size) (hk : base ≤ k) :
    Kd.R fltK 62 (w.alloc (.cells #[.string p, .int .i64 0, .iface 58 (.pointer (some ⟨k, 0, none⟩))] 62)) base (fun _ => True) (.slice (some ⟨w.heap.size, 0, none⟩) 1 1) [⟨p, deepC, none⟩] := by
  obtain ⟨cur, h1, h2⟩ := hd
  have hlt : k < w.heap.size := (Array.getElem?_eq_some_iff.mp h1).1
  refine ⟨fun _ _ => trivial, deepF ⟨p, deepC, none⟩ k, ⟨rfl, .inr ⟨w.heap.size, 1, #[.string p, .int .i64 0, .iface 58 (.pointer (some ⟨k, 0, none⟩))], rfl, hb, by simpa using heap_alloc_new w _, Nat.le_refl _, by unfold maxLen; omega, rfl, rfl⟩⟩, ?_⟩
  refine ⟨rfl, fun j q hj => ?_⟩
  cases j with
  | zero =>
    obtain rfl : (⟨p, deepC, none⟩ : Flt) = q := by simpa using hj
    exact .inr ⟨rfl, k, rfl, ⟨cur, (((Below.refl w.heap.size w).alloc (Nat.le_refl _) _).block k hlt).trans h1, h2⟩, ⟨trivial, by simp [Value.ownBlock]; omega⟩, hk⟩
  | succ j => simp at hj
def liftS : ByteArray := ⟨#[108, 105, 102, 116]⟩
def lift_fault2.f (l0 : List Flt) : Option (List Flt) := if l0 = [⟨formS, 0, some 5⟩] then some [⟨liftS, deepC, none⟩] else none
theorem lift_fault2.calls (A0 : Option Addr) (c0 : Nat) (l0 : List Flt) (r : List Flt) (w : World) (base : Nat) (hr0 : Kd.R fltK 62 w base (fun _ => True) (.slice A0 l0.length c0) l0) (hb : base ≤ w.heap.size) (h : lift_fault2.f l0 = some r) :
    Calls Tryd.prog 19 #[errV (.slice A0 l0.length c0)] w fun e w' => ∃ v_ : Value, e = .returned (errV v_) ∧ Kd.R fltK 62 w' base (fun _ => True) v_ r ∧ Below w.heap.size w w' := by
  unfold lift_fault2.f at h
  split at h
  · rename_i hl
    subst hl
    obtain rfl := Option.some.inj h
    obtain ⟨k, hv, hd, hk⟩ := deep_of hr0
    rw [hv]
    have hu := Tryd.underlying62
    have HD := Aside0.mk hd
    clear hd hr0 hv
    go_enter Tryd.func19, Tryd.ntmps19
    go_wp2
    go_ret
    exact ⟨.slice (some ⟨w.heap.size, 0, none⟩) 1 1, rfl, errR_deep _ _ _ _ HD.out hb hk, (Below.refl _ _).alloc (Nat.le_refl _) _⟩
  · cases h
theorem deep_cell {w : World} {k j : Nat} {v : Value} {cur : Array Value} (h : w.heap[k]? = some (.cells cur 62 (0, 0))) (hj : cur[j]? = some v) : w.cell? ⟨k, j, none⟩ = some v := by
  exact (blk_cell h j).trans hj
def furrowlaw2_Tells2.f (l0 : List Flt) (l1 : List S55) (a1 : Int) : Option Bool :=
  if l0 = [⟨liftS, deepC, none⟩] ∧ l1 = [⟨liftS, 0⟩, ⟨formS, 0⟩] ∧ a1 = 5 then some true else none
theorem furrowlaw2_Tells2.calls (A0 : Option Addr) (c0 : Nat) (l0 : List Flt) (A1_0 : Option Addr) (c1_0 : Nat) (l1_0 : List S55) (a1_1 : Int) (r : Bool) (w : World) (hr0 : Kd.C fltK w A0 l0.length l0) (hc0 : l0.length ≤ c0) (hr1_0 : Kd.C k55 w A1_0 l1_0.length l1_0) (hc1_0 : l1_0.length ≤ c1_0) (hG : Glob w) (h : furrowlaw2_Tells2.f l0 l1_0 a1_1 = some r) :
    Calls Tryd.prog 14 #[errV (.slice A0 l0.length c0), .agg #[.slice A1_0 l1_0.length c1_0, .int .i64 a1_1]] w fun e w' => e = .returned (.bool r) ∧ Below w.heap.size w w' := by
  unfold furrowlaw2_Tells2.f at h
  split at h
  · rename_i hl
    obtain ⟨rfl, rfl, rfl⟩ := hl
    obtain rfl := Option.some.inj h
    obtain ⟨ad, c, rfl, _, hK, hc0'⟩ := Kd.C_get hr0 Flt.zero 0 (by simp) (by simp)
    have hc : ∀ j u, c[j]? = some u → w.cell? (ad.add (0 + j)) = some u := fun j u hu => by have := hc0' j u hu; simpa using this
    rcases hK with ⟨h0, _⟩ | ⟨_, k, rfl, cur, h1, h2, h3, h4⟩
    · exact absurd rfl h0
    · have hx0 : w.cell? ad = some (.string liftS) := hc 0 _ rfl
      have hx1 : w.cell? ⟨ad.block, ad.off + 1, none⟩ = some (.int .i64 0) := by rw [← hc 1 _ rfl, add_field _ 0 1 (by omega)]; rfl
      have hx2 : w.cell? ⟨ad.block, ad.off + 2, none⟩ = some (.iface 58 (.pointer (some ⟨k, 0, none⟩))) := by rw [← hc 2 _ rfl, add_field _ 0 2 (by omega)]; rfl
      obtain ⟨pa, rfl, hp0, hp1⟩ := at_T55 hr1_0 0 (by omega) (by simp)
      obtain ⟨pa', hpa, hq0, hq1⟩ := at_T55 hr1_0 1 (by omega) (by simp)
      obtain rfl := Option.some.inj hpa
      exact tells_two ad ⟨k, 0, none⟩ pa liftS formS 0 0 (by decide) hG hx0 hx1 hx2 (deep_cell h1 h2) (deep_cell h1 h3) (deep_cell h1 h4) hp0 hp1 hq0 hq1
  · cases h
end Go.Proofs.YtnkckdbjeemjeaaDoor.H
