/- Errors that are a Fault over an Errno, told as rows of at most one Flt; no conditions. -/
import Derived.Test.YtnkckdbjeemjeaaDoorWWords
import Derived.Test.YtnkckdbjeemjeaaDoorProg
namespace Go.Proofs.YtnkckdbjeemjeaaDoor.Flt
open Go.RowKit Go.Proofs.YtnkckdbjeemjeaaDoorW.PrintWords
/-- A Fault: its part, its place, the Errno within. -/
structure Flt where
  part : ByteArray
  place : Int
  no : Option Int
def Flt.zero : Flt := ⟨⟨#[]⟩, 0, none⟩
def errn : Option Int → Value
  | none => .nilIface
  | some c => .iface 57 (.int .i64 c)
theorem errn_one (c : Option Int) : (errn c).oneCell' = true := by cases c <;> rfl
def fltC (x : Flt) : List Value := [.string x.part, .int .i64 x.place, errn x.no]
/-- A place that is none: it stands for a Fault at place 0 that has an inner Fault (form, 0, 5). -/
def deepC : Int := 1180591620717411303424
def formS : ByteArray := ⟨#[102, 111, 114, 109]⟩
/-- A Fault (form, 0, 5) at block k. -/
def Deep (w : World) (k : Nat) : Prop := ∃ cur, w.heap[k]? = some (.cells cur 62 (0, 0)) ∧ cur[0]? = some (.string formS) ∧ cur[1]? = some (.int .i64 0) ∧ cur[2]? = some (errn (some 5))
def deepF (x : Flt) (k : Nat) : List Value := [.string x.part, .int .i64 0, .iface 58 (.pointer (some ⟨k, 0, none⟩))]
theorem flt_one (x : Flt) : ∀ u ∈ fltC x, u.oneCell' = true := fun u hu => by
  simp only [fltC, List.mem_cons, List.not_mem_nil, or_false] at hu
  rcases hu with rfl | rfl | rfl
  · rfl
  · rfl
  · exact errn_one _
theorem deep_one (x : Flt) (k : Nat) : ∀ u ∈ deepF x k, u.oneCell' = true := fun u hu => by
  simp only [deepF, List.mem_cons, List.not_mem_nil, or_false] at hu
  rcases hu with rfl | rfl | rfl <;> rfl
def fltK : Kd Flt where
  sz := 3
  E := [62]
  K := fun w x cs => (x.place ≠ deepC ∧ cs = fltC x) ∨ (x.place = deepC ∧ ∃ k, cs = deepF x k ∧ Deep w k)
  M := fun w base ok x cs => (x.place ≠ deepC ∧ cs = fltC x) ∨ (x.place = deepC ∧ ∃ k, cs = deepF x k ∧ Deep w k ∧ ok k ∧ base ≤ k)
  K_len := fun h => by rcases h with ⟨_, rfl⟩ | ⟨_, k, rfl, _⟩ <;> rfl
  K_one := fun h u hu => by
    rcases h with ⟨_, rfl⟩ | ⟨_, k, rfl, _⟩
    · exact flt_one _ u hu
    · exact deep_one _ _ u hu
  K_below := fun hb h => by
    rcases h with h | ⟨h0, k, h1, cur, h2, h3⟩
    · exact .inl h
    · exact .inr ⟨h0, k, h1, cur, (hb.block k (List.getElem?_eq_some_iff.mp (by simpa using h2)).1).trans h2, h3⟩
  K_of_M := fun h => by
    rcases h with h | ⟨h0, k, h1, h2, _⟩
    · exact .inl h
    · exact .inr ⟨h0, k, h1, h2⟩
  M_mono := fun hm h => by
    rcases h with h | ⟨h0, k, h1, h2, h3, h4⟩
    · exact .inl h
    · exact .inr ⟨h0, k, h1, h2, hm k h3, h4⟩
  M_bound := fun {w base ok x cs} h => by
    rcases h with h | ⟨h0, k, h1, ⟨cur, h2, h2'⟩, h3, h4⟩
    · exact .inl h
    · refine .inr ⟨h0, k, h1, ⟨cur, h2, h2'⟩, ⟨h3, h4, ?_, 62, by simp, cur, h2⟩, h4⟩
      by_cases hk : k < w.heap.size
      · exact hk
      · simp [hk] at h2
  M_move := fun hm h => by
    rcases h with h | ⟨h0, k, h1, ⟨cur, h2, h2'⟩, h3, h4⟩
    · exact .inl h
    · exact .inr ⟨h0, k, h1, ⟨cur, (hm k h3).trans h2, h2'⟩, h3, h4⟩
  M_lower := fun hb h => by
    rcases h with h | ⟨h0, k, h1, h2, h3, h4⟩
    · exact .inl h
    · exact .inr ⟨h0, k, h1, h2, h3, Nat.le_trans hb h4⟩
/-- An error's value, by its row's. -/
def errV : Value → Value
  | .slice (some a) (_ + 1) _ => .iface 58 (.pointer (some a))
  | _ => .nilIface
def errA : Value → Addr
  | .slice (some a) _ _ => a
  | _ => ⟨0, 0, none⟩
theorem errV_nil : errV (.slice none 0 0) = .nilIface := rfl
theorem errV_one (a : Addr) (c : Nat) : errV (.slice (some a) 1 c) = .iface 58 (.pointer (some a)) := rfl
section
variable {e : Nat} {w : World} {base : Nat} {ok : Nat → Prop} {v : Value} {xs : List Flt}
theorem errV_no (h : Kd.R fltK e w base ok v xs) (c : ((xs.length : Int) == 0) = true) : errV v = .nilIface := by
  obtain ⟨A, n, rfl, hl, hr⟩ := Kd.R_reads h
  have : xs.length = 0 := by simpa using c
  rw [this]; cases A <;> rfl
theorem errV_yes (h : Kd.R fltK e w base ok v xs) (c : ((xs.length : Int) == 0) = false) : errV v = .iface 58 (.pointer (some (errA v))) := by
  obtain ⟨A, n, rfl, hl, hr⟩ := Kd.R_reads h
  have h0 : xs.length ≠ 0 := by simpa using c
  obtain ⟨m, hm⟩ : ∃ m, xs.length = m + 1 := ⟨xs.length - 1, by omega⟩
  obtain ⟨ad, rfl, _⟩ := hr.2.2 (by omega)
  rw [hm]; rfl
end
/-- A Fault that was just made. -/
theorem errR_new (w : World) (x : Flt) (ok : Nat → Prop) (hok : ok w.heap.size := by trivial) (hx : x.place ≠ deepC := by show (0 : Int) ≠ deepC; decide) : Kd.R fltK 62 (w.alloc (.cells #[.string x.part, .int .i64 x.place, errn x.no] 62)) w.heap.size ok (.slice (some ⟨w.heap.size, 0, none⟩) 1 1) [x] := by
  refine ⟨fun k hk => ?_, fltC x, ⟨rfl, .inr ⟨w.heap.size, 1, #[.string x.part, .int .i64 x.place, errn x.no], rfl, Nat.le_refl _, by simpa using heap_alloc_new w _, Nat.le_refl _, by unfold maxLen; omega, rfl, rfl⟩⟩, ?_⟩
  · have : w.heap.size = k := by simpa [Value.ownBlock] using hk
    rw [← this]; exact hok
  · refine ⟨rfl, fun j p hj => ?_⟩
    cases j with
    | zero =>
      have : x = p := by simpa using hj
      subst this; exact .inl ⟨hx, rfl⟩
    | succ j => simp at hj
theorem bne_nil_ (l : List UInt8) : (l != []) = !l.isEmpty := by cases l <;> rfl
theorem beq_nil_ (l : List UInt8) : (l == []) = l.isEmpty := by cases l <;> rfl
end Go.Proofs.YtnkckdbjeemjeaaDoor.Flt
namespace Go.Proofs.YtnkckdbjeemjeaaDoor.H
end Go.Proofs.YtnkckdbjeemjeaaDoor.H
