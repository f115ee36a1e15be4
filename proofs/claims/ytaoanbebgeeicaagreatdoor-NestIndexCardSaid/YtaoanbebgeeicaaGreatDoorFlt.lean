/- Errors that are a Fault over an Errno, told as rows of at most one Flt; no conditions. -/
import Derived.Test.YtaoanbebgeeicaaGreatDoorWWords
import Derived.Test.YtaoanbebgeeicaaGreatDoorProg
namespace Go.Proofs.YtaoanbebgeeicaaGreatDoor.Flt
open Go.RowKit Go.Proofs.YtaoanbebgeeicaaGreatDoorW.PrintWords
/-- A Fault: its part, its place, the Errno within. -/
structure Flt where
  part : ByteArray
  place : Int
  no : Option Int
def Flt.zero : Flt := ⟨⟨#[]⟩, 0, none⟩
def errn : Option Int → Value
  | none => .nilIface
  | some c => .iface 93 (.int .i64 c)
theorem errn_one (c : Option Int) : (errn c).oneCell' = true := by cases c <;> rfl
def fltC (x : Flt) : List Value := [.string x.part, .int .i64 x.place, errn x.no]
def fltK : Kd Flt where
  sz := 3
  E := []
  K := fun _ x cs => cs = fltC x
  M := fun _ _ _ x cs => cs = fltC x
  K_len := fun h => by rw [h]; rfl
  K_one := fun h u hu => by
    rw [h] at hu
    simp only [fltC, List.mem_cons, List.not_mem_nil, or_false] at hu
    rcases hu with rfl | rfl | rfl
    · rfl
    · rfl
    · exact errn_one _
  K_below := fun _ h => h
  K_of_M := fun h => h
  M_mono := fun _ h => h
  M_bound := fun h => h
  M_move := fun _ h => h
  M_lower := fun _ h => h
/-- An error's value, by its row's. -/
def errV : Value → Value
  | .slice (some a) (_ + 1) _ => .iface 97 (.pointer (some a))
  | _ => .nilIface
def errA : Value → Addr
  | .slice (some a) _ _ => a
  | _ => ⟨0, 0, none⟩
theorem errV_nil : errV (.slice none 0 0) = .nilIface := rfl
theorem errV_one (a : Addr) (c : Nat) : errV (.slice (some a) 1 c) = .iface 97 (.pointer (some a)) := rfl
section
variable {e : Nat} {w : World} {base : Nat} {ok : Nat → Prop} {v : Value} {xs : List Flt}
theorem errV_no (h : Kd.R fltK e w base ok v xs) (c : ((xs.length : Int) == 0) = true) : errV v = .nilIface := by
  obtain ⟨A, n, rfl, hl, hr⟩ := Kd.R_reads h
  have : xs.length = 0 := by simpa using c
  rw [this]; cases A <;> rfl
theorem errV_yes (h : Kd.R fltK e w base ok v xs) (c : ((xs.length : Int) == 0) = false) : errV v = .iface 97 (.pointer (some (errA v))) := by
  obtain ⟨A, n, rfl, hl, hr⟩ := Kd.R_reads h
  have h0 : xs.length ≠ 0 := by simpa using c
  obtain ⟨m, hm⟩ : ∃ m, xs.length = m + 1 := ⟨xs.length - 1, by omega⟩
  obtain ⟨ad, rfl, _⟩ := hr.2.2 (by omega)
  rw [hm]; rfl
end
/-- A Fault that was just made. -/
theorem errR_new (w : World) (x : Flt) (ok : Nat → Prop) (hok : ok w.heap.size := by trivial) : Kd.R fltK 101 (w.alloc (.cells #[.string x.part, .int .i64 x.place, errn x.no] 101)) w.heap.size ok (.slice (some ⟨w.heap.size, 0, none⟩) 1 1) [x] := by
  refine ⟨fun k hk => ?_, fltC x, ⟨rfl, .inr ⟨w.heap.size, 1, #[.string x.part, .int .i64 x.place, errn x.no], rfl, Nat.le_refl _, by simpa using heap_alloc_new w _, Nat.le_refl _, by unfold maxLen; omega, rfl, rfl⟩⟩, ?_⟩
  · have : w.heap.size = k := by simpa [Value.ownBlock] using hk
    rw [← this]; exact hok
  · refine ⟨rfl, fun j p hj => ?_⟩
    cases j with
    | zero =>
      have : x = p := by simpa using hj
      subst this; rfl
    | succ j => simp at hj
theorem bne_nil_ (l : List UInt8) : (l != []) = !l.isEmpty := by cases l <;> rfl
theorem beq_nil_ (l : List UInt8) : (l == []) = l.isEmpty := by cases l <;> rfl
end Go.Proofs.YtaoanbebgeeicaaGreatDoor.Flt
namespace Go.Proofs.YtaoanbebgeeicaaGreatDoor.H
end Go.Proofs.YtaoanbebgeeicaaGreatDoor.H
