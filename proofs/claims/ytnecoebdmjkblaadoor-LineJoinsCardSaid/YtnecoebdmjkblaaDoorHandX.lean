/- strings.CutSuffix, strings.IndexByte, strings.TrimLeft at a cutset of ASCII bytes, line.Join: the shelf's contracts in the form of the printed walks; no conditions. -/
import Derived.Test.YtnecoebdmjkblaaDoorShelf
import Derived.Test.YtnecoebdmjkblaaDoorFlt
import Derived.Shelf.Strings.SlTrimAscii
import Derived.WalkKit
import Derived.KernelRfl
import Derived.Below
namespace Go.Proofs.YtnecoebdmjkblaaDoor.H
open Go.Proofs.YtnecoebdmjkblaaDoor.Flt Go.RowKit Go.Proofs.YtnecoebdmjkblaaDoorW.PrintWords
def strings_CutSuffix.f (a0 a1 : ByteArray) : Option (ByteArray × Bool) := if a0.size ≤ 9223372036854775807 then some (⟨(Lib.trimSuffix a0.data.toList a1.data.toList).toArray⟩, Lib.hasSuffix a0.data.toList a1.data.toList) else none
theorem strings_CutSuffix.calls (a0 a1 : ByteArray) (r1 : ByteArray) (r2 : Bool) (w : World) (h : strings_CutSuffix.f a0 a1 = some (r1, r2)) :
    Calls Tryd.prog 19 #[.string a0, .string a1] w fun e w' => e = .returned (.tuple #[.string r1, .bool r2]) ∧ Below w.heap.size w w' := by
  unfold strings_CutSuffix.f at h
  by_cases c : a0.size ≤ 9223372036854775807
  · rw [if_pos c] at h
    obtain ⟨rfl, rfl⟩ := Prod.mk.inj (Option.some.inj h)
    exact (Tryd.strings_CutSuffix a0 a1 w c).mono fun e w' ⟨h1, h2⟩ => ⟨h1, h2 ▸ Below.refl _ _⟩
  · rw [if_neg c] at h; cases h
def strings_IndexByte.f (a0 : ByteArray) (a1 : Int) : Option Int := some (Lib.indexByte a0.data.toList a1.toNat.toUInt8)
theorem strings_IndexByte.calls (a0 : ByteArray) (a1 : Int) (r : Int) (w : World) (h : strings_IndexByte.f a0 a1 = some r) :
    Calls Tryd.prog 20 #[.string a0, .int .u8 a1] w fun e w' => e = .returned (.int .i64 r) ∧ Below w.heap.size w w' := by
  obtain rfl := Option.some.inj h
  exact (Tryd.strings_IndexByte a0 a1 w).mono fun e w' ⟨h1, h2⟩ => ⟨h1, h2 ▸ Below.refl _ _⟩
def strings_TrimLeft.f (a0 a1 : ByteArray) : Option ByteArray := if a1.size < 4294967281 then (if a1.data.toList.all (fun b => decide (b.toNat < 128)) = true then some ⟨(Lib.trimLeftS a0.data.toList a1.data.toList).toArray⟩ else none) else none
theorem strings_TrimLeft.calls (a0 a1 : ByteArray) (r : ByteArray) (w : World) (h : strings_TrimLeft.f a0 a1 = some r) :
    Calls Tryd.prog 21 #[.string a0, .string a1] w fun e w' => e = .returned (.string r) ∧ Below w.heap.size w w' := by
  unfold strings_TrimLeft.f at h
  by_cases c : a1.size < 4294967281
  · rw [if_pos c] at h
    by_cases d : a1.data.toList.all (fun b => decide (b.toNat < 128)) = true
    · rw [if_pos d] at h
      obtain rfl := Option.some.inj h
      exact Any.strings_TrimLeft_laid Tryd.lays161 (by kernel_rfl) a0 a1 w c (ascii_of_all d)
    · rw [if_neg d] at h; cases h
  · rw [if_neg c] at h; cases h
theorem spot_of {α : Type} {d : Kd α} {e : Nat} {w : World} {base : Nat} {ok : Nat → Prop} {A : Option Addr} {n c : Nat} {xs : List α} (h : Aside0 (Kd.R d e w base ok (.slice A n c) xs)) (hp : 0 < xs.length) : ∃ g, A = some ⟨g, 0, none⟩ := by
  obtain ⟨g, cap, he, _⟩ := Kd.R_form h.out hp
  injection he with h1
  exact ⟨g, h1⟩
theorem interc : ∀ (ls : List (List UInt8)), ([] : List UInt8).intercalate ls = ls.flatten
  | [] => rfl
  | [a] => by simp [List.intercalate, List.intersperse]
  | a :: b :: ls => by
    have h := interc (b :: ls)
    simp only [List.intercalate, List.intersperse] at h ⊢
    simp only [List.flatten_cons, List.nil_append] at h ⊢
    rw [h]
def line_Join.f (a0 : List ByteArray) : Option ByteArray := if a0.length ≤ 140737488355328 ∧ (a0.map (·.data.toList)).flatten.length ≤ 140737488355328 then some ⟨(a0.map (·.data.toList)).flatten.toArray⟩ else none
theorem line_Join.calls (A0 : Option Addr) (c0 : Nat) (l0 : List ByteArray) (r : ByteArray) (w : World) (hr0 : Kd.C Kd.string w A0 l0.length l0) (hc0 : l0.length ≤ c0) (h : line_Join.f l0 = some r)
    (hA : 0 < l0.length → ∃ g, A0 = some ⟨g, 0, none⟩ := by (intro hp_; exact spot_of (by with_reducible assumption) hp_)) :
    Calls Tryd.prog 15 #[.slice A0 l0.length c0] w fun e w' => e = .returned (.string r) ∧ Below w.heap.size w w' := by
  unfold line_Join.f at h
  by_cases c : l0.length ≤ 140737488355328 ∧ (l0.map (·.data.toList)).flatten.length ≤ 140737488355328
  · rw [if_pos c] at h
    obtain rfl := Option.some.inj h
    have hJ : Calls Tryd.prog 24 #[.slice A0 l0.length c0, .string ⟨#[]⟩] w fun e w' => e = .returned (.string ⟨(l0.map (·.data.toList)).flatten.toArray⟩) ∧ Below w.heap.size w w' := by
      by_cases hp : 0 < l0.length
      · obtain ⟨g, rfl⟩ := hA hp
        have hcells : ∀ (j : Nat) x, l0[j]? = some x → w.cell? ⟨g, 0 + j, none⟩ = some (.string x) := by
          intro j x hj
          have hl := (List.getElem?_eq_some_iff.1 hj).1
          obtain ⟨ad, e, hc⟩ := Kd.at_string hr0 (j : Int) (by omega) (by omega)
          have e' : (⟨g, 0, none⟩ : Addr) = ad := Option.some.inj e
          subst e'
          have hadd : (⟨g, 0, none⟩ : Addr).add ((j : Int).toNat) = ⟨g, 0 + j, none⟩ := by unfold Addr.add; split <;> simp_all
          rw [hadd] at hc
          rw [hc]; congr 2; unfold rdOf; simp [List.getD_eq_getElem?_getD, hj]
        have h0 : w.cell? ⟨g, 0 + 0, none⟩ = some (.string l0[0]) := hcells 0 _ (List.getElem?_eq_getElem hp)
        have hJ := Tryd.strings_Join g 0 c0 l0 ⟨#[]⟩ w hcells (World.block_lt_of_cell? w _ h0) c.1 hc0 (by unfold Lib.join; rw [show (⟨#[]⟩ : ByteArray).data.toList = [] from rfl, interc]; exact c.2)
        unfold Lib.join at hJ; rw [show (⟨#[]⟩ : ByteArray).data.toList = [] from rfl, interc] at hJ; exact hJ
      · have hl : l0 = [] := List.eq_nil_of_length_eq_zero (by omega)
        subst hl
        exact (Tryd.strings_Join_none A0 c0 ⟨#[]⟩ w).mono fun e w' ⟨h1, h2⟩ => ⟨h1, h2 ▸ Below.refl _ _⟩
    go_enter Tryd.func15, Tryd.ntmps15
    go_wp2_with (go_at_call 24; refine hJ.mono ?_; rintro e w' ⟨rfl, hb⟩)
    go_ret
    exact ⟨rfl, hb⟩
  · rw [if_neg c] at h; cases h
end Go.Proofs.YtnecoebdmjkblaaDoor.H
