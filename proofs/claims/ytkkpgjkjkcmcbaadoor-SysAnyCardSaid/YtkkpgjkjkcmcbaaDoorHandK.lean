/- sys.span's methods: what a pointer to a span's cells is written; no conditions. -/
import Derived.Test.YtkkpgjkjkcmcbaaDoorXx1
import Derived.Test.YtkkpgjkjkcmcbaaDoorXx5
import Derived.WalkKit
import Derived.ProofKit
import Derived.Deep.RegionHeld
namespace Go.Proofs.YtkkpgjkjkcmcbaaDoor.H
open Go.Proofs.YtkkpgjkjkcmcbaaDoor.Flt Go.RowKit Go.Proofs.YtkkpgjkjkcmcbaaDoorW.PrintWords
open Go.Proofs.YtkkpgjkjkcmcbaaDoor.X (num_Ceil.f num_Ceil.calls num_Floor.f num_Floor.calls)
theorem setCell_self {w : World} {b o : Nat} {v : Value} (h : w.cell? ⟨b, o, none⟩ = some v) : w.setCell ⟨b, o, none⟩ v = w := by
  have e : (w.setCell ⟨b, o, none⟩ v).heap = w.heap := by
    apply Array.ext_getElem?
    intro i
    show (w.heap.modify b _)[i]? = w.heap[i]?
    rw [Array.getElem?_modify]
    by_cases hi : b = i
    · subst hi
      rw [if_pos rfl]
      cases hb : w.heap[b]? with
      | none => rfl
      | some ob =>
        cases ob with
        | cells c t fr =>
          have hc : c[o]? = some v := by simpa [World.cell?, hb] using h
          have : c.setIfInBounds o v = c := by
            apply Array.ext_getElem?
            intro j
            rw [Array.getElem?_setIfInBounds]
            by_cases hj : o = j
            · subst hj
              rw [if_pos rfl]
              have : o < c.size := by
                by_cases z : o < c.size
                · exact z
                · rw [Array.getElem?_eq_none (by omega)] at hc; cases hc
              rw [if_pos this, hc]
            · rw [if_neg hj]
          simp [this]
        | _ => rfl
    · rw [if_neg hi]
  show ({ w with heap := (w.setCell ⟨b, o, none⟩ v).heap } : World) = w
  rw [e]
/-- A span's four cells. -/
def put4 (w : World) (b o : Nat) (lo hi : Int) (ab be : Bool) : World := (((w.setCell ⟨b, o, none⟩ (.int .i64 lo)).setCell ⟨b, o + 1, none⟩ (.int .i64 hi)).setCell ⟨b, o + 2, none⟩ (.bool ab)).setCell ⟨b, o + 3, none⟩ (.bool be)
structure Span (w : World) (b o : Nat) (lo hi : Int) (ab be : Bool) : Prop where
  c0 : w.cell? ⟨b, o, none⟩ = some (.int .i64 lo)
  c1 : w.cell? ⟨b, o + 1, none⟩ = some (.int .i64 hi)
  c2 : w.cell? ⟨b, o + 2, none⟩ = some (.bool ab)
  c3 : w.cell? ⟨b, o + 3, none⟩ = some (.bool be)
  f0 : w.frozen? ⟨b, o, none⟩ = false
  f1 : w.frozen? ⟨b, o + 1, none⟩ = false
  f2 : w.frozen? ⟨b, o + 2, none⟩ = false
  f3 : w.frozen? ⟨b, o + 3, none⟩ = false
theorem cell_ne {w : World} {b o p : Nat} {v : Value} (h : o ≠ p) : (w.setCell ⟨b, o, none⟩ v).cell? ⟨b, p, none⟩ = w.cell? ⟨b, p, none⟩ := by
  unfold World.cell? World.setCell
  simp only [Array.getElem?_modify, if_true]
  cases w.heap[b]? with
  | none => rfl
  | some ob =>
    cases ob with
    | cells c t fr => simp [h]
    | _ => rfl
/-- Nothing is written. -/
theorem put4_self {w : World} {b o : Nat} {lo hi : Int} {ab be : Bool} (h : Span w b o lo hi ab be) : put4 w b o lo hi ab be = w := by
  unfold put4
  rw [setCell_self h.c0, setCell_self h.c1, setCell_self h.c2, setCell_self h.c3]
/-- The least end is written. -/
theorem put4_lo {w : World} {b o : Nat} {lo hi : Int} {ab be : Bool} (h : Span w b o lo hi ab be) (n : Int) : put4 w b o n hi true be = (w.setCell ⟨b, o, none⟩ (.int .i64 n)).setCell ⟨b, o + 2, none⟩ (.bool true) := by
  unfold put4
  have e1 : (w.setCell ⟨b, o, none⟩ (.int .i64 n)).cell? ⟨b, o + 1, none⟩ = some (.int .i64 hi) := (cell_ne (by omega)).trans h.c1
  have e3 : ((w.setCell ⟨b, o, none⟩ (.int .i64 n)).setCell ⟨b, o + 2, none⟩ (.bool true)).cell? ⟨b, o + 3, none⟩ = some (.bool be) := (cell_ne (by omega)).trans ((cell_ne (by omega)).trans h.c3)
  rw [setCell_self e1, setCell_self e3]
/-- The greatest end is written. -/
theorem put4_hi {w : World} {b o : Nat} {lo hi : Int} {ab be : Bool} (h : Span w b o lo hi ab be) (n : Int) : put4 w b o lo n ab true = (w.setCell ⟨b, o + 1, none⟩ (.int .i64 n)).setCell ⟨b, o + 3, none⟩ (.bool true) := by
  unfold put4
  have e2 : (w.setCell ⟨b, o + 1, none⟩ (.int .i64 n)).cell? ⟨b, o + 2, none⟩ = some (.bool ab) := (cell_ne (by omega)).trans h.c2
  rw [setCell_self h.c0, setCell_self e2]
def loS (lo n : Int) (ab : Bool) : Int × Bool := if ab = false ∨ n > lo then (n, true) else (lo, ab)
def hiS (hi n : Int) (be : Bool) : Int × Bool := if be = false ∨ n < hi then (n, true) else (hi, be)
set_option maxHeartbeats 2000000 in
set_option maxRecDepth 100000 in
theorem atLeast.calls (b o : Nat) (lo hi n : Int) (ab be : Bool) (w : World) (h : Span w b o lo hi ab be) :
    Calls Tryd.prog 59 #[.pointer (some ⟨b, o, none⟩), .int .i64 n] w fun e w' => e = .returned (.tuple #[]) ∧ w' = put4 w b o (loS lo n ab).1 hi (loS lo n ab).2 be := by
  have HS := Aside0.mk h
  have h0 := h.c0
  have h1 := h.c1
  have h2 := h.c2
  have h3 := h.c3
  have g0 := h.f0
  have g2 := h.f2
  clear h
  cases ab with
  | false =>
    have e : loS lo n false = (n, true) := if_pos (.inl rfl)
    rw [e, put4_lo HS.out]
    clear e
    go_enter Tryd.func59, Tryd.ntmps59
    go_wp2
    refine bodyPost_end (results_none rfl _ _ _) rfl ?_
    exact ⟨rfl, rfl⟩
  | true =>
    by_cases c : n > lo
    · have e : loS lo n true = (n, true) := if_pos (.inr c)
      rw [e, put4_lo HS.out]
      clear e
      have cb : decide (lo < n) = true := decide_eq_true c
      clear c
      go_enter Tryd.func59, Tryd.ntmps59
      go_wp2
      refine bodyPost_end (results_none rfl _ _ _) rfl ?_
      exact ⟨rfl, rfl⟩
    · have e : loS lo n true = (lo, true) := if_neg (by intro z; rcases z with z | z; · cases z
                                                        · exact c z)
      rw [e, put4_self HS.out]
      clear e
      have cb : decide (lo < n) = false := decide_eq_false c
      clear c
      go_enter Tryd.func59, Tryd.ntmps59
      go_wp2
      refine bodyPost_end (results_none rfl _ _ _) rfl ?_
      exact ⟨rfl, rfl⟩
set_option maxHeartbeats 2000000 in
set_option maxRecDepth 100000 in
theorem atMost.calls (b o : Nat) (lo hi n : Int) (ab be : Bool) (w : World) (h : Span w b o lo hi ab be) :
    Calls Tryd.prog 61 #[.pointer (some ⟨b, o, none⟩), .int .i64 n] w fun e w' => e = .returned (.tuple #[]) ∧ w' = put4 w b o lo (hiS hi n be).1 ab (hiS hi n be).2 := by
  have HS := Aside0.mk h
  have h0 := h.c0
  have h1 := h.c1
  have h2 := h.c2
  have h3 := h.c3
  have g1 := h.f1
  have g3 := h.f3
  clear h
  cases be with
  | false =>
    have e : hiS hi n false = (n, true) := if_pos (.inl rfl)
    rw [e, put4_hi HS.out]
    clear e
    go_enter Tryd.func61, Tryd.ntmps61
    go_wp2
    refine bodyPost_end (results_none rfl _ _ _) rfl ?_
    exact ⟨rfl, rfl⟩
  | true =>
    by_cases c : n < hi
    · have e : hiS hi n true = (n, true) := if_pos (.inr c)
      rw [e, put4_hi HS.out]
      clear e
      have cb : decide (n < hi) = true := decide_eq_true c
      clear c
      go_enter Tryd.func61, Tryd.ntmps61
      go_wp2
      refine bodyPost_end (results_none rfl _ _ _) rfl ?_
      exact ⟨rfl, rfl⟩
    · have e : hiS hi n true = (hi, true) := if_neg (by intro z; rcases z with z | z; · cases z
                                                        · exact c z)
      rw [e, put4_self HS.out]
      clear e
      have cb : decide (n < hi) = false := decide_eq_false c
      clear c
      go_enter Tryd.func61, Tryd.ntmps61
      go_wp2
      refine bodyPost_end (results_none rfl _ _ _) rfl ?_
      exact ⟨rfl, rfl⟩
theorem Span.drew {w : World} {b o : Nat} {lo hi : Int} {ab be : Bool} (h : Span w b o lo hi ab be) (n : Nat) : Span (w.drewN n) b o lo hi ab be := ⟨h.c0, h.c1, h.c2, h.c3, h.f0, h.f1, h.f2, h.f3⟩
def sys_span_take.f (lo hi : Int) (ab be : Bool) (c k : Int) : Option (Int × Int × Bool × Bool) :=
  if c > 0 then (num_Ceil.f 5 (wrap64 (-k)) c).bind fun p => if p.2 = true then some ((loS lo p.1 ab).1, hi, (loS lo p.1 ab).2, be) else some (lo, hi, ab, be)
  else (num_Floor.f 5 k (wrap64 (-c))).bind fun p => if p.2 = true then some (lo, (hiS hi p.1 be).1, ab, (hiS hi p.1 be).2) else some (lo, hi, ab, be)
set_option maxHeartbeats 4000000 in
set_option maxRecDepth 100000 in
theorem take_put (b o : Nat) (lo hi : Int) (ab be : Bool) (c k : Int) (r1 r2 : Int) (r3 r4 : Bool) (w : World) (hs : Span w b o lo hi ab be) (h : sys_span_take.f lo hi ab be c k = some (r1, r2, r3, r4)) :
    Calls Tryd.prog 36 #[.pointer (some ⟨b, o, none⟩), .int .i64 c, .int .i64 k] w fun e w' => e = .returned (.tuple #[]) ∧ ∃ w1, Below w.heap.size w w1 ∧ w' = put4 w1 b o r1 r2 r3 r4 := by
  have HS := Aside0.mk hs
  clear hs
  unfold sys_span_take.f at h
  by_cases hc : c > 0
  · rw [if_pos hc] at h
    obtain ⟨⟨n, ok⟩, hp, h⟩ := Option.bind_eq_some_iff.mp h
    have HP := Aside0.mk hp
    have cb : decide (0 < c) = true := decide_eq_true hc
    clear hp hc
    dsimp only at h
    cases ok with
    | true =>
      rw [if_pos rfl] at h
      have H := Aside0.mk h
      clear h
      go_enter Tryd.func36, Tryd.ntmps36
      go_wp2_with (first | (go_at_call 58; (with_reducible refine (num_Ceil.calls 5 (wrap64 (-k)) c n true _ HP.out).mono ?_); rintro e w1 ⟨rfl, hd⟩; have HD := Aside0.mk hd; clear hd) | (go_at_call 59; (with_reducible refine (atLeast.calls b o lo hi n ab be _ (by obtain ⟨m, rfl⟩ := HD.out.out; exact HS.out.drew m)).mono ?_); rintro e w2 ⟨rfl, hw2⟩; have HW := Aside0.mk hw2; clear hw2))
      refine bodyPost_ret (results_none rfl _ _ _) rfl ?_
      have e := Option.some.inj H.out
      obtain ⟨m, hm⟩ := HD.out.out
      simp only [Prod.mk.injEq] at e
      obtain ⟨rfl, rfl, rfl, rfl⟩ := e
      exact ⟨rfl, _, HD.out.below, HW.out⟩
    | false =>
      rw [if_neg (by decide)] at h
      have H := Aside0.mk h
      clear h
      go_enter Tryd.func36, Tryd.ntmps36
      go_wp2_with (first | (go_at_call 58; (with_reducible refine (num_Ceil.calls 5 (wrap64 (-k)) c n false _ HP.out).mono ?_); rintro e w1 ⟨rfl, hd⟩; have HD := Aside0.mk hd; clear hd))
      refine bodyPost_ret (results_none rfl _ _ _) rfl ?_
      have e := Option.some.inj H.out
      simp only [Prod.mk.injEq] at e
      obtain ⟨rfl, rfl, rfl, rfl⟩ := e
      obtain ⟨m, rfl⟩ := HD.out.out
      exact ⟨rfl, _, HD.out.below, (put4_self (HS.out.drew m)).symm⟩
  · rw [if_neg hc] at h
    obtain ⟨⟨n, ok⟩, hp, h⟩ := Option.bind_eq_some_iff.mp h
    have HP := Aside0.mk hp
    have cb : decide (0 < c) = false := decide_eq_false hc
    clear hp hc
    dsimp only at h
    cases ok with
    | true =>
      rw [if_pos rfl] at h
      have H := Aside0.mk h
      clear h
      go_enter Tryd.func36, Tryd.ntmps36
      go_wp2_with (first | (go_at_call 60; (with_reducible refine (num_Floor.calls 5 k (wrap64 (-c)) n true _ HP.out).mono ?_); rintro e w1 ⟨rfl, hd⟩; have HD := Aside0.mk hd; clear hd) | (go_at_call 61; (with_reducible refine (atMost.calls b o lo hi n ab be _ (by obtain ⟨m, rfl⟩ := HD.out.out; exact HS.out.drew m)).mono ?_); rintro e w2 ⟨rfl, hw2⟩; have HW := Aside0.mk hw2; clear hw2))
      refine bodyPost_end (results_none rfl _ _ _) rfl ?_
      have e := Option.some.inj H.out
      simp only [Prod.mk.injEq] at e
      obtain ⟨rfl, rfl, rfl, rfl⟩ := e
      exact ⟨rfl, _, HD.out.below, HW.out⟩
    | false =>
      rw [if_neg (by decide)] at h
      have H := Aside0.mk h
      clear h
      go_enter Tryd.func36, Tryd.ntmps36
      go_wp2_with (first | (go_at_call 60; (with_reducible refine (num_Floor.calls 5 k (wrap64 (-c)) n false _ HP.out).mono ?_); rintro e w1 ⟨rfl, hd⟩; have HD := Aside0.mk hd; clear hd))
      refine bodyPost_end (results_none rfl _ _ _) rfl ?_
      have e := Option.some.inj H.out
      simp only [Prod.mk.injEq] at e
      obtain ⟨rfl, rfl, rfl, rfl⟩ := e
      obtain ⟨m, rfl⟩ := HD.out.out
      exact ⟨rfl, _, HD.out.below, (put4_self (HS.out.drew m)).symm⟩
theorem sys_span_take.calls (b o : Nat) (lo hi : Int) (ab be : Bool) (c k : Int) (r1 r2 : Int) (r3 r4 : Bool) (w : World) (hs : Span w b o lo hi ab be) (h : sys_span_take.f lo hi ab be c k = some (r1, r2, r3, r4)) :
    Calls Tryd.prog 36 #[.pointer (some ⟨b, o, none⟩), .int .i64 c, .int .i64 k] w fun e w' => e = .returned (.tuple #[]) ∧ ∃ w1, Below w.heap.size w w1 ∧ w' = (((w1.setCell ⟨b, o, none⟩ (.int .i64 r1)).setCell ⟨b, o + 1, none⟩ (.int .i64 r2)).setCell ⟨b, o + 2, none⟩ (.bool r3)).setCell ⟨b, o + 3, none⟩ (.bool r4) :=
  (take_put b o lo hi ab be c k r1 r2 r3 r4 w hs h).mono fun _ _ ⟨h1, w1, h2, h3⟩ => ⟨h1, w1, h2, h3⟩
end Go.Proofs.YtkkpgjkjkcmcbaaDoor.H
